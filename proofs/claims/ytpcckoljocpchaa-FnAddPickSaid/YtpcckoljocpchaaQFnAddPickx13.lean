-- Written by a program of this session (mk.py). Lean checks it.
import Derived.Test.YtpcckoljocpchaaQFnAddPickx0
import Derived.Test.YtpcckoljocpchaaQFnAddPickx5
import Derived.Test.YtpcckoljocpchaaQFnAddPickx6
import Derived.Test.YtpcckoljocpchaaQFnAddPickx7
import Derived.Test.YtpcckoljocpchaaQFnAddPickx11
import Derived.Test.YtpcckoljocpchaaQFnAddPickx12
namespace Go.Proofs.Ytpcckoljocpchaa.QFnAddPick
open Go.RowKit Go.Proofs.YtpcckoljocpchaaW.PrintWords Go.Proofs.YtpcckoljocpchaaW.PrintLast Go.Proofs.YtpcckoljocpchaaW.PrintMore
attribute [local go_sem] max2_int min2_int max_two min_two max_three min_three max_four min_four   -- for this text's walks alone
set_option linter.unusedVariables false
set_option linter.unusedSimpArgs false

/-! ### laws_FnAddPick: function 4 -/
mutual
def laws_FnAddPick.j0 : Nat → Int → Int → Int → Int → Int → Bool → Int → List (S92) → Int → List (S92) → Int → List (S92) → Option (Bool)
 | 0, _, _, _, _, _, _, _, _, _, _, _, _ => none
 | k + 1, x4, x5, x6, x8, x10, x58, x324000, x324001, x330000, x330001, x336000, x336001 => if x58 = true then (if x8 = x10 then (if (x330001.length : Int) = (x336001.length : Int) then (some (x8 == (-1))) else (some false)) else (some false)) else (laws_FnAddPick.l0 k x4 x5 x6 x8 0 x324000 x324001 x330000 x330001)
def laws_FnAddPick.l0 : Nat → Int → Int → Int → Int → Int → Int → List (S92) → Int → List (S92) → Option (Bool)
 | 0, _, _, _, _, _, _, _, _, _ => none
 | k + 1, x4, x5, x6, x8, x75, x324000, x324001, x330000, x330001 => if x75 < 8 then (laws_FnAddPick.l1 k x4 x5 x6 x8 x75 (([] : List Int)) x75 x324000 0 x324000 x324001 x330000 x330001) else ((impl_CircuitValid.f k x330000 x330001).bind fun t336 => (some t336))
def laws_FnAddPick.l1 : Nat → Int → Int → Int → Int → Int → List Int → Int → Int → Int → Int → List (S92) → Int → List (S92) → Option (Bool)
 | 0, _, _, _, _, _, _, _, _, _, _, _, _, _ => none
 | k + 1, x4, x5, x6, x8, x11, x12, x75, x80, x81, x324000, x324001, x330000, x330001 => if x81 < x80 then (if 0 ≤ (Int.tmod x81 3) then (if x12.length < 17592186044416 then (laws_FnAddPick.l1 k x4 x5 x6 x8 x11 (x12 ++ [Int.tmod (shr .i64 x11 (Int.tmod x81 3)) 2]) x75 x80 (wrap64 (x81 + 1)) x324000 x324001 x330000 x330001) else (none)) else (none)) else ((impl_NodeValues.f k x324000 x324001 x12).bind fun t343 => ((impl_NodeValues.f k x330000 x330001 x12).bind fun t346 => (if (t346.length : Int) < (t343.length : Int) then (laws_FnAddPick.j3 k x4 x5 x6 x8 x12 x75 true x324000 x324001 x330000 x330001) else (if 0 ≤ (t343.length : Int) then (if (t343.length : Int) ≤ (t346.length : Int) then ((laws_wcInts.f k t343 (t346.take ((t343.length : Int) : Int).toNat)).bind fun t353 => (laws_FnAddPick.j3 k x4 x5 x6 x8 x12 x75 (!t353) x324000 x324001 x330000 x330001)) else (none)) else (none)))))
def laws_FnAddPick.j3 : Nat → Int → Int → Int → Int → List Int → Int → Bool → Int → List (S92) → Int → List (S92) → Option (Bool)
 | 0, _, _, _, _, _, _, _, _, _, _, _ => none
 | k + 1, x4, x5, x6, x8, x12, x75, x112, x324000, x324001, x330000, x330001 => if x112 = true then (some false) else ((impl_EdgeValue.f k x324000 x324001 x12 x6).bind fun t354 => ((impl_EdgeValue.f k x324000 x324001 x12 x4).bind fun t355 => (if t355 = 1 then ((impl_EdgeValue.f k x324000 x324001 x12 x5).bind fun t356 => ((impl_EdgeValue.f k x330000 x330001 x12 x8).bind fun t357 => (if t357 = t356 then (laws_FnAddPick.l0 k x4 x5 x6 x8 (wrap64 (x75 + 1)) x324000 x324001 x330000 x330001) else (some false)))) else ((impl_EdgeValue.f k x330000 x330001 x12 x8).bind fun t358 => (if t358 = t354 then (laws_FnAddPick.l0 k x4 x5 x6 x8 (wrap64 (x75 + 1)) x324000 x324001 x330000 x330001) else (some false))))))
end
def laws_FnAddPick.f (k : Nat) (l0 : List Int) : Option (Bool) := if (l0.length : Int) > 1048576 then (some true) else ((spec_DrawAddPick.f k l0).bind fun bt316 => ((impl_AddPick.f k bt316.1 bt316.2.1 bt316.2.2.1 bt316.2.2.2.1 bt316.2.2.2.2).bind fun bt324 => ((spec_AddPick.f k bt316.1 bt316.2.1 bt316.2.2.1 bt316.2.2.2.1 bt316.2.2.2.2).bind fun bt330 => (if bt324.2.2 = bt330.2.2 then (if (bt324.2.1.length : Int) = (bt330.2.1.length : Int) then (laws_FnAddPick.j0 k bt316.2.2.1 bt316.2.2.2.1 bt316.2.2.2.2 bt324.2.2 bt330.2.2 (decide (bt324.2.2 < 0)) bt316.1 bt316.2.1 bt324.1 bt324.2.1 bt330.1 bt330.2.1) else (laws_FnAddPick.j0 k bt316.2.2.1 bt316.2.2.2.1 bt316.2.2.2.2 bt324.2.2 bt330.2.2 true bt316.1 bt316.2.1 bt324.1 bt324.2.1 bt330.1 bt330.2.1)) else (laws_FnAddPick.j0 k bt316.2.2.1 bt316.2.2.2.1 bt316.2.2.2.2 bt324.2.2 bt330.2.2 true bt316.1 bt316.2.1 bt324.1 bt324.2.1 bt330.1 bt330.2.1)))))
theorem laws_FnAddPick.mono_l : ∀ k, (∀ y0 y1 y2 y3 y4 y5 y6 y7 y8 y9 y10 y11, LeO (laws_FnAddPick.j0 k y0 y1 y2 y3 y4 y5 y6 y7 y8 y9 y10 y11) (laws_FnAddPick.j0 (k + 1) y0 y1 y2 y3 y4 y5 y6 y7 y8 y9 y10 y11)) ∧ (∀ y0 y1 y2 y3 y4 y5 y6 y7 y8, LeO (laws_FnAddPick.l0 k y0 y1 y2 y3 y4 y5 y6 y7 y8) (laws_FnAddPick.l0 (k + 1) y0 y1 y2 y3 y4 y5 y6 y7 y8)) ∧ (∀ y0 y1 y2 y3 y4 y5 y6 y7 y8 y9 y10 y11 y12, LeO (laws_FnAddPick.l1 k y0 y1 y2 y3 y4 y5 y6 y7 y8 y9 y10 y11 y12) (laws_FnAddPick.l1 (k + 1) y0 y1 y2 y3 y4 y5 y6 y7 y8 y9 y10 y11 y12)) ∧ (∀ y0 y1 y2 y3 y4 y5 y6 y7 y8 y9 y10, LeO (laws_FnAddPick.j3 k y0 y1 y2 y3 y4 y5 y6 y7 y8 y9 y10) (laws_FnAddPick.j3 (k + 1) y0 y1 y2 y3 y4 y5 y6 y7 y8 y9 y10))
 | 0 => ⟨fun _ _ _ _ _ _ _ _ _ _ _ _ r h => by simp [laws_FnAddPick.j0] at h, fun _ _ _ _ _ _ _ _ _ r h => by simp [laws_FnAddPick.l0] at h, fun _ _ _ _ _ _ _ _ _ _ _ _ _ r h => by simp [laws_FnAddPick.l1] at h, fun _ _ _ _ _ _ _ _ _ _ _ r h => by simp [laws_FnAddPick.j3] at h⟩
 | k + 1 => by
  obtain ⟨ih0, ih1, ih2, ih3⟩ := laws_FnAddPick.mono_l k
  refine ⟨?_, ?_, ?_, ?_⟩
  ·intro y0 y1 y2 y3 y4 y5 y6 y7 y8 y9 y10 y11
   unfold laws_FnAddPick.j0
   repeat' first
   | (with_reducible exact ih0 _ _ _ _ _ _ _ _ _ _ _ _)
   | (with_reducible exact ih1 _ _ _ _ _ _ _ _ _)
   | (with_reducible exact ih2 _ _ _ _ _ _ _ _ _ _ _ _ _)
   | (with_reducible exact ih3 _ _ _ _ _ _ _ _ _ _ _)
   | (with_reducible exact impl_AddPick.mono _ _ _ _ _ _)
   | (with_reducible exact impl_CircuitValid.mono _ _ _)
   | (with_reducible exact impl_EdgeValue.mono _ _ _ _ _)
   | (with_reducible exact impl_NodeValues.mono _ _ _ _)
   | (with_reducible exact laws_wcInts.mono _ _ _)
   | (with_reducible exact spec_AddPick.mono _ _ _ _ _ _)
   | (with_reducible exact spec_DrawAddPick.mono _ _)
   | (with_reducible exact LeO.refl _)
   | (with_reducible exact LeO.none _)
   | (with_reducible refine LeO.ite ?_ ?_)
   | (with_reducible refine LeO.bind ?_ (fun _ => ?_))
   | exact ih0 _ _ _ _ _ _ _ _ _ _ _ _
   | exact ih1 _ _ _ _ _ _ _ _ _
   | exact ih2 _ _ _ _ _ _ _ _ _ _ _ _ _
   | exact ih3 _ _ _ _ _ _ _ _ _ _ _
   | exact impl_AddPick.mono _ _ _ _ _ _
   | exact impl_CircuitValid.mono _ _ _
   | exact impl_EdgeValue.mono _ _ _ _ _
   | exact impl_NodeValues.mono _ _ _ _
   | exact laws_wcInts.mono _ _ _
   | exact spec_AddPick.mono _ _ _ _ _ _
   | exact spec_DrawAddPick.mono _ _
   | exact LeO.none _
   | refine LeO.ite ?_ ?_
   | refine LeO.bind ?_ (fun _ => ?_)
  ·intro y0 y1 y2 y3 y4 y5 y6 y7 y8
   unfold laws_FnAddPick.l0
   repeat' first
   | (with_reducible exact ih0 _ _ _ _ _ _ _ _ _ _ _ _)
   | (with_reducible exact ih1 _ _ _ _ _ _ _ _ _)
   | (with_reducible exact ih2 _ _ _ _ _ _ _ _ _ _ _ _ _)
   | (with_reducible exact ih3 _ _ _ _ _ _ _ _ _ _ _)
   | (with_reducible exact impl_AddPick.mono _ _ _ _ _ _)
   | (with_reducible exact impl_CircuitValid.mono _ _ _)
   | (with_reducible exact impl_EdgeValue.mono _ _ _ _ _)
   | (with_reducible exact impl_NodeValues.mono _ _ _ _)
   | (with_reducible exact laws_wcInts.mono _ _ _)
   | (with_reducible exact spec_AddPick.mono _ _ _ _ _ _)
   | (with_reducible exact spec_DrawAddPick.mono _ _)
   | (with_reducible exact LeO.refl _)
   | (with_reducible exact LeO.none _)
   | (with_reducible refine LeO.ite ?_ ?_)
   | (with_reducible refine LeO.bind ?_ (fun _ => ?_))
   | exact ih0 _ _ _ _ _ _ _ _ _ _ _ _
   | exact ih1 _ _ _ _ _ _ _ _ _
   | exact ih2 _ _ _ _ _ _ _ _ _ _ _ _ _
   | exact ih3 _ _ _ _ _ _ _ _ _ _ _
   | exact impl_AddPick.mono _ _ _ _ _ _
   | exact impl_CircuitValid.mono _ _ _
   | exact impl_EdgeValue.mono _ _ _ _ _
   | exact impl_NodeValues.mono _ _ _ _
   | exact laws_wcInts.mono _ _ _
   | exact spec_AddPick.mono _ _ _ _ _ _
   | exact spec_DrawAddPick.mono _ _
   | exact LeO.none _
   | refine LeO.ite ?_ ?_
   | refine LeO.bind ?_ (fun _ => ?_)
  ·intro y0 y1 y2 y3 y4 y5 y6 y7 y8 y9 y10 y11 y12
   unfold laws_FnAddPick.l1
   repeat' first
   | (with_reducible exact ih0 _ _ _ _ _ _ _ _ _ _ _ _)
   | (with_reducible exact ih1 _ _ _ _ _ _ _ _ _)
   | (with_reducible exact ih2 _ _ _ _ _ _ _ _ _ _ _ _ _)
   | (with_reducible exact ih3 _ _ _ _ _ _ _ _ _ _ _)
   | (with_reducible exact impl_AddPick.mono _ _ _ _ _ _)
   | (with_reducible exact impl_CircuitValid.mono _ _ _)
   | (with_reducible exact impl_EdgeValue.mono _ _ _ _ _)
   | (with_reducible exact impl_NodeValues.mono _ _ _ _)
   | (with_reducible exact laws_wcInts.mono _ _ _)
   | (with_reducible exact spec_AddPick.mono _ _ _ _ _ _)
   | (with_reducible exact spec_DrawAddPick.mono _ _)
   | (with_reducible exact LeO.refl _)
   | (with_reducible exact LeO.none _)
   | (with_reducible refine LeO.ite ?_ ?_)
   | (with_reducible refine LeO.bind ?_ (fun _ => ?_))
   | exact ih0 _ _ _ _ _ _ _ _ _ _ _ _
   | exact ih1 _ _ _ _ _ _ _ _ _
   | exact ih2 _ _ _ _ _ _ _ _ _ _ _ _ _
   | exact ih3 _ _ _ _ _ _ _ _ _ _ _
   | exact impl_AddPick.mono _ _ _ _ _ _
   | exact impl_CircuitValid.mono _ _ _
   | exact impl_EdgeValue.mono _ _ _ _ _
   | exact impl_NodeValues.mono _ _ _ _
   | exact laws_wcInts.mono _ _ _
   | exact spec_AddPick.mono _ _ _ _ _ _
   | exact spec_DrawAddPick.mono _ _
   | exact LeO.none _
   | refine LeO.ite ?_ ?_
   | refine LeO.bind ?_ (fun _ => ?_)
  ·intro y0 y1 y2 y3 y4 y5 y6 y7 y8 y9 y10
   unfold laws_FnAddPick.j3
   repeat' first
   | (with_reducible exact ih0 _ _ _ _ _ _ _ _ _ _ _ _)
   | (with_reducible exact ih1 _ _ _ _ _ _ _ _ _)
   | (with_reducible exact ih2 _ _ _ _ _ _ _ _ _ _ _ _ _)
   | (with_reducible exact ih3 _ _ _ _ _ _ _ _ _ _ _)
   | (with_reducible exact impl_AddPick.mono _ _ _ _ _ _)
   | (with_reducible exact impl_CircuitValid.mono _ _ _)
   | (with_reducible exact impl_EdgeValue.mono _ _ _ _ _)
   | (with_reducible exact impl_NodeValues.mono _ _ _ _)
   | (with_reducible exact laws_wcInts.mono _ _ _)
   | (with_reducible exact spec_AddPick.mono _ _ _ _ _ _)
   | (with_reducible exact spec_DrawAddPick.mono _ _)
   | (with_reducible exact LeO.refl _)
   | (with_reducible exact LeO.none _)
   | (with_reducible refine LeO.ite ?_ ?_)
   | (with_reducible refine LeO.bind ?_ (fun _ => ?_))
   | exact ih0 _ _ _ _ _ _ _ _ _ _ _ _
   | exact ih1 _ _ _ _ _ _ _ _ _
   | exact ih2 _ _ _ _ _ _ _ _ _ _ _ _ _
   | exact ih3 _ _ _ _ _ _ _ _ _ _ _
   | exact impl_AddPick.mono _ _ _ _ _ _
   | exact impl_CircuitValid.mono _ _ _
   | exact impl_EdgeValue.mono _ _ _ _ _
   | exact impl_NodeValues.mono _ _ _ _
   | exact laws_wcInts.mono _ _ _
   | exact spec_AddPick.mono _ _ _ _ _ _
   | exact spec_DrawAddPick.mono _ _
   | exact LeO.none _
   | refine LeO.ite ?_ ?_
   | refine LeO.bind ?_ (fun _ => ?_)
theorem laws_FnAddPick.mono : ∀ a0 k, LeO (laws_FnAddPick.f k a0) (laws_FnAddPick.f (k + 1) a0) := by
 intro a0 k
 obtain ⟨ih0, ih1, ih2, ih3⟩ := laws_FnAddPick.mono_l k
 unfold laws_FnAddPick.f
 repeat' first
   | (with_reducible exact ih0 _ _ _ _ _ _ _ _ _ _ _ _)
   | (with_reducible exact ih1 _ _ _ _ _ _ _ _ _)
   | (with_reducible exact ih2 _ _ _ _ _ _ _ _ _ _ _ _ _)
   | (with_reducible exact ih3 _ _ _ _ _ _ _ _ _ _ _)
   | (with_reducible exact impl_AddPick.mono _ _ _ _ _ _)
   | (with_reducible exact impl_CircuitValid.mono _ _ _)
   | (with_reducible exact impl_EdgeValue.mono _ _ _ _ _)
   | (with_reducible exact impl_NodeValues.mono _ _ _ _)
   | (with_reducible exact laws_wcInts.mono _ _ _)
   | (with_reducible exact spec_AddPick.mono _ _ _ _ _ _)
   | (with_reducible exact spec_DrawAddPick.mono _ _)
   | (with_reducible exact LeO.refl _)
   | (with_reducible exact LeO.none _)
   | (with_reducible refine LeO.ite ?_ ?_)
   | (with_reducible refine LeO.bind ?_ (fun _ => ?_))
   | exact ih0 _ _ _ _ _ _ _ _ _ _ _ _
   | exact ih1 _ _ _ _ _ _ _ _ _
   | exact ih2 _ _ _ _ _ _ _ _ _ _ _ _ _
   | exact ih3 _ _ _ _ _ _ _ _ _ _ _
   | exact impl_AddPick.mono _ _ _ _ _ _
   | exact impl_CircuitValid.mono _ _ _
   | exact impl_EdgeValue.mono _ _ _ _ _
   | exact impl_NodeValues.mono _ _ _ _
   | exact laws_wcInts.mono _ _ _
   | exact spec_AddPick.mono _ _ _ _ _ _
   | exact spec_DrawAddPick.mono _ _
   | exact LeO.none _
   | refine LeO.ite ?_ ?_
   | refine LeO.bind ?_ (fun _ => ?_)
def laws_FnAddPick.T17 : Bool × List (List Nat × List Nat) := (true, [([], []), ([], []), ([0, 1], [0, 1]), ([], []), ([], []), ([3, 4, 2], [3, 4]), ([2, 5, 0, 1, 2], [2]), ([5, 6, 0, 1, 2, 3, 4, 5, 6], [5])])
def laws_FnAddPick.B17 : List Nat := [0, 0, 3, 0, 0, 31, 63, 127]
theorem laws_FnAddPick.tab17 : rtab .any (opsOf Try.f4 17) = laws_FnAddPick.T17 := by kernel_rfl
theorem laws_FnAddPick.bits17 : waitsOk laws_FnAddPick.T17.2 laws_FnAddPick.B17 = true := by kernel_rfl
set_option maxHeartbeats 8000000 in
set_option maxRecDepth 100000 in
theorem laws_FnAddPick.calls (k : Nat) (A0 : Option Addr) (c0 : Nat) (l0 : List Int) (r : Bool) (w : World) (hr0 : Kd.C (Kd.int .u8) w A0 l0.length l0) (hc0 : l0.length ≤ c0) (h : laws_FnAddPick.f k l0 = some r) :
  Calls Try.prog 4 #[.slice A0 l0.length c0] w fun e w' => e = .returned (.bool r) ∧ Below w.heap.size w w' := by
 have hu28 := Try.underlying28
 have HR0 := Aside0.mk hr0
 have HC0 := Aside0.mk hc0
 clear hr0 hc0
 have HB := Aside0.mk (Below.refl w.heap.size w)
 have H : (if (l0.length : Int) > 1048576 then (some true) else ((spec_DrawAddPick.f k l0).bind fun bt316 => ((impl_AddPick.f k bt316.1 bt316.2.1 bt316.2.2.1 bt316.2.2.2.1 bt316.2.2.2.2).bind fun bt324 => ((spec_AddPick.f k bt316.1 bt316.2.1 bt316.2.2.1 bt316.2.2.2.1 bt316.2.2.2.2).bind fun bt330 => (if bt324.2.2 = bt330.2.2 then (if (bt324.2.1.length : Int) = (bt330.2.1.length : Int) then (laws_FnAddPick.j0 k bt316.2.2.1 bt316.2.2.2.1 bt316.2.2.2.2 bt324.2.2 bt330.2.2 (decide (bt324.2.2 < 0)) bt316.1 bt316.2.1 bt324.1 bt324.2.1 bt330.1 bt330.2.1) else (laws_FnAddPick.j0 k bt316.2.2.1 bt316.2.2.2.1 bt316.2.2.2.2 bt324.2.2 bt330.2.2 true bt316.1 bt316.2.1 bt324.1 bt324.2.1 bt330.1 bt330.2.1)) else (laws_FnAddPick.j0 k bt316.2.2.1 bt316.2.2.2.1 bt316.2.2.2.2 bt324.2.2 bt330.2.2 true bt316.1 bt316.2.1 bt324.1 bt324.2.1 bt330.1 bt330.2.1)))))) = some r := h
 clear h
 by_cases c2 : (l0.length : Int) > 1048576
 ·rw [if_pos c2] at H
  have c2b0 : decide (1048576 < (l0.length : Int)) = true := decide_eq_true c2
  have c2b1 : decide (1048576 < l0.length) = true := decide_eq_true (by omega)
  clear c2
  obtain rfl := Option.some.inj H
  go_enter Try.func4, Try.ntmps4
  go_wp2
  go_ret
  exact ⟨ers, hbB⟩
 ·rw [if_neg c2] at H
  have c2b0 : decide (1048576 < (l0.length : Int)) = false := decide_eq_false c2
  have c2b1 : decide (1048576 < l0.length) = false := decide_eq_false (by omega)
  clear c2
  replace H := Option.bind_eq_some_iff.mp H
  obtain ⟨⟨t316, t317, t320, t321, t322⟩, A30, H⟩ := H
  replace H : ((impl_AddPick.f k t316 t317 t320 t321 t322).bind fun bt324 => ((spec_AddPick.f k t316 t317 t320 t321 t322).bind fun bt330 => (if bt324.2.2 = bt330.2.2 then (if (bt324.2.1.length : Int) = (bt330.2.1.length : Int) then (laws_FnAddPick.j0 k t320 t321 t322 bt324.2.2 bt330.2.2 (decide (bt324.2.2 < 0)) t316 t317 bt324.1 bt324.2.1 bt330.1 bt330.2.1) else (laws_FnAddPick.j0 k t320 t321 t322 bt324.2.2 bt330.2.2 true t316 t317 bt324.1 bt324.2.1 bt330.1 bt330.2.1)) else (laws_FnAddPick.j0 k t320 t321 t322 bt324.2.2 bt330.2.2 true t316 t317 bt324.1 bt324.2.1 bt330.1 bt330.2.1)))) = some r := H
  have A3 := Aside0.mk A30
  clear A30
  replace H := Option.bind_eq_some_iff.mp H
  obtain ⟨⟨t324, t325, t328⟩, A40, H⟩ := H
  replace H : ((spec_AddPick.f k t316 t317 t320 t321 t322).bind fun bt330 => (if t328 = bt330.2.2 then (if (t325.length : Int) = (bt330.2.1.length : Int) then (laws_FnAddPick.j0 k t320 t321 t322 t328 bt330.2.2 (decide (t328 < 0)) t316 t317 t324 t325 bt330.1 bt330.2.1) else (laws_FnAddPick.j0 k t320 t321 t322 t328 bt330.2.2 true t316 t317 t324 t325 bt330.1 bt330.2.1)) else (laws_FnAddPick.j0 k t320 t321 t322 t328 bt330.2.2 true t316 t317 t324 t325 bt330.1 bt330.2.1))) = some r := H
  have A4 := Aside0.mk A40
  clear A40
  replace H := Option.bind_eq_some_iff.mp H
  obtain ⟨⟨t330, t331, t334⟩, A50, H⟩ := H
  replace H : (if t328 = t334 then (if (t325.length : Int) = (t331.length : Int) then (laws_FnAddPick.j0 k t320 t321 t322 t328 t334 (decide (t328 < 0)) t316 t317 t324 t325 t330 t331) else (laws_FnAddPick.j0 k t320 t321 t322 t328 t334 true t316 t317 t324 t325 t330 t331)) else (laws_FnAddPick.j0 k t320 t321 t322 t328 t334 true t316 t317 t324 t325 t330 t331)) = some r := H
  have A5 := Aside0.mk A50
  clear A50
  have HC6 := Aside0.mk H
  clear H
  go_enter Try.func4, Try.ntmps4
  go_upto_region 6 with (first | ((with_reducible refine gate_callee (f := 19) rfl ?_); refine goesL_ (some 22) rfl rfl Try.func19 (by kernel_rfl) rfl #[.slice A0 l0.length c0] rfl lmB ?_; (with_reducible refine (spec_DrawAddPick.calls k _ _ l0 t316 t317 t320 t321 t322 _ ?side1 ?side2 A3.out).mono ?_); (case side1 => exact kcR HR0.out); (case side2 => exact HC0.out); rintro e w7 ⟨v318, rfl, ho0, hb⟩; refine ⟨_, rfl, ?_⟩; have n0_ := Aside0.mk (Kd.R_lower ho0 (below_size hbB)); have n1_ := Aside0.mk (below_step hbB hb); clear HB; have HO319 := n0_; have HB := n1_; clear n0_ n1_; (try clear hb); (try clear hb2); (try clear hk); (try clear hi); (try clear ho0)) | ((with_reducible refine gate_dst (N := 3) rfl ?_); (try (refine gate_guard (by rfl) ?_; dsimp only)); refine box_event ?hg (N := 3) ?hd (cs := #[.int .i64 0, .slice none 0 0]) (t := 28) ?hr ?_; (case hd => rfl); (case hg => rfl); (case hr => first | (go_simp; done) | (go_simp; rfl)); intro gb323 hg w8 hbox hb; have n0_ := Aside0.mk (Kd.R_below (rvR HO319.out) hb); have n1_ := Aside0.mk (below_step hbB hb); have n2_ := Aside0.mk (hbox); have n3_ := Aside0.mk ((gwb hg (below_size hbB) : w.heap.size ≤ gb323)); have n4_ := n3_; clear HO319; clear HB; have HO319 := n0_; have HB := n1_; have BK323 := n2_; have GW323 := n3_; have GE323 := n4_; clear n0_ n1_ n2_ n3_ n4_; clear hb hbox hg; have hcz9_0 : w8.cell? ⟨gb323, 0, none⟩ = some (.int .i64 0) := (blk_cell BK323.out 0).trans rfl; have hcz9_1 : w8.cell? ⟨gb323, 1, none⟩ = some (.slice none 0 0) := (blk_cell BK323.out 1).trans rfl; have hfz9_0 := blk_frozen BK323.out 0; have hfz9_1 := blk_frozen BK323.out 1; obtain ⟨Ao10, co10, eo10⟩ := Kd.R_slice HO319.out; subst eo10) | ((with_reducible refine gate_callee (f := 15) rfl ?_); refine goesL_ (some 32) rfl rfl Try.func15 (by kernel_rfl) rfl #[.agg #[.int .i64 t316, .slice Ao10 t317.length co10], .int .i64 t320, .int .i64 t321, .int .i64 t322] rfl lmB ?_; (with_reducible refine (impl_AddPick.calls k t316 _ _ t317 t320 t321 t322 t324 t325 t328 _ ?side1 ?side2 A4.out).mono ?_); (case side1 => refine (Kd.R_reads' (e := 92) (base := w.heap.size) (ok := fun k_ => True) (n := t317.length) (c := co10) ?_).2.2; exact (by (with_reducible repeat (first | apply Kd.R_alloc | apply Kd.R_drewN | apply Kd.R_drew)); exact (Kd.R_mono (Kd.R_far (p := ⟨gb323, 1, none⟩) (Kd.R_far (p := ⟨gb323, 0, none⟩) (Kd.R_types HO319.out BK323.out (by decide)) (fun _ hk => hk.2) (.int .i64 t316)) (fun _ hk => hk.2) (.slice Ao10 t317.length co10)) (fun _ h_ => h_.1)))); (case side2 => exact (Kd.R_reads' HO319.out).2.1); rintro e w11 ⟨v326, rfl, ho0, hb⟩; refine ⟨_, rfl, ?_⟩; have n0_ := Aside0.mk (Kd.R_elder' (by (with_reducible repeat (first | apply Kd.R_alloc | apply Kd.R_drewN | apply Kd.R_drew)); exact (Kd.R_mono (Kd.R_far (p := ⟨gb323, 1, none⟩) (Kd.R_far (p := ⟨gb323, 0, none⟩) (Kd.R_types HO319.out BK323.out (by decide)) (fun _ hk => hk.2) (.int .i64 t316)) (fun _ hk => hk.2) (.slice Ao10 t317.length co10)) (fun _ h_ => h_.1))) (Kd.R_base ho0) hb); have n1_ := Aside0.mk (Kd.R_lower (Kd.R_new' ho0 (Kd.R_lt (by (with_reducible repeat (first | apply Kd.R_alloc | apply Kd.R_drewN | apply Kd.R_drew)); exact (Kd.R_mono (Kd.R_far (p := ⟨gb323, 1, none⟩) (Kd.R_far (p := ⟨gb323, 0, none⟩) (Kd.R_types HO319.out BK323.out (by decide)) (fun _ hk => hk.2) (.int .i64 t316)) (fun _ hk => hk.2) (.slice Ao10 t317.length co10)) (fun _ h_ => h_.1))))) (below_size hbC)); have n2_ := Aside0.mk (blk_below (g := gb323) (o := .cells #[.int .i64 t316, .slice Ao10 t317.length co10] 28 (0, 0)) (by (with_reducible repeat (first | refine blk_drewN ?_ _ | refine blk_drew ?_ | refine blk_alloc ?_ _)); refine blk_put (cs := #[.int .i64 t316, .slice none 0 0]) ?_ 1 _ rfl; (with_reducible repeat (first | refine blk_drewN ?_ _ | refine blk_drew ?_ | refine blk_alloc ?_ _)); refine blk_put (cs := #[.int .i64 0, .slice none 0 0]) ?_ 0 _ rfl; (with_reducible repeat (first | refine blk_drewN ?_ _ | refine blk_drew ?_ | refine blk_alloc ?_ _)); exact BK323.out) hb); have n3_ := Aside0.mk (below_step hbC hb); clear HO319; clear BK323; clear HB; have HO319 := n0_; have HO327 := n1_; have BK323 := n2_; have HB := n3_; clear n0_ n1_ n2_ n3_; (try clear hb); (try clear hb2); (try clear hk); (try clear hi); (try clear ho0)) | ((with_reducible refine gate_dst (N := 7) rfl ?_); (try (refine gate_guard (by rfl) ?_; dsimp only)); refine box_event ?hg (N := 7) ?hd (cs := #[.int .i64 0, .slice none 0 0]) (t := 28) ?hr ?_; (case hd => rfl); (case hg => rfl); (case hr => first | (go_simp; done) | (go_simp; rfl)); intro gb329 hg w12 hbox hb; have n0_ := Aside0.mk (Kd.R_below (rvR HO319.out) hb); have n1_ := Aside0.mk (Kd.R_below (rvR HO327.out) hb); have n2_ := Aside0.mk (blk_below (g := gb323) (o := .cells #[.int .i64 t316, .slice Ao10 t317.length co10] 28 (0, 0)) (bvK BK323.out) hb); have n3_ := Aside0.mk (below_step hbC hb); have n4_ := Aside0.mk (hbox); have n5_ := Aside0.mk ((gwb hg (below_size hbC) : w.heap.size ≤ gb329)); have n6_ := n5_; have n7_ := Aside0.mk ((by rw [hg]; exact Nat.ne_of_lt (blk_lt (g := gb323) (o := .cells #[.int .i64 t316, .slice Ao10 t317.length co10] 28 (0, 0)) (bvK BK323.out)) : gb323 ≠ gb329)); have n8_ := Aside0.mk ((by rw [hg]; exact Nat.ne_of_gt (blk_lt (g := gb323) (o := .cells #[.int .i64 t316, .slice Ao10 t317.length co10] 28 (0, 0)) (bvK BK323.out)) : gb329 ≠ gb323)); clear HO319; clear HO327; clear BK323; clear HB; have HO319 := n0_; have HO327 := n1_; have BK323 := n2_; have HB := n3_; have BK329 := n4_; have GW329 := n5_; have GE329 := n6_; have NB323_329 := n7_; have NB329_323 := n8_; clear n0_ n1_ n2_ n3_ n4_ n5_ n6_ n7_ n8_; clear hb hbox hg; have hnb13 := NB329_323.out; have hnc13 := NB323_329.out; have hcz14_0 : w12.cell? ⟨gb329, 0, none⟩ = some (.int .i64 0) := (blk_cell BK329.out 0).trans rfl; have hcz14_1 : w12.cell? ⟨gb329, 1, none⟩ = some (.slice none 0 0) := (blk_cell BK329.out 1).trans rfl; have hfz14_0 := blk_frozen BK329.out 0; have hfz14_1 := blk_frozen BK329.out 1; obtain ⟨Ao15, co15, eo15⟩ := Kd.R_slice HO327.out; subst eo15; have hcz16_0 : w12.cell? ⟨gb323, 0, none⟩ = some (.int .i64 t316) := (blk_cell BK323.out 0).trans rfl; have hcz16_1 : w12.cell? ⟨gb323, 1, none⟩ = some (.slice Ao10 t317.length co10) := (blk_cell BK323.out 1).trans rfl; have hfz16_0 := blk_frozen BK323.out 0; have hfz16_1 := blk_frozen BK323.out 1) | ((with_reducible refine gate_callee (f := 13) rfl ?_); refine goesL_ (some 40) rfl rfl Try.func13 (by kernel_rfl) rfl #[.agg #[.int .i64 t316, .slice Ao10 t317.length co10], .int .i64 t320, .int .i64 t321, .int .i64 t322] rfl lmB ?_; (with_reducible refine (spec_AddPick.calls k t316 _ _ t317 t320 t321 t322 t330 t331 t334 _ ?side1 ?side2 A5.out).mono ?_); (case side1 => refine (Kd.R_reads' (e := 92) (base := w.heap.size) (ok := fun k_ => (True ∧ some k_ ≠ (.slice Ao15 t325.length co15 : Value).ownBlock)) (n := t317.length) (c := co10) ?_).2.2; exact (by (with_reducible repeat (first | apply Kd.R_alloc | apply Kd.R_drewN | apply Kd.R_drew)); exact (Kd.R_mono (Kd.R_far (p := ⟨gb329, 1, none⟩) (Kd.R_far (p := ⟨gb329, 0, none⟩) (Kd.R_types HO319.out BK329.out (by decide)) (fun _ hk => hk.2) (.int .i64 t324)) (fun _ hk => hk.2) (.slice Ao15 t325.length co15)) (fun _ h_ => h_.1)))); (case side2 => exact (Kd.R_reads' HO319.out).2.1); rintro e w17 ⟨v332, rfl, ho0, hb⟩; refine ⟨_, rfl, ?_⟩; have n0_ := Aside0.mk (Kd.R_elder' (by (with_reducible repeat (first | apply Kd.R_alloc | apply Kd.R_drewN | apply Kd.R_drew)); exact (Kd.R_mono (Kd.R_far (p := ⟨gb329, 1, none⟩) (Kd.R_far (p := ⟨gb329, 0, none⟩) (Kd.R_types HO319.out BK329.out (by decide)) (fun _ hk => hk.2) (.int .i64 t324)) (fun _ hk => hk.2) (.slice Ao15 t325.length co15)) (fun _ h_ => h_.1))) (Kd.R_base ho0) hb); have n1_ := Aside0.mk (Kd.R_elder' (by (with_reducible repeat (first | apply Kd.R_alloc | apply Kd.R_drewN | apply Kd.R_drew)); exact (Kd.R_mono (Kd.R_far (p := ⟨gb329, 1, none⟩) (Kd.R_far (p := ⟨gb329, 0, none⟩) (Kd.R_types HO327.out BK329.out (by decide)) (fun _ hk => hk.2) (.int .i64 t324)) (fun _ hk => hk.2) (.slice Ao15 t325.length co15)) (fun _ h_ => h_.1))) (Kd.R_base ho0) hb); have n2_ := Aside0.mk (Kd.R_lower (Kd.R_new' (Kd.R_new' ho0 (Kd.R_lt (by (with_reducible repeat (first | apply Kd.R_alloc | apply Kd.R_drewN | apply Kd.R_drew)); exact (Kd.R_mono (Kd.R_far (p := ⟨gb329, 1, none⟩) (Kd.R_far (p := ⟨gb329, 0, none⟩) (Kd.R_types HO319.out BK329.out (by decide)) (fun _ hk => hk.2) (.int .i64 t324)) (fun _ hk => hk.2) (.slice Ao15 t325.length co15)) (fun _ h_ => h_.1))))) (Kd.R_lt (by (with_reducible repeat (first | apply Kd.R_alloc | apply Kd.R_drewN | apply Kd.R_drew)); exact (Kd.R_mono (Kd.R_far (p := ⟨gb329, 1, none⟩) (Kd.R_far (p := ⟨gb329, 0, none⟩) (Kd.R_types HO327.out BK329.out (by decide)) (fun _ hk => hk.2) (.int .i64 t324)) (fun _ hk => hk.2) (.slice Ao15 t325.length co15)) (fun _ h_ => h_.1))))) (below_size hbC)); have n3_ := Aside0.mk (blk_below (g := gb323) (o := .cells #[.int .i64 t316, .slice Ao10 t317.length co10] 28 (0, 0)) (by (with_reducible repeat (first | refine blk_drewN ?_ _ | refine blk_drew ?_ | refine blk_alloc ?_ _)); refine blk_far ?_ NB323_329.out _; (with_reducible repeat (first | refine blk_drewN ?_ _ | refine blk_drew ?_ | refine blk_alloc ?_ _)); refine blk_far ?_ NB323_329.out _; (with_reducible repeat (first | refine blk_drewN ?_ _ | refine blk_drew ?_ | refine blk_alloc ?_ _)); exact BK323.out) hb); have n4_ := Aside0.mk (blk_below (g := gb329) (o := .cells #[.int .i64 t324, .slice Ao15 t325.length co15] 28 (0, 0)) (by (with_reducible repeat (first | refine blk_drewN ?_ _ | refine blk_drew ?_ | refine blk_alloc ?_ _)); refine blk_put (cs := #[.int .i64 t324, .slice none 0 0]) ?_ 1 _ rfl; (with_reducible repeat (first | refine blk_drewN ?_ _ | refine blk_drew ?_ | refine blk_alloc ?_ _)); refine blk_put (cs := #[.int .i64 0, .slice none 0 0]) ?_ 0 _ rfl; (with_reducible repeat (first | refine blk_drewN ?_ _ | refine blk_drew ?_ | refine blk_alloc ?_ _)); exact BK329.out) hb); have n5_ := Aside0.mk (below_step hbC hb); clear HO319; clear HO327; clear BK323; clear BK329; clear HB; have HO319 := n0_; have HO327 := n1_; have HO333 := n2_; have BK323 := n3_; have BK329 := n4_; have HB := n5_; clear n0_ n1_ n2_ n3_ n4_ n5_; (try clear hb); (try clear hb2); (try clear hk); (try clear hi); (try clear ho0)) | ((with_reducible refine gate_dst (N := 9) rfl ?_); (try (refine gate_guard (by rfl) ?_; dsimp only)); refine box_event ?hg (N := 9) ?hd (cs := #[.int .i64 0, .slice none 0 0]) (t := 28) ?hr ?_; (case hd => rfl); (case hg => rfl); (case hr => first | (go_simp; done) | (go_simp; rfl)); intro gb335 hg w18 hbox hb; have n0_ := Aside0.mk (Kd.R_below (rvR HO319.out) hb); have n1_ := Aside0.mk (Kd.R_below (rvR HO327.out) hb); have n2_ := Aside0.mk (Kd.R_below (rvR HO333.out) hb); have n3_ := Aside0.mk (blk_below (g := gb323) (o := .cells #[.int .i64 t316, .slice Ao10 t317.length co10] 28 (0, 0)) (bvK BK323.out) hb); have n4_ := Aside0.mk (blk_below (g := gb329) (o := .cells #[.int .i64 t324, .slice Ao15 t325.length co15] 28 (0, 0)) (bvK BK329.out) hb); have n5_ := Aside0.mk (below_step hbC hb); have n6_ := Aside0.mk (hbox); have n7_ := Aside0.mk ((gwb hg (below_size hbC) : w.heap.size ≤ gb335)); have n8_ := n7_; have n9_ := Aside0.mk ((by rw [hg]; exact Nat.ne_of_lt (blk_lt (g := gb323) (o := .cells #[.int .i64 t316, .slice Ao10 t317.length co10] 28 (0, 0)) (bvK BK323.out)) : gb323 ≠ gb335)); have n10_ := Aside0.mk ((by rw [hg]; exact Nat.ne_of_gt (blk_lt (g := gb323) (o := .cells #[.int .i64 t316, .slice Ao10 t317.length co10] 28 (0, 0)) (bvK BK323.out)) : gb335 ≠ gb323)); have n11_ := Aside0.mk ((by rw [hg]; exact Nat.ne_of_lt (blk_lt (g := gb329) (o := .cells #[.int .i64 t324, .slice Ao15 t325.length co15] 28 (0, 0)) (bvK BK329.out)) : gb329 ≠ gb335)); have n12_ := Aside0.mk ((by rw [hg]; exact Nat.ne_of_gt (blk_lt (g := gb329) (o := .cells #[.int .i64 t324, .slice Ao15 t325.length co15] 28 (0, 0)) (bvK BK329.out)) : gb335 ≠ gb329)); clear HO319; clear HO327; clear HO333; clear BK323; clear BK329; clear HB; have HO319 := n0_; have HO327 := n1_; have HO333 := n2_; have BK323 := n3_; have BK329 := n4_; have HB := n5_; have BK335 := n6_; have GW335 := n7_; have GE335 := n8_; have NB323_335 := n9_; have NB335_323 := n10_; have NB329_335 := n11_; have NB335_329 := n12_; clear n0_ n1_ n2_ n3_ n4_ n5_ n6_ n7_ n8_ n9_ n10_ n11_ n12_; clear hb hbox hg; have hnb19 := NB335_323.out; have hnc19 := NB323_335.out; have hnb20 := NB335_329.out; have hnc20 := NB329_335.out; have hcz21_0 : w18.cell? ⟨gb335, 0, none⟩ = some (.int .i64 0) := (blk_cell BK335.out 0).trans rfl; have hcz21_1 : w18.cell? ⟨gb335, 1, none⟩ = some (.slice none 0 0) := (blk_cell BK335.out 1).trans rfl; have hfz21_0 := blk_frozen BK335.out 0; have hfz21_1 := blk_frozen BK335.out 1; obtain ⟨Ao22, co22, eo22⟩ := Kd.R_slice HO333.out; subst eo22))
  (try simp only [Act.put, List.setIfInBounds_toArray, List.set_cons_zero, List.set_cons_succ])
  go_cut [58] (fun v58 wc => ∃ (kq : Nat) (x58_5 : Bool), v58 = .bool x58_5 ∧ Aside0 (laws_FnAddPick.j0 kq t320 t321 t322 t328 t334 x58_5 t316 t317 t324 t325 t330 t331 = some r) ∧ Aside0 (kq ≤ k) ∧ Aside0 (Kd.R k92 92 wc w.heap.size (fun k_ => some k_ ≠ ((.slice Ao15 t325.length co15) : Value).ownBlock ∧ some k_ ≠ ((.slice Ao22 t331.length co22) : Value).ownBlock) (.slice Ao10 t317.length co10) t317) ∧ Aside0 (Kd.R k92 92 wc w.heap.size (fun k_ => some k_ ≠ ((.slice Ao10 t317.length co10) : Value).ownBlock ∧ some k_ ≠ ((.slice Ao22 t331.length co22) : Value).ownBlock) (.slice Ao15 t325.length co15) t325) ∧ Aside0 (Kd.R k92 92 wc w.heap.size (fun k_ => some k_ ≠ ((.slice Ao10 t317.length co10) : Value).ownBlock ∧ some k_ ≠ ((.slice Ao15 t325.length co15) : Value).ownBlock) (.slice Ao22 t331.length co22) t331) ∧ Aside0 (wc.heap[gb323]? = some (.cells #[.int .i64 t316, (.slice Ao10 t317.length co10)] 28 (0, 0))) ∧ Aside0 (wc.heap[gb329]? = some (.cells #[.int .i64 t324, (.slice Ao15 t325.length co15)] 28 (0, 0))) ∧ Aside0 (wc.heap[gb335]? = some (.cells #[.int .i64 t330, (.slice Ao22 t331.length co22)] 28 (0, 0))) ∧ Aside0 (Below w.heap.size w wc))
  case first =>
   have H := HC6.out
   clear HC6
   by_cases c23 : t328 = t334
   ·rw [if_pos c23] at H
    have c23b0 : (t328 == t334) = true := beq_iff_eq.mpr c23
    have c23b1 : (t328 != t334) = false := bne_eq_false_iff_eq.mpr c23
    clear c23
    (first | rw [c23b0] | (simp only [i64_w, i32_w]; rw [c23b0]) | skip)
    by_cases c24 : (t325.length : Int) = (t331.length : Int)
    ·rw [if_pos c24] at H
     have c24b0 : ((t325.length : Int) == (t331.length : Int)) = true := beq_iff_eq.mpr c24
     have c24b1 : ((t325.length : Int) != (t331.length : Int)) = false := bne_eq_false_iff_eq.mpr c24
     have c24b2 : (t325.length == t331.length) = true := by first | simpa using c24 | (simp at c24 ⊢; omega)
     clear c24
     have H' := Aside0.mk H
     clear H
     have hnb25 := NB329_323.out
     have hnc25 := NB323_329.out
     have hnb26 := NB329_335.out
     have hnc26 := NB335_329.out
     have hcz27_0 : w18.cell? ⟨gb329, 0, none⟩ = some (.int .i64 t324) := (blk_cell BK329.out 0).trans rfl
     have hcz27_1 : w18.cell? ⟨gb329, 1, none⟩ = some (.slice Ao15 t325.length co15) := (blk_cell BK329.out 1).trans rfl
     have hfz27_0 := blk_frozen BK329.out 0
     have hfz27_1 := blk_frozen BK329.out 1
     have hnb28 := NB335_323.out
     have hnc28 := NB323_335.out
     have hcz29_0 : w18.cell? ⟨gb335, 0, none⟩ = some (.int .i64 0) := (blk_cell BK335.out 0).trans rfl
     have hcz29_1 : w18.cell? ⟨gb335, 1, none⟩ = some (.slice none 0 0) := (blk_cell BK335.out 1).trans rfl
     have hfz29_0 := blk_frozen BK335.out 0
     have hfz29_1 := blk_frozen BK335.out 1
     go_wp2
     go_meet
     case rel => exact ⟨_, (decide (t328 < 0)), rsd, H', ⟨by first | omega | exact Nat.le_refl _⟩, ⟨by (with_reducible repeat (first | apply Kd.R_alloc | apply Kd.R_drewN | apply Kd.R_drew)); exact Kd.R_mono (Kd.R_far (p := ⟨gb335, 1, none⟩) (Kd.R_far (p := ⟨gb335, 0, none⟩) (Kd.R_types HO319.out BK335.out (by decide)) (fun _ hk => hk.2) (.int .i64 t330)) (fun _ hk => hk.2) (.slice Ao22 t331.length co22)) (fun _ hk => ⟨hk.1.1.2, hk.1.2⟩)⟩, ⟨by (with_reducible repeat (first | apply Kd.R_alloc | apply Kd.R_drewN | apply Kd.R_drew)); exact Kd.R_mono (Kd.R_far (p := ⟨gb335, 1, none⟩) (Kd.R_far (p := ⟨gb335, 0, none⟩) (Kd.R_types HO327.out BK335.out (by decide)) (fun _ hk => hk.2) (.int .i64 t330)) (fun _ hk => hk.2) (.slice Ao22 t331.length co22)) (fun _ hk => ⟨hk.1.1.2, hk.1.2⟩)⟩, ⟨by (with_reducible repeat (first | apply Kd.R_alloc | apply Kd.R_drewN | apply Kd.R_drew)); exact Kd.R_mono (Kd.R_far (p := ⟨gb335, 1, none⟩) (Kd.R_far (p := ⟨gb335, 0, none⟩) (Kd.R_types HO333.out BK335.out (by decide)) (fun _ hk => hk.2) (.int .i64 t330)) (fun _ hk => hk.2) (.slice Ao22 t331.length co22)) (fun _ hk => ⟨hk.1.1.2, hk.1.2⟩)⟩, ⟨by (with_reducible repeat (first | refine blk_drewN ?_ _ | refine blk_drew ?_ | refine blk_alloc ?_ _)); refine blk_far ?_ NB323_335.out _; (with_reducible repeat (first | refine blk_drewN ?_ _ | refine blk_drew ?_ | refine blk_alloc ?_ _)); refine blk_far ?_ NB323_335.out _; (with_reducible repeat (first | refine blk_drewN ?_ _ | refine blk_drew ?_ | refine blk_alloc ?_ _)); exact BK323.out⟩, ⟨by (with_reducible repeat (first | refine blk_drewN ?_ _ | refine blk_drew ?_ | refine blk_alloc ?_ _)); refine blk_far ?_ NB329_335.out _; (with_reducible repeat (first | refine blk_drewN ?_ _ | refine blk_drew ?_ | refine blk_alloc ?_ _)); refine blk_far ?_ NB329_335.out _; (with_reducible repeat (first | refine blk_drewN ?_ _ | refine blk_drew ?_ | refine blk_alloc ?_ _)); exact BK329.out⟩, ⟨by (with_reducible repeat (first | refine blk_drewN ?_ _ | refine blk_drew ?_ | refine blk_alloc ?_ _)); refine blk_put (cs := #[.int .i64 t330, .slice none 0 0]) ?_ 1 _ rfl; (with_reducible repeat (first | refine blk_drewN ?_ _ | refine blk_drew ?_ | refine blk_alloc ?_ _)); refine blk_put (cs := #[.int .i64 0, .slice none 0 0]) ?_ 0 _ rfl; (with_reducible repeat (first | refine blk_drewN ?_ _ | refine blk_drew ?_ | refine blk_alloc ?_ _)); exact BK335.out⟩, ⟨hbC⟩⟩
    ·rw [if_neg c24] at H
     have c24b0 : ((t325.length : Int) == (t331.length : Int)) = false := beq_eq_false_iff_ne.mpr c24
     have c24b1 : ((t325.length : Int) != (t331.length : Int)) = true := bne_iff_ne.mpr c24
     have c24b2 : (t325.length == t331.length) = false := by first | simpa using c24 | (simp at c24 ⊢; omega)
     have H' := Aside0.mk H
     clear H
     have hnb30 := NB329_323.out
     have hnc30 := NB323_329.out
     have hnb31 := NB329_335.out
     have hnc31 := NB335_329.out
     have hcz32_0 : w18.cell? ⟨gb329, 0, none⟩ = some (.int .i64 t324) := (blk_cell BK329.out 0).trans rfl
     have hcz32_1 : w18.cell? ⟨gb329, 1, none⟩ = some (.slice Ao15 t325.length co15) := (blk_cell BK329.out 1).trans rfl
     have hfz32_0 := blk_frozen BK329.out 0
     have hfz32_1 := blk_frozen BK329.out 1
     have hnb33 := NB335_323.out
     have hnc33 := NB323_335.out
     have hcz34_0 : w18.cell? ⟨gb335, 0, none⟩ = some (.int .i64 0) := (blk_cell BK335.out 0).trans rfl
     have hcz34_1 : w18.cell? ⟨gb335, 1, none⟩ = some (.slice none 0 0) := (blk_cell BK335.out 1).trans rfl
     have hfz34_0 := blk_frozen BK335.out 0
     have hfz34_1 := blk_frozen BK335.out 1
     go_wp2
     go_meet
     case rel => exact ⟨_, (true), rsd, H', ⟨by first | omega | exact Nat.le_refl _⟩, ⟨by (with_reducible repeat (first | apply Kd.R_alloc | apply Kd.R_drewN | apply Kd.R_drew)); exact Kd.R_mono (Kd.R_far (p := ⟨gb335, 1, none⟩) (Kd.R_far (p := ⟨gb335, 0, none⟩) (Kd.R_types HO319.out BK335.out (by decide)) (fun _ hk => hk.2) (.int .i64 t330)) (fun _ hk => hk.2) (.slice Ao22 t331.length co22)) (fun _ hk => ⟨hk.1.1.2, hk.1.2⟩)⟩, ⟨by (with_reducible repeat (first | apply Kd.R_alloc | apply Kd.R_drewN | apply Kd.R_drew)); exact Kd.R_mono (Kd.R_far (p := ⟨gb335, 1, none⟩) (Kd.R_far (p := ⟨gb335, 0, none⟩) (Kd.R_types HO327.out BK335.out (by decide)) (fun _ hk => hk.2) (.int .i64 t330)) (fun _ hk => hk.2) (.slice Ao22 t331.length co22)) (fun _ hk => ⟨hk.1.1.2, hk.1.2⟩)⟩, ⟨by (with_reducible repeat (first | apply Kd.R_alloc | apply Kd.R_drewN | apply Kd.R_drew)); exact Kd.R_mono (Kd.R_far (p := ⟨gb335, 1, none⟩) (Kd.R_far (p := ⟨gb335, 0, none⟩) (Kd.R_types HO333.out BK335.out (by decide)) (fun _ hk => hk.2) (.int .i64 t330)) (fun _ hk => hk.2) (.slice Ao22 t331.length co22)) (fun _ hk => ⟨hk.1.1.2, hk.1.2⟩)⟩, ⟨by (with_reducible repeat (first | refine blk_drewN ?_ _ | refine blk_drew ?_ | refine blk_alloc ?_ _)); refine blk_far ?_ NB323_335.out _; (with_reducible repeat (first | refine blk_drewN ?_ _ | refine blk_drew ?_ | refine blk_alloc ?_ _)); refine blk_far ?_ NB323_335.out _; (with_reducible repeat (first | refine blk_drewN ?_ _ | refine blk_drew ?_ | refine blk_alloc ?_ _)); exact BK323.out⟩, ⟨by (with_reducible repeat (first | refine blk_drewN ?_ _ | refine blk_drew ?_ | refine blk_alloc ?_ _)); refine blk_far ?_ NB329_335.out _; (with_reducible repeat (first | refine blk_drewN ?_ _ | refine blk_drew ?_ | refine blk_alloc ?_ _)); refine blk_far ?_ NB329_335.out _; (with_reducible repeat (first | refine blk_drewN ?_ _ | refine blk_drew ?_ | refine blk_alloc ?_ _)); exact BK329.out⟩, ⟨by (with_reducible repeat (first | refine blk_drewN ?_ _ | refine blk_drew ?_ | refine blk_alloc ?_ _)); refine blk_put (cs := #[.int .i64 t330, .slice none 0 0]) ?_ 1 _ rfl; (with_reducible repeat (first | refine blk_drewN ?_ _ | refine blk_drew ?_ | refine blk_alloc ?_ _)); refine blk_put (cs := #[.int .i64 0, .slice none 0 0]) ?_ 0 _ rfl; (with_reducible repeat (first | refine blk_drewN ?_ _ | refine blk_drew ?_ | refine blk_alloc ?_ _)); exact BK335.out⟩, ⟨hbC⟩⟩
   ·rw [if_neg c23] at H
    have c23b0 : (t328 == t334) = false := beq_eq_false_iff_ne.mpr c23
    have c23b1 : (t328 != t334) = true := bne_iff_ne.mpr c23
    (first | rw [c23b0] | (simp only [i64_w, i32_w]; rw [c23b0]) | skip)
    have H' := Aside0.mk H
    clear H
    go_wp2
    go_meet
    case rel => exact ⟨_, (true), rsd, H', ⟨by first | omega | exact Nat.le_refl _⟩, ⟨by (with_reducible repeat (first | apply Kd.R_alloc | apply Kd.R_drewN | apply Kd.R_drew)); exact Kd.R_mono (Kd.R_far (p := ⟨gb335, 1, none⟩) (Kd.R_far (p := ⟨gb335, 0, none⟩) (Kd.R_types HO319.out BK335.out (by decide)) (fun _ hk => hk.2) (.int .i64 t330)) (fun _ hk => hk.2) (.slice Ao22 t331.length co22)) (fun _ hk => ⟨hk.1.1.2, hk.1.2⟩)⟩, ⟨by (with_reducible repeat (first | apply Kd.R_alloc | apply Kd.R_drewN | apply Kd.R_drew)); exact Kd.R_mono (Kd.R_far (p := ⟨gb335, 1, none⟩) (Kd.R_far (p := ⟨gb335, 0, none⟩) (Kd.R_types HO327.out BK335.out (by decide)) (fun _ hk => hk.2) (.int .i64 t330)) (fun _ hk => hk.2) (.slice Ao22 t331.length co22)) (fun _ hk => ⟨hk.1.1.2, hk.1.2⟩)⟩, ⟨by (with_reducible repeat (first | apply Kd.R_alloc | apply Kd.R_drewN | apply Kd.R_drew)); exact Kd.R_mono (Kd.R_far (p := ⟨gb335, 1, none⟩) (Kd.R_far (p := ⟨gb335, 0, none⟩) (Kd.R_types HO333.out BK335.out (by decide)) (fun _ hk => hk.2) (.int .i64 t330)) (fun _ hk => hk.2) (.slice Ao22 t331.length co22)) (fun _ hk => ⟨hk.1.1.2, hk.1.2⟩)⟩, ⟨by (with_reducible repeat (first | refine blk_drewN ?_ _ | refine blk_drew ?_ | refine blk_alloc ?_ _)); refine blk_far ?_ NB323_335.out _; (with_reducible repeat (first | refine blk_drewN ?_ _ | refine blk_drew ?_ | refine blk_alloc ?_ _)); refine blk_far ?_ NB323_335.out _; (with_reducible repeat (first | refine blk_drewN ?_ _ | refine blk_drew ?_ | refine blk_alloc ?_ _)); exact BK323.out⟩, ⟨by (with_reducible repeat (first | refine blk_drewN ?_ _ | refine blk_drew ?_ | refine blk_alloc ?_ _)); refine blk_far ?_ NB329_335.out _; (with_reducible repeat (first | refine blk_drewN ?_ _ | refine blk_drew ?_ | refine blk_alloc ?_ _)); refine blk_far ?_ NB329_335.out _; (with_reducible repeat (first | refine blk_drewN ?_ _ | refine blk_drew ?_ | refine blk_alloc ?_ _)); exact BK329.out⟩, ⟨by (with_reducible repeat (first | refine blk_drewN ?_ _ | refine blk_drew ?_ | refine blk_alloc ?_ _)); refine blk_put (cs := #[.int .i64 t330, .slice none 0 0]) ?_ 1 _ rfl; (with_reducible repeat (first | refine blk_drewN ?_ _ | refine blk_drew ?_ | refine blk_alloc ?_ _)); refine blk_put (cs := #[.int .i64 0, .slice none 0 0]) ?_ 0 _ rfl; (with_reducible repeat (first | refine blk_drewN ?_ _ | refine blk_drew ?_ | refine blk_alloc ?_ _)); exact BK335.out⟩, ⟨hbC⟩⟩
  case rest =>
   clear HC6
   try clear c1
   try clear c2
   try clear c2b0
   try clear c2b1
   try clear p2
   try clear c3
   try clear c4
   try clear c13
   try clear c15
   try clear c19
   try clear c20
   try clear c23
   try clear c23b0
   try clear c23b1
   try clear c24
   try clear c24b0
   try clear c24b1
   try clear c24b2
   try clear c25
   try clear c26
   try clear c28
   try clear c30
   try clear c31
   try clear c33
   try clear hcz14_0
   try clear hcz14_1
   try clear hcz16_0
   try clear hcz16_1
   try clear hcz21_0
   try clear hcz21_1
   try clear hcz27_0
   try clear hcz27_1
   try clear hcz29_0
   try clear hcz29_1
   try clear hcz32_0
   try clear hcz32_1
   try clear hcz34_0
   try clear hcz34_1
   try clear hcz9_0
   try clear hcz9_1
   try clear hfz14_0
   try clear hfz14_1
   try clear hfz16_0
   try clear hfz16_1
   try clear hfz21_0
   try clear hfz21_1
   try clear hfz27_0
   try clear hfz27_1
   try clear hfz29_0
   try clear hfz29_1
   try clear hfz32_0
   try clear hfz32_1
   try clear hfz34_0
   try clear hfz34_1
   try clear hfz9_0
   try clear hfz9_1
   obtain ⟨kq, x58_5, rfl, HA, HJ5, HO_324001, HO_330001, HO_336001, BK323, BK329, BK335, HB⟩ := hcut
   cases kq with
   | zero => exact absurd HA.out (by simp [laws_FnAddPick.j0])
   | succ kj5 =>
    have H := HA.out
    clear HA
    simp only [laws_FnAddPick.j0] at H
    by_cases c35 : x58_5 = true
    ·subst c35
     have H1 : (if t328 = t334 then (if (t325.length : Int) = (t331.length : Int) then (some (t328 == (-1))) else (some false)) else (some false)) = some r := by rw [if_pos rfl] at H; exact H
     clear H
     have H := H1
     clear H1
     by_cases c36 : t328 = t334
     ·rw [if_pos c36] at H
      have c36b0 : (t328 == t334) = true := beq_iff_eq.mpr c36
      have c36b1 : (t328 != t334) = false := bne_eq_false_iff_eq.mpr c36
      clear c36
      by_cases c37 : (t325.length : Int) = (t331.length : Int)
      ·rw [if_pos c37] at H
       have c37b0 : ((t325.length : Int) == (t331.length : Int)) = true := beq_iff_eq.mpr c37
       have c37b1 : ((t325.length : Int) != (t331.length : Int)) = false := bne_eq_false_iff_eq.mpr c37
       have c37b2 : (t325.length == t331.length) = true := by first | simpa using c37 | (simp at c37 ⊢; omega)
       clear c37
       obtain rfl := Option.some.inj H
       have hnb38 := NB329_323.out
       have hnc38 := NB323_329.out
       have hnb39 := NB329_335.out
       have hnc39 := NB335_329.out
       have hcz40_0 : wc.cell? ⟨gb329, 0, none⟩ = some (.int .i64 t324) := (blk_cell BK329.out 0).trans rfl
       have hcz40_1 : wc.cell? ⟨gb329, 1, none⟩ = some (.slice Ao15 t325.length co15) := (blk_cell BK329.out 1).trans rfl
       have hfz40_0 := blk_frozen BK329.out 0
       have hfz40_1 := blk_frozen BK329.out 1
       have hnb41 := NB335_323.out
       have hnc41 := NB323_335.out
       have hcz42_0 : wc.cell? ⟨gb335, 0, none⟩ = some (.int .i64 t330) := (blk_cell BK335.out 0).trans rfl
       have hcz42_1 : wc.cell? ⟨gb335, 1, none⟩ = some (.slice Ao22 t331.length co22) := (blk_cell BK335.out 1).trans rfl
       have hfz42_0 := blk_frozen BK335.out 0
       have hfz42_1 := blk_frozen BK335.out 1
       go_wp2
       go_ret
       exact ⟨ers, hbC⟩
      ·rw [if_neg c37] at H
       have c37b0 : ((t325.length : Int) == (t331.length : Int)) = false := beq_eq_false_iff_ne.mpr c37
       have c37b1 : ((t325.length : Int) != (t331.length : Int)) = true := bne_iff_ne.mpr c37
       have c37b2 : (t325.length == t331.length) = false := by first | simpa using c37 | (simp at c37 ⊢; omega)
       obtain rfl := Option.some.inj H
       have hnb43 := NB329_323.out
       have hnc43 := NB323_329.out
       have hnb44 := NB329_335.out
       have hnc44 := NB335_329.out
       have hcz45_0 : wc.cell? ⟨gb329, 0, none⟩ = some (.int .i64 t324) := (blk_cell BK329.out 0).trans rfl
       have hcz45_1 : wc.cell? ⟨gb329, 1, none⟩ = some (.slice Ao15 t325.length co15) := (blk_cell BK329.out 1).trans rfl
       have hfz45_0 := blk_frozen BK329.out 0
       have hfz45_1 := blk_frozen BK329.out 1
       have hnb46 := NB335_323.out
       have hnc46 := NB323_335.out
       have hcz47_0 : wc.cell? ⟨gb335, 0, none⟩ = some (.int .i64 t330) := (blk_cell BK335.out 0).trans rfl
       have hcz47_1 : wc.cell? ⟨gb335, 1, none⟩ = some (.slice Ao22 t331.length co22) := (blk_cell BK335.out 1).trans rfl
       have hfz47_0 := blk_frozen BK335.out 0
       have hfz47_1 := blk_frozen BK335.out 1
       go_wp2
       go_ret
       exact ⟨ers, hbC⟩
     ·rw [if_neg c36] at H
      have c36b0 : (t328 == t334) = false := beq_eq_false_iff_ne.mpr c36
      have c36b1 : (t328 != t334) = true := bne_iff_ne.mpr c36
      obtain rfl := Option.some.inj H
      go_wp2
      go_ret
      exact ⟨ers, hbC⟩
    ·replace c35 := Bool.eq_false_iff.mpr c35
     subst c35
     have H1 : (laws_FnAddPick.l0 kj5 t320 t321 t322 t328 0 t316 t317 t324 t325) = some r := by rw [if_neg (show ¬ (false = true) by decide)] at H; exact H
     clear H
     have H := H1
     clear H1
     have H' := Aside0.mk H
     clear H
     go_wp2
     go_loopg [75] kj5 (fun kq v75 w' => ∃ (x75_2 : Int), v75 = .int .i64 x75_2 ∧ Aside0 (laws_FnAddPick.l0 kq t320 t321 t322 t328 x75_2 t316 t317 t324 t325 = some r) ∧ Aside0 (kq ≤ kj5) ∧ Aside0 (Kd.R k92 92 w' w.heap.size (fun k_ => some k_ ≠ ((.slice Ao15 t325.length co15) : Value).ownBlock ∧ some k_ ≠ ((.slice Ao22 t331.length co22) : Value).ownBlock) (.slice Ao10 t317.length co10) t317) ∧ Aside0 (Kd.R k92 92 w' w.heap.size (fun k_ => some k_ ≠ ((.slice Ao10 t317.length co10) : Value).ownBlock ∧ some k_ ≠ ((.slice Ao22 t331.length co22) : Value).ownBlock) (.slice Ao15 t325.length co15) t325) ∧ Aside0 (Kd.R k92 92 w' w.heap.size (fun k_ => some k_ ≠ ((.slice Ao10 t317.length co10) : Value).ownBlock ∧ some k_ ≠ ((.slice Ao15 t325.length co15) : Value).ownBlock) (.slice Ao22 t331.length co22) t331) ∧ Aside0 (w'.heap[gb323]? = some (.cells #[.int .i64 t316, (.slice Ao10 t317.length co10)] 28 (0, 0))) ∧ Aside0 (w'.heap[gb329]? = some (.cells #[.int .i64 t324, (.slice Ao15 t325.length co15)] 28 (0, 0))) ∧ Aside0 (w'.heap[gb335]? = some (.cells #[.int .i64 t330, (.slice Ao22 t331.length co22)] 28 (0, 0))) ∧ Aside0 (Below w.heap.size w w'))
     case atStart => exact ⟨(0), rsd, H', ⟨Nat.le_refl _⟩, ⟨rvR HO_324001.out⟩, ⟨rvR HO_330001.out⟩, ⟨rvR HO_336001.out⟩, ⟨bvK BK323.out⟩, ⟨bvK BK329.out⟩, ⟨bvK BK335.out⟩, ⟨hbC⟩⟩
     case round =>
      clear H'
      try clear c1
      try clear c2
      try clear c2b0
      try clear c2b1
      try clear p2
      try clear c3
      try clear c4
      try clear c13
      try clear c15
      try clear c19
      try clear c20
      try clear c23
      try clear c23b0
      try clear c23b1
      try clear c24
      try clear c24b0
      try clear c24b1
      try clear c24b2
      try clear c25
      try clear c26
      try clear c28
      try clear c30
      try clear c31
      try clear c33
      try clear c35
      try clear c36
      try clear c36b0
      try clear c36b1
      try clear c37
      try clear c37b0
      try clear c37b1
      try clear c37b2
      try clear c38
      try clear c39
      try clear c41
      try clear c43
      try clear c44
      try clear c46
      try clear hcz14_0
      try clear hcz14_1
      try clear hcz16_0
      try clear hcz16_1
      try clear hcz21_0
      try clear hcz21_1
      try clear hcz27_0
      try clear hcz27_1
      try clear hcz29_0
      try clear hcz29_1
      try clear hcz32_0
      try clear hcz32_1
      try clear hcz34_0
      try clear hcz34_1
      try clear hcz40_0
      try clear hcz40_1
      try clear hcz42_0
      try clear hcz42_1
      try clear hcz45_0
      try clear hcz45_1
      try clear hcz47_0
      try clear hcz47_1
      try clear hcz9_0
      try clear hcz9_1
      try clear hfz14_0
      try clear hfz14_1
      try clear hfz16_0
      try clear hfz16_1
      try clear hfz21_0
      try clear hfz21_1
      try clear hfz27_0
      try clear hfz27_1
      try clear hfz29_0
      try clear hfz29_1
      try clear hfz32_0
      try clear hfz32_1
      try clear hfz34_0
      try clear hfz34_1
      try clear hfz40_0
      try clear hfz40_1
      try clear hfz42_0
      try clear hfz42_1
      try clear hfz45_0
      try clear hfz45_1
      try clear hfz47_0
      try clear hfz47_1
      try clear hfz9_0
      try clear hfz9_1
      try clear p2
      obtain ⟨x75_2, rfl, HA, HK2, HO_324001, HO_330001, HO_336001, BK323, BK329, BK335, HB⟩ := hrel
      cases gk with
      | zero => exact absurd HA.out (by simp [laws_FnAddPick.l0])
      | succ k2 =>
       have H := HA.out
       clear HA
       simp only [laws_FnAddPick.l0] at H
       by_cases c48 : x75_2 < 8
       ·rw [if_pos c48] at H
        have c48b0 : decide (x75_2 < 8) = true := decide_eq_true c48
        clear c48
        obtain ⟨y337, hy337⟩ : ∃ y_ : List Int, y_ = (([] : List Int)) := ⟨_, rfl⟩
        replace H : (laws_FnAddPick.l1 k2 t320 t321 t322 t328 x75_2 y337 x75_2 t316 0 t316 t317 t324 t325) = some r := by first | (rw [hy337]; with_reducible exact H) | (have H2_ := (Option.bind_some _ _).symm.trans H; rw [hy337]; with_reducible exact H2_) | (have H2_ := (Option.bind_some _ _).symm.trans H; with_reducible exact H2_) | with_reducible exact H | (rw [hy337]; exact H) | exact H
        have Ny337 := Aside0.mk hy337
        clear hy337
        have H' := Aside0.mk H
        clear H
        go_wp2_with (first | ((with_reducible refine gate_dst (N := 78) rfl ?_); (try (refine gate_guard (by rfl) ?_; dsimp only)); refine Kd.R_lit (Kd.int .i64) _ 3 ?hg (N := 78) ?hd (xs := ([] : List Int)) (inner := []) (ok := fun _ => True) (okp := fun _ => True) ?hr ?hp (fun _ hk => hk) trivial (Below.refl _ _) (Nat.le_refl _) (by simp) ?_; (case hd => rfl); (case hg => rfl); (case hr => first | (go_simp; done) | (go_simp; rfl)); (case hp => exact (Reps.none _ _)); intro v338 w49 ho50 hb hg_ hnew_; clear hg_ hnew_; (first | rw [← Ny337.out] at ho50 | (simp only [Int.reduceToNat] at ho50; rw [← Ny337.out] at ho50)); have n0_ := Aside0.mk (Kd.R_below (rvR HO_324001.out) hb); have n1_ := Aside0.mk (Kd.R_below (rvR HO_330001.out) hb); have n2_ := Aside0.mk (Kd.R_below (rvR HO_336001.out) hb); have n3_ := Aside0.mk (Kd.R_lower ho50 (below_size hbC)); have n4_ := Aside0.mk (blk_below (g := gb323) (o := .cells #[.int .i64 t316, .slice Ao10 t317.length co10] 28 (0, 0)) (bvK BK323.out) hb); have n5_ := Aside0.mk (blk_below (g := gb329) (o := .cells #[.int .i64 t324, .slice Ao15 t325.length co15] 28 (0, 0)) (bvK BK329.out) hb); have n6_ := Aside0.mk (blk_below (g := gb335) (o := .cells #[.int .i64 t330, .slice Ao22 t331.length co22] 28 (0, 0)) (bvK BK335.out) hb); have n7_ := Aside0.mk (below_step hbC hb); clear HO_324001; clear HO_330001; clear HO_336001; clear BK323; clear BK329; clear BK335; clear HB; have HO_324001 := n0_; have HO_330001 := n1_; have HO_336001 := n2_; have HO339 := n3_; have BK323 := n4_; have BK329 := n5_; have BK335 := n6_; have HB := n7_; clear n0_ n1_ n2_ n3_ n4_ n5_ n6_ n7_; clear hb ho50; have hnb51 := NB323_329.out; have hnc51 := NB329_323.out; have hnb52 := NB323_335.out; have hnc52 := NB335_323.out; have hcz53_0 : w49.cell? ⟨gb323, 0, none⟩ = some (.int .i64 t316) := (blk_cell BK323.out 0).trans rfl; have hcz53_1 : w49.cell? ⟨gb323, 1, none⟩ = some (.slice Ao10 t317.length co10) := (blk_cell BK323.out 1).trans rfl; have hfz53_0 := blk_frozen BK323.out 0; have hfz53_1 := blk_frozen BK323.out 1))
        go_loopg [12, 81] k2 (fun kq v12 v81 w' => ∃ (x12_3 : List Int) (x81_3 : Int), v81 = .int .i64 x81_3 ∧ Aside0 (laws_FnAddPick.l1 kq t320 t321 t322 t328 x75_2 x12_3 x75_2 t316 x81_3 t316 t317 t324 t325 = some r) ∧ Aside0 (kq ≤ k2) ∧ Aside0 (Kd.R (Kd.int .i64) 3 w' w.heap.size (fun _ => True) v12 x12_3) ∧ Aside0 (Kd.R k92 92 w' w.heap.size (fun k_ => some k_ ≠ ((.slice Ao15 t325.length co15) : Value).ownBlock ∧ some k_ ≠ ((.slice Ao22 t331.length co22) : Value).ownBlock) (.slice Ao10 t317.length co10) t317) ∧ Aside0 (Kd.R k92 92 w' w.heap.size (fun k_ => some k_ ≠ ((.slice Ao10 t317.length co10) : Value).ownBlock ∧ some k_ ≠ ((.slice Ao22 t331.length co22) : Value).ownBlock) (.slice Ao15 t325.length co15) t325) ∧ Aside0 (Kd.R k92 92 w' w.heap.size (fun k_ => some k_ ≠ ((.slice Ao10 t317.length co10) : Value).ownBlock ∧ some k_ ≠ ((.slice Ao15 t325.length co15) : Value).ownBlock) (.slice Ao22 t331.length co22) t331) ∧ Aside0 (w'.heap[gb323]? = some (.cells #[.int .i64 t316, (.slice Ao10 t317.length co10)] 28 (0, 0))) ∧ Aside0 (w'.heap[gb329]? = some (.cells #[.int .i64 t324, (.slice Ao15 t325.length co15)] 28 (0, 0))) ∧ Aside0 (w'.heap[gb335]? = some (.cells #[.int .i64 t330, (.slice Ao22 t331.length co22)] 28 (0, 0))) ∧ Aside0 (Below w.heap.size w w'))
        case atStart => exact ⟨(y337), (0), rsd, H', ⟨Nat.le_refl _⟩, ⟨rvR HO339.out⟩, ⟨rvR HO_324001.out⟩, ⟨rvR HO_330001.out⟩, ⟨rvR HO_336001.out⟩, ⟨bvK BK323.out⟩, ⟨bvK BK329.out⟩, ⟨bvK BK335.out⟩, ⟨hbC⟩⟩
        case round =>
         clear H'
         try clear c1
         try clear c2
         try clear c2b0
         try clear c2b1
         try clear p2
         try clear c3
         try clear c4
         try clear c5
         try clear c13
         try clear c15
         try clear c19
         try clear c20
         try clear c23
         try clear c23b0
         try clear c23b1
         try clear c24
         try clear c24b0
         try clear c24b1
         try clear c24b2
         try clear c25
         try clear c26
         try clear c28
         try clear c30
         try clear c31
         try clear c33
         try clear c35
         try clear c36
         try clear c36b0
         try clear c36b1
         try clear c37
         try clear c37b0
         try clear c37b1
         try clear c37b2
         try clear c38
         try clear c39
         try clear c41
         try clear c43
         try clear c44
         try clear c46
         try clear c48
         try clear c48b0
         try clear c51
         try clear c52
         try clear hcz14_0
         try clear hcz14_1
         try clear hcz16_0
         try clear hcz16_1
         try clear hcz21_0
         try clear hcz21_1
         try clear hcz27_0
         try clear hcz27_1
         try clear hcz29_0
         try clear hcz29_1
         try clear hcz32_0
         try clear hcz32_1
         try clear hcz34_0
         try clear hcz34_1
         try clear hcz40_0
         try clear hcz40_1
         try clear hcz42_0
         try clear hcz42_1
         try clear hcz45_0
         try clear hcz45_1
         try clear hcz47_0
         try clear hcz47_1
         try clear hcz53_0
         try clear hcz53_1
         try clear hcz9_0
         try clear hcz9_1
         try clear hfz14_0
         try clear hfz14_1
         try clear hfz16_0
         try clear hfz16_1
         try clear hfz21_0
         try clear hfz21_1
         try clear hfz27_0
         try clear hfz27_1
         try clear hfz29_0
         try clear hfz29_1
         try clear hfz32_0
         try clear hfz32_1
         try clear hfz34_0
         try clear hfz34_1
         try clear hfz40_0
         try clear hfz40_1
         try clear hfz42_0
         try clear hfz42_1
         try clear hfz45_0
         try clear hfz45_1
         try clear hfz47_0
         try clear hfz47_1
         try clear hfz53_0
         try clear hfz53_1
         try clear hfz9_0
         try clear hfz9_1
         try clear p2
         obtain ⟨x12_3, x81_3, rfl, HA, HK3, HO_12, HO_324001, HO_330001, HO_336001, BK323, BK329, BK335, HB⟩ := hrel
         cases gk with
         | zero => exact absurd HA.out (by simp [laws_FnAddPick.l1])
         | succ k3 =>
          have H := HA.out
          clear HA
          simp only [laws_FnAddPick.l1] at H
          by_cases c54 : x81_3 < t316
          ·rw [if_pos c54] at H
           have c54b0 : decide (x81_3 < t316) = true := decide_eq_true c54
           clear c54
           obtain ⟨ji55, hji55⟩ : ∃ j_ : Int, (Int.tmod x81_3 3) = j_ := ⟨_, rfl⟩
           replace H : (if 0 ≤ (ji55) then (if x12_3.length < 17592186044416 then (laws_FnAddPick.l1 k3 t320 t321 t322 t328 x75_2 (x12_3 ++ [Int.tmod (shr .i64 x75_2 (ji55)) 2]) x75_2 t316 (wrap64 (x81_3 + 1)) t316 t317 t324 t325) else (none)) else (none)) = some r := by first | (rw [hji55] at H; exact H) | (simp only [hji55] at H ⊢; exact H)
           by_cases c56 : 0 ≤ (ji55)
           ·rw [if_pos c56] at H
            have c56b0 := eq_true c56
            have c56b1 : decide (0 ≤ (ji55)) = true := decide_eq_true c56
            clear c56
            obtain ⟨ji57, hji57⟩ : ∃ j_ : Int, (shr .i64 x75_2 (ji55)) = j_ := ⟨_, rfl⟩
            replace H : (if x12_3.length < 17592186044416 then (laws_FnAddPick.l1 k3 t320 t321 t322 t328 x75_2 (x12_3 ++ [Int.tmod (ji57) 2]) x75_2 t316 (wrap64 (x81_3 + 1)) t316 t317 t324 t325) else (none)) = some r := by first | (rw [hji57] at H; exact H) | (simp only [hji57] at H ⊢; exact H)
            have hji57_ : (x75_2 / 2 ^ min (ji55).toNat 64) = ji57 := hji57
            have hji57z : (ji55) ≤ 64 → (x75_2 / 2 ^ (ji55).toNat) = ji57 := shr_small hji57
            by_cases c58 : x12_3.length < 17592186044416
            ·rw [if_pos c58] at H
             have LMc58 := Aside0.mk c58
             clear c58
             obtain ⟨y340, hy340⟩ : ∃ y_ : List Int, y_ = (x12_3 ++ [Int.tmod (ji57) 2]) := ⟨_, rfl⟩
             replace H : (laws_FnAddPick.l1 k3 t320 t321 t322 t328 x75_2 y340 x75_2 t316 (wrap64 (x81_3 + 1)) t316 t317 t324 t325) = some r := by first | (rw [hy340]; with_reducible exact H) | (have H2_ := (Option.bind_some _ _).symm.trans H; rw [hy340]; with_reducible exact H2_) | (have H2_ := (Option.bind_some _ _).symm.trans H; with_reducible exact H2_) | with_reducible exact H | (rw [hy340]; exact H) | exact H
             have Ny340 := Aside0.mk hy340
             clear hy340
             have H' := Aside0.mk H
             clear H
             go_wp2_with (first | ((with_reducible refine gate_builtin (b := .append) (xs := #[.tmp 84, .tmp 90]) rfl ?_); (try (refine gate_guard (by rfl) ?_; dsimp only)); at_builtin; refine Kd.R_append (Kd.int .i64) (w0 := w) w.heap.size rfl (.tmp 84) (.tmp 90) 38 3 (.int .i64 0) 8 rfl Try.underlying38 info3 rfl (by decide) (by omega) u12 x12_3 (Int.tmod (ji57) 2) [.int .i64 (Int.tmod (ji57) 2)] (fun _ => True) (fun _ => False) rfl rfl ?aP (fun _ hk => hk.elim) ?aF ?aO ?aB ?aS ?aL ?_; (case aP => exact rfl); (case aB => exact hbC); (case aF => exact (fun _ _ => trivial)); (case aO => exact (rvR HO_12.out)); (case aS => exact (below_size hbC)); (case aL => have := LMc58.out; omega); intro v341 w59 ho hb hg hat; rw [← Ny340.out] at ho; have n0_ := Aside0.mk (Kd.R_over' (rvR HO_324001.out) (Kd.R_typed (rvR HO_12.out)) (by decide) hg); have n1_ := Aside0.mk (Kd.R_over' (rvR HO_330001.out) (Kd.R_typed (rvR HO_12.out)) (by decide) hg); have n2_ := Aside0.mk (Kd.R_over' (rvR HO_336001.out) (Kd.R_typed (rvR HO_12.out)) (by decide) hg); have n3_ := Aside0.mk (blk_grown (g := gb323) (o := .cells #[.int .i64 t316, .slice Ao10 t317.length co10] 28 (0, 0)) (bvK BK323.out) hg (Kd.R_ne HO_12.out BK323.out (by decide))); have n4_ := Aside0.mk (blk_grown (g := gb329) (o := .cells #[.int .i64 t324, .slice Ao15 t325.length co15] 28 (0, 0)) (bvK BK329.out) hg (Kd.R_ne HO_12.out BK329.out (by decide))); have n5_ := Aside0.mk (blk_grown (g := gb335) (o := .cells #[.int .i64 t330, .slice Ao22 t331.length co22] 28 (0, 0)) (bvK BK335.out) hg (Kd.R_ne HO_12.out BK335.out (by decide))); have n6_ := Aside0.mk (hb); have n7_ := Aside0.mk (ho); clear HO_324001; clear HO_330001; clear HO_336001; clear BK323; clear BK329; clear BK335; clear HB; clear HO_12; have HO_324001 := n0_; have HO_330001 := n1_; have HO_336001 := n2_; have BK323 := n3_; have BK329 := n4_; have BK335 := n5_; have HB := n6_; have HO342 := n7_; clear n0_ n1_ n2_ n3_ n4_ n5_ n6_ n7_; clear ho hb hg hat))
             go_roundg k3
             case measure => have := HJ5.out; have := HK2.out; have := HK3.out; omega
             case rel => exact ⟨(y340), (wrap64 (x81_3 + 1)), rsd, H', ⟨by have := HJ5.out; have := HK2.out; have := HK3.out; omega⟩, ⟨rvR HO342.out⟩, ⟨rvR HO_324001.out⟩, ⟨rvR HO_330001.out⟩, ⟨rvR HO_336001.out⟩, ⟨bvK BK323.out⟩, ⟨bvK BK329.out⟩, ⟨bvK BK335.out⟩, ⟨hbC⟩⟩
            ·rw [if_neg c58] at H
             exact absurd H (by simp)
           ·rw [if_neg c56] at H
            exact absurd H (by simp)
          ·rw [if_neg c54] at H
           have c54b0 : decide (x81_3 < t316) = false := decide_eq_false c54
           clear c54
           replace H := Option.bind_eq_some_iff.mp H
           obtain ⟨t343, A600, H⟩ := H
           replace H : ((impl_NodeValues.f k3 t324 t325 x12_3).bind fun t346 => (if (t346.length : Int) < (t343.length : Int) then (laws_FnAddPick.j3 k3 t320 t321 t322 t328 x12_3 x75_2 true t316 t317 t324 t325) else (if 0 ≤ (t343.length : Int) then (if (t343.length : Int) ≤ (t346.length : Int) then ((laws_wcInts.f k3 t343 (t346.take ((t343.length : Int) : Int).toNat)).bind fun t353 => (laws_FnAddPick.j3 k3 t320 t321 t322 t328 x12_3 x75_2 (!t353) t316 t317 t324 t325)) else (none)) else (none)))) = some r := H
           have A60 := Aside0.mk A600
           clear A600
           replace H := Option.bind_eq_some_iff.mp H
           obtain ⟨t346, A610, H⟩ := H
           replace H : (if (t346.length : Int) < (t343.length : Int) then (laws_FnAddPick.j3 k3 t320 t321 t322 t328 x12_3 x75_2 true t316 t317 t324 t325) else (if 0 ≤ (t343.length : Int) then (if (t343.length : Int) ≤ (t346.length : Int) then ((laws_wcInts.f k3 t343 (t346.take ((t343.length : Int) : Int).toNat)).bind fun t353 => (laws_FnAddPick.j3 k3 t320 t321 t322 t328 x12_3 x75_2 (!t353) t316 t317 t324 t325)) else (none)) else (none))) = some r := H
           have A61 := Aside0.mk A610
           clear A610
           have HC62 := Aside0.mk H
           clear H
           try go_wp2
           have n0_ := Aside0.mk (Kd.R_drew HO_12.out)
           have n1_ := Aside0.mk (Kd.R_drew HO_324001.out)
           have n2_ := Aside0.mk (Kd.R_drew HO_330001.out)
           have n3_ := Aside0.mk (Kd.R_drew HO_336001.out)
           have n4_ := Aside0.mk (blk_drew BK323.out)
           have n5_ := Aside0.mk (blk_drew BK329.out)
           have n6_ := Aside0.mk (blk_drew BK335.out)
           have n7_ := Aside0.mk (below_drew1 HB.out)
           clear HO_12
           clear HO_324001
           clear HO_330001
           clear HO_336001
           clear BK323
           clear BK329
           clear BK335
           clear HB
           have HO_12 := n0_
           have HO_324001 := n1_
           have HO_330001 := n2_
           have HO_336001 := n3_
           have BK323 := n4_
           have BK329 := n5_
           have BK335 := n6_
           have HB := n7_
           clear n0_ n1_ n2_ n3_ n4_ n5_ n6_ n7_
           obtain ⟨Ao64, co64, eo64⟩ := Kd.R_slice HO_12.out
           (first | subst eo64 | (injection eo64 with f1_ f2_ f3_; have f4_ := f1_.symm; have f5_ := f3_.symm; clear f1_ f2_ f3_; subst f4_; subst f5_))
           refine start_ (n := 8) (S := fun w' => w'.cell? ⟨gb323, 0, none⟩ = some (.int .i64 t316) ∧ w'.cell? ⟨gb323, 1, none⟩ = some (.slice Ao10 t317.length co10) ∧ w'.cell? ⟨gb329, 0, none⟩ = some (.int .i64 t324) ∧ w'.cell? ⟨gb329, 1, none⟩ = some (.slice Ao15 t325.length co15)) (ds := []) (Pt.bm 8 0) (by kernel_rfl) rfl rfl ⟨(blk_cell BK323.out 0).trans rfl, (blk_cell BK323.out 1).trans rfl, (blk_cell BK329.out 0).trans rfl, (blk_cell BK329.out 1).trans rfl⟩ (fun hHeld => ?_); refine with_tabW laws_FnAddPick.tab17 laws_FnAddPick.bits17 (fun HT_ HW_ => ?_)
           generalize wr.drew = w63 at HO_12 HO_324001 HO_330001 HO_336001 BK323 BK329 BK335 HB hHeld ⊢
           refine Pt.pu 1 (some 94) (Pt.bm 8 2) (any_of HT_.out (by kernel_rfl)) ?_
           refine Pt.pu 4 (some 97) (Pt.bm 8 18) (any_of HT_.out (by kernel_rfl)) ?_
           refine Pt.tk 0 (some 93) (Pt.bm 8 19) rfl rfl (take_ofW HT_.out HW_.out (by kernel_rfl)) hHeld (Or.inl ⟨by rfl, by rintro w' ⟨s0, s1, s2, s3⟩; go_simp; with_reducible rfl⟩) ?_
           refine Pt.tk 3 (some 96) (Pt.bm 8 27) rfl rfl (take_ofW HT_.out HW_.out (by kernel_rfl)) hHeld (Or.inl ⟨by rfl, by rintro w' ⟨s0, s1, s2, s3⟩; go_simp; with_reducible rfl⟩) ?_
           refine one_ (i := 2) (N := some 95) (Pt.bm 8 31) rfl rfl (one_of HT_.out (by kernel_rfl)) (by decide) (fun K hK => ?_)
           refine goes_ Try.func20 (by kernel_rfl) rfl #[.agg #[.int .i64 t316, .slice Ao10 t317.length co10], .slice Ao64 x12_3.length co64] (by rfl) rfl rfl lmB ?_
           with_reducible refine (impl_NodeValues.calls k3 t316 _ _ t317 _ _ x12_3 t343 _ ?side1 ?side2 ?side3 ?side4 A60.out).mono ?_
           (case side1 => exact kcR (Kd.R_reads' HO_324001.out).2.2)
           (case side2 => exact (Kd.R_reads' HO_324001.out).2.1)
           (case side3 => exact kcR (Kd.R_reads' HO_12.out).2.2)
           (case side4 => exact (Kd.R_reads' HO_12.out).2.1)
           rintro e w65 ⟨v344, rfl, ho0, hb⟩
           refine ⟨_, rfl, ?_⟩
           have n0_ := Aside0.mk (Kd.R_elder' (rvR HO_12.out) (Kd.R_base ho0) hb)
           have n1_ := Aside0.mk (Kd.R_below (rvR HO_324001.out) hb)
           have n2_ := Aside0.mk (Kd.R_below (rvR HO_330001.out) hb)
           have n3_ := Aside0.mk (Kd.R_below (rvR HO_336001.out) hb)
           have n4_ := Aside0.mk (Kd.R_lower (Kd.R_new' ho0 (Kd.R_lt (rvR HO_12.out))) (below_size hbC))
           have n5_ := Aside0.mk (blk_below (g := gb323) (o := .cells #[.int .i64 t316, .slice Ao10 t317.length co10] 28 (0, 0)) (bvK BK323.out) hb)
           have n6_ := Aside0.mk (blk_below (g := gb329) (o := .cells #[.int .i64 t324, .slice Ao15 t325.length co15] 28 (0, 0)) (bvK BK329.out) hb)
           have n7_ := Aside0.mk (blk_below (g := gb335) (o := .cells #[.int .i64 t330, .slice Ao22 t331.length co22] 28 (0, 0)) (bvK BK335.out) hb)
           have n8_ := Aside0.mk (below_step hbC hb)
           clear HO_12
           clear HO_324001
           clear HO_330001
           clear HO_336001
           clear BK323
           clear BK329
           clear BK335
           clear HB
           have HO_12 := n0_
           have HO_324001 := n1_
           have HO_330001 := n2_
           have HO_336001 := n3_
           have HO345 := n4_
           have BK323 := n5_
           have BK329 := n6_
           have BK335 := n7_
           have HB := n8_
           clear n0_ n1_ n2_ n3_ n4_ n5_ n6_ n7_ n8_
           (try clear hb)
           (try clear hb2)
           (try clear hk)
           (try clear hi)
           (try clear ho0)
           refine hK.out _ _ ⟨(blk_cell BK323.out 0).trans rfl, (blk_cell BK323.out 1).trans rfl, (blk_cell BK329.out 0).trans rfl, (blk_cell BK329.out 1).trans rfl⟩ (fun hHeld => ?_)
           clear hK K
           refine norm_ (a' := ?_) ?_ ?_
           rotate_left
           ·show Act.put _ (some 95) _ = _
            simp only [Act.put, List.setIfInBounds_toArray, List.set_cons_zero, List.set_cons_succ, i64_w, i32_w]
            rfl
           refine one_ (i := 5) (N := some 98) (Pt.bm 8 63) rfl rfl (one_of HT_.out (by kernel_rfl)) (by decide) (fun K hK => ?_)
           refine goes_ Try.func20 (by kernel_rfl) rfl #[.agg #[.int .i64 t324, .slice Ao15 t325.length co15], .slice Ao64 x12_3.length co64] (by rfl) rfl rfl lmB ?_
           with_reducible refine (impl_NodeValues.calls k3 t324 _ _ t325 _ _ x12_3 t346 _ ?side1 ?side2 ?side3 ?side4 A61.out).mono ?_
           (case side1 => exact kcR (Kd.R_reads' HO_330001.out).2.2)
           (case side2 => exact (Kd.R_reads' HO_330001.out).2.1)
           (case side3 => exact kcR (Kd.R_reads' HO_12.out).2.2)
           (case side4 => exact (Kd.R_reads' HO_12.out).2.1)
           rintro e w66 ⟨v347, rfl, ho0, hb⟩
           refine ⟨_, rfl, ?_⟩
           have n0_ := Aside0.mk (Kd.R_elder' (rvR HO_12.out) (Kd.R_base ho0) hb)
           have n1_ := Aside0.mk (Kd.R_below (rvR HO_324001.out) hb)
           have n2_ := Aside0.mk (Kd.R_below (rvR HO_330001.out) hb)
           have n3_ := Aside0.mk (Kd.R_below (rvR HO_336001.out) hb)
           have n4_ := Aside0.mk (Kd.R_elder' (rvR HO345.out) (Kd.R_base ho0) hb)
           have n5_ := Aside0.mk (Kd.R_lower (Kd.R_new' (Kd.R_new' ho0 (Kd.R_lt (rvR HO_12.out))) (Kd.R_lt (rvR HO345.out))) (below_size hbC))
           have n6_ := Aside0.mk (blk_below (g := gb323) (o := .cells #[.int .i64 t316, .slice Ao10 t317.length co10] 28 (0, 0)) (bvK BK323.out) hb)
           have n7_ := Aside0.mk (blk_below (g := gb329) (o := .cells #[.int .i64 t324, .slice Ao15 t325.length co15] 28 (0, 0)) (bvK BK329.out) hb)
           have n8_ := Aside0.mk (blk_below (g := gb335) (o := .cells #[.int .i64 t330, .slice Ao22 t331.length co22] 28 (0, 0)) (bvK BK335.out) hb)
           have n9_ := Aside0.mk (below_step hbC hb)
           clear HO_12
           clear HO_324001
           clear HO_330001
           clear HO_336001
           clear HO345
           clear BK323
           clear BK329
           clear BK335
           clear HB
           have HO_12 := n0_
           have HO_324001 := n1_
           have HO_330001 := n2_
           have HO_336001 := n3_
           have HO345 := n4_
           have HO348 := n5_
           have BK323 := n6_
           have BK329 := n7_
           have BK335 := n8_
           have HB := n9_
           clear n0_ n1_ n2_ n3_ n4_ n5_ n6_ n7_ n8_ n9_
           (try clear hb)
           (try clear hb2)
           (try clear hk)
           (try clear hi)
           (try clear ho0)
           refine hK.out _ _ ⟨(blk_cell BK323.out 0).trans rfl, (blk_cell BK323.out 1).trans rfl, (blk_cell BK329.out 0).trans rfl, (blk_cell BK329.out 1).trans rfl⟩ (fun hHeld => ?_)
           clear hK K
           refine norm_ (a' := ?_) ?_ ?_
           rotate_left
           ·show Act.put _ (some 98) _ = _
            simp only [Act.put, List.setIfInBounds_toArray, List.set_cons_zero, List.set_cons_succ, i64_w, i32_w]
            rfl
           refine Pt.pu 6 (some 14) (Pt.bm 8 127) (any_of HT_.out (by kernel_rfl)) ?_
           refine Pt.pu 7 (some 15) (Pt.bm 8 255) (any_of HT_.out (by kernel_rfl)) ?_
           refine done_ (done_of HT_.out (by kernel_rfl)) ?_
           go_upto_region 18 with (fail)
           go_cut [112] (fun v112 wc => ∃ (kq : Nat) (x112_61 : Bool), v112 = .bool x112_61 ∧ Aside0 (laws_FnAddPick.j3 kq t320 t321 t322 t328 x12_3 x75_2 x112_61 t316 t317 t324 t325 = some r) ∧ Aside0 (kq ≤ k3) ∧ Aside0 (Kd.R (Kd.int .i64) 3 wc w.heap.size (fun _ => True) (.slice Ao64 x12_3.length co64) x12_3) ∧ Aside0 (Kd.R k92 92 wc w.heap.size (fun k_ => some k_ ≠ ((.slice Ao15 t325.length co15) : Value).ownBlock ∧ some k_ ≠ ((.slice Ao22 t331.length co22) : Value).ownBlock) (.slice Ao10 t317.length co10) t317) ∧ Aside0 (Kd.R k92 92 wc w.heap.size (fun k_ => some k_ ≠ ((.slice Ao10 t317.length co10) : Value).ownBlock ∧ some k_ ≠ ((.slice Ao22 t331.length co22) : Value).ownBlock) (.slice Ao15 t325.length co15) t325) ∧ Aside0 (Kd.R k92 92 wc w.heap.size (fun k_ => some k_ ≠ ((.slice Ao10 t317.length co10) : Value).ownBlock ∧ some k_ ≠ ((.slice Ao15 t325.length co15) : Value).ownBlock) (.slice Ao22 t331.length co22) t331) ∧ Aside0 (wc.heap[gb323]? = some (.cells #[.int .i64 t316, (.slice Ao10 t317.length co10)] 28 (0, 0))) ∧ Aside0 (wc.heap[gb329]? = some (.cells #[.int .i64 t324, (.slice Ao15 t325.length co15)] 28 (0, 0))) ∧ Aside0 (wc.heap[gb335]? = some (.cells #[.int .i64 t330, (.slice Ao22 t331.length co22)] 28 (0, 0))) ∧ Aside0 (Below w.heap.size w wc))
           case first =>
            have H := HC62.out
            clear HC62
            by_cases c67 : (t346.length : Int) < (t343.length : Int)
            ·rw [if_pos c67] at H
             have c67b0 : decide ((t346.length : Int) < (t343.length : Int)) = true := decide_eq_true c67
             have c67b1 : decide (t346.length < t343.length) = true := decide_eq_true (Int.ofNat_lt.mp c67)
             clear c67
             (first | rw [c67b0] | (simp only [i64_w, i32_w]; rw [c67b0]) | skip)
             have H' := Aside0.mk H
             clear H
             obtain ⟨Ao68, co68, eo68⟩ := Kd.R_slice HO348.out
             subst eo68
             obtain ⟨Ao69, co69, eo69⟩ := Kd.R_slice HO345.out
             subst eo69
             go_wp2
             go_meet
             case rel => exact ⟨_, (true), rsd, H', ⟨by have := HJ5.out; have := HK2.out; have := HK3.out; first | omega | exact Nat.le_refl _⟩, ⟨by (with_reducible repeat (first | apply Kd.R_alloc | apply Kd.R_drewN | apply Kd.R_drew)); exact Kd.R_mono HO_12.out (fun _ hk => trivial)⟩, ⟨rvR HO_324001.out⟩, ⟨rvR HO_330001.out⟩, ⟨rvR HO_336001.out⟩, ⟨bvK BK323.out⟩, ⟨bvK BK329.out⟩, ⟨bvK BK335.out⟩, ⟨hbC⟩⟩
            ·rw [if_neg c67] at H
             have c67b0 : decide ((t346.length : Int) < (t343.length : Int)) = false := decide_eq_false c67
             have c67b1 : decide (t346.length < t343.length) = false := decide_eq_false (fun h => c67 (Int.ofNat_lt.mpr h))
             clear c67
             (first | rw [c67b0] | (simp only [i64_w, i32_w]; rw [c67b0]) | skip)
             by_cases c70 : 0 ≤ (t343.length : Int)
             ·rw [if_pos c70] at H
              have c70b0 := eq_true c70
              have c70b1 : decide (0 ≤ (t343.length : Int)) = true := decide_eq_true c70
              clear c70
              by_cases c71 : (t343.length : Int) ≤ (t346.length : Int)
              ·rw [if_pos c71] at H
               have c71b0 := eq_true c71
               have c71b1 : decide ((t343.length : Int) ≤ (t346.length : Int)) = true := decide_eq_true c71
               clear c71
               obtain ⟨y349, hy349⟩ : ∃ y_ : List Int, y_ = (t346.take ((t343.length : Int) : Int).toNat) := ⟨_, rfl⟩
               replace H : ((laws_wcInts.f k3 t343 y349).bind fun t353 => (laws_FnAddPick.j3 k3 t320 t321 t322 t328 x12_3 x75_2 (!t353) t316 t317 t324 t325)) = some r := by first | (rw [hy349]; with_reducible exact H) | (have H2_ := (Option.bind_some _ _).symm.trans H; rw [hy349]; with_reducible exact H2_) | (have H2_ := (Option.bind_some _ _).symm.trans H; with_reducible exact H2_) | with_reducible exact H | (rw [hy349]; exact H) | exact H
               have Ny349 := Aside0.mk hy349
               clear hy349
               replace H := Option.bind_eq_some_iff.mp H
               obtain ⟨t353, A720, H⟩ := H
               replace H : (laws_FnAddPick.j3 k3 t320 t321 t322 t328 x12_3 x75_2 (!t353) t316 t317 t324 t325) = some r := H
               have A72 := Aside0.mk A720
               clear A720
               have H' := Aside0.mk H
               clear H
               obtain ⟨Ao73, co73, eo73⟩ := Kd.R_slice HO348.out
               subst eo73
               obtain ⟨Ao74, co74, eo74⟩ := Kd.R_slice HO345.out
               subst eo74
               have q75 : ((t343.length : Int) : Int) ≤ ((t346.length : Int) : Int) := oda
               obtain ⟨i075, hi075, _, hsz75, _⟩ := info_parts info3
               have hroom75 : t346.length ≤ co73 := (Kd.R_reads' HO348.out).2.1
               have hC75 : Kd.C (Kd.int .i64) _ Ao73 t346.length t346 := (Kd.R_reads' HO348.out).2.2
               have hcut75 := cut_to (P := Try.prog) 38 3 .i64 Try.underlying38 hi075 Ao73 t346.length co73 (t343.length : Int) (oda) q75 hroom75
               have hr75 := Kd.C_take (m := ((t343.length : Int) : Int).toNat) hC75 (by omega)
               have hy75 : y349.length = ((t343.length : Int) : Int).toNat := (by rw [Ny349.out, List.length_take]; omega)
               rw [← Ny349.out] at hr75
               rw [← hy75] at hcut75
               have HR352 := Aside0.mk hr75
               have HC352 := Aside0.mk (show y349.length ≤ co73 from by omega)
               clear hr75 hC75 hroom75 hi075 hsz75
               have KY75 := Aside0.mk hy75
               clear hy75
               have KL75 := Aside0.mk (show ((t343.length : Int) : Int).toNat ≤ t346.length from by omega)
               replace q75 := eq_true q75
               go_wp2_with (first | (go_at_call 21; (with_reducible refine (laws_wcInts.calls k3 _ _ t343 _ _ y349 t353 _ ?side1 ?side2 ?side3 ?side4 A72.out).mono ?_); (case side1 => exact kcR (Kd.R_reads' HO345.out).2.2); (case side2 => exact (Kd.R_reads' HO345.out).2.1); (case side3 => repeat (first | exact (by repeat (first | (with_reducible exact HR352.out) | (with_reducible refine Kd.C_alloc ?_ _) | (with_reducible refine Kd.C_drewN ?_ _) | (with_reducible refine Kd.C_drew ?_) | exact HR352.out)) | (with_reducible refine Kd.C_alloc ?_ _) | (with_reducible refine Kd.C_drewN ?_ _) | (with_reducible refine Kd.C_drew ?_))); (case side4 => exact HC352.out); rintro e w' ⟨rfl, ⟨nd, rfl⟩⟩))
               go_meet
               case rel => exact ⟨_, (!t353), rsd, H', ⟨by have := HJ5.out; have := HK2.out; have := HK3.out; first | omega | exact Nat.le_refl _⟩, ⟨by (with_reducible repeat (first | apply Kd.R_alloc | apply Kd.R_drewN | apply Kd.R_drew)); exact Kd.R_mono HO_12.out (fun _ hk => trivial)⟩, ⟨rvR HO_324001.out⟩, ⟨rvR HO_330001.out⟩, ⟨rvR HO_336001.out⟩, ⟨bvK BK323.out⟩, ⟨bvK BK329.out⟩, ⟨bvK BK335.out⟩, ⟨hbC⟩⟩
              ·rw [if_neg c71] at H
               exact absurd H (by simp)
             ·rw [if_neg c70] at H
              exact absurd H (by simp)
           case rest =>
            clear HC62
            try clear c1
            try clear c2
            try clear c2b0
            try clear c2b1
            try clear p2
            try clear c3
            try clear c4
            try clear c5
            try clear c6
            try clear p6
            try clear c7
            try clear q7
            try clear c13
            try clear c15
            try clear c19
            try clear c20
            try clear c23
            try clear c23b0
            try clear c23b1
            try clear c24
            try clear c24b0
            try clear c24b1
            try clear c24b2
            try clear c25
            try clear c26
            try clear c28
            try clear c30
            try clear c31
            try clear c33
            try clear c35
            try clear c36
            try clear c36b0
            try clear c36b1
            try clear c37
            try clear c37b0
            try clear c37b1
            try clear c37b2
            try clear c38
            try clear c39
            try clear c41
            try clear c43
            try clear c44
            try clear c46
            try clear c48
            try clear c48b0
            try clear c51
            try clear c52
            try clear c54
            try clear c54b0
            try clear c56
            try clear c56b0
            try clear c56b1
            try clear c58
            try clear p64
            try clear c67
            try clear c67b0
            try clear c67b1
            try clear c70
            try clear c70b0
            try clear c70b1
            try clear c71
            try clear c71b0
            try clear c71b1
            try clear q75
            try clear hcz14_0
            try clear hcz14_1
            try clear hcz16_0
            try clear hcz16_1
            try clear hcz21_0
            try clear hcz21_1
            try clear hcz27_0
            try clear hcz27_1
            try clear hcz29_0
            try clear hcz29_1
            try clear hcz32_0
            try clear hcz32_1
            try clear hcz34_0
            try clear hcz34_1
            try clear hcz40_0
            try clear hcz40_1
            try clear hcz42_0
            try clear hcz42_1
            try clear hcz45_0
            try clear hcz45_1
            try clear hcz47_0
            try clear hcz47_1
            try clear hcz53_0
            try clear hcz53_1
            try clear hcz9_0
            try clear hcz9_1
            try clear hfz14_0
            try clear hfz14_1
            try clear hfz16_0
            try clear hfz16_1
            try clear hfz21_0
            try clear hfz21_1
            try clear hfz27_0
            try clear hfz27_1
            try clear hfz29_0
            try clear hfz29_1
            try clear hfz32_0
            try clear hfz32_1
            try clear hfz34_0
            try clear hfz34_1
            try clear hfz40_0
            try clear hfz40_1
            try clear hfz42_0
            try clear hfz42_1
            try clear hfz45_0
            try clear hfz45_1
            try clear hfz47_0
            try clear hfz47_1
            try clear hfz53_0
            try clear hfz53_1
            try clear hfz9_0
            try clear hfz9_1
            try clear p2
            try clear q75
            obtain ⟨kq, x112_61, rfl, HA, HJ61, HO_12, HO_324001, HO_330001, HO_336001, BK323, BK329, BK335, HB⟩ := hcut
            cases kq with
            | zero => exact absurd HA.out (by simp [laws_FnAddPick.j3])
            | succ kj61 =>
             have H := HA.out
             clear HA
             simp only [laws_FnAddPick.j3] at H
             by_cases c76 : x112_61 = true
             ·subst c76
              have H1 : (some false) = some r := by rw [if_pos rfl] at H; exact H
              clear H
              have H := H1
              clear H1
              obtain rfl := Option.some.inj H
              go_wp2
              go_ret
              exact ⟨ers, hbC⟩
             ·replace c76 := Bool.eq_false_iff.mpr c76
              subst c76
              have H1 : ((impl_EdgeValue.f kj61 t316 t317 x12_3 t322).bind fun t354 => ((impl_EdgeValue.f kj61 t316 t317 x12_3 t320).bind fun t355 => (if t355 = 1 then ((impl_EdgeValue.f kj61 t316 t317 x12_3 t321).bind fun t356 => ((impl_EdgeValue.f kj61 t324 t325 x12_3 t328).bind fun t357 => (if t357 = t356 then (laws_FnAddPick.l0 kj61 t320 t321 t322 t328 (wrap64 (x75_2 + 1)) t316 t317 t324 t325) else (some false)))) else ((impl_EdgeValue.f kj61 t324 t325 x12_3 t328).bind fun t358 => (if t358 = t354 then (laws_FnAddPick.l0 kj61 t320 t321 t322 t328 (wrap64 (x75_2 + 1)) t316 t317 t324 t325) else (some false)))))) = some r := by rw [if_neg (show ¬ (false = true) by decide)] at H; exact H
              clear H
              have H := H1
              clear H1
              replace H := Option.bind_eq_some_iff.mp H
              obtain ⟨t354, A770, H⟩ := H
              replace H : ((impl_EdgeValue.f kj61 t316 t317 x12_3 t320).bind fun t355 => (if t355 = 1 then ((impl_EdgeValue.f kj61 t316 t317 x12_3 t321).bind fun t356 => ((impl_EdgeValue.f kj61 t324 t325 x12_3 t328).bind fun t357 => (if t357 = t356 then (laws_FnAddPick.l0 kj61 t320 t321 t322 t328 (wrap64 (x75_2 + 1)) t316 t317 t324 t325) else (some false)))) else ((impl_EdgeValue.f kj61 t324 t325 x12_3 t328).bind fun t358 => (if t358 = t354 then (laws_FnAddPick.l0 kj61 t320 t321 t322 t328 (wrap64 (x75_2 + 1)) t316 t317 t324 t325) else (some false))))) = some r := H
              have A77 := Aside0.mk A770
              clear A770
              replace H := Option.bind_eq_some_iff.mp H
              obtain ⟨t355, A780, H⟩ := H
              replace H : (if t355 = 1 then ((impl_EdgeValue.f kj61 t316 t317 x12_3 t321).bind fun t356 => ((impl_EdgeValue.f kj61 t324 t325 x12_3 t328).bind fun t357 => (if t357 = t356 then (laws_FnAddPick.l0 kj61 t320 t321 t322 t328 (wrap64 (x75_2 + 1)) t316 t317 t324 t325) else (some false)))) else ((impl_EdgeValue.f kj61 t324 t325 x12_3 t328).bind fun t358 => (if t358 = t354 then (laws_FnAddPick.l0 kj61 t320 t321 t322 t328 (wrap64 (x75_2 + 1)) t316 t317 t324 t325) else (some false)))) = some r := H
              have A78 := Aside0.mk A780
              clear A780
              by_cases c79 : t355 = 1
              ·rw [if_pos c79] at H
               have c79b0 : (t355 == 1) = true := beq_iff_eq.mpr c79
               have c79b1 : (t355 != 1) = false := bne_eq_false_iff_eq.mpr c79
               clear c79
               replace H := Option.bind_eq_some_iff.mp H
               obtain ⟨t356, A800, H⟩ := H
               replace H : ((impl_EdgeValue.f kj61 t324 t325 x12_3 t328).bind fun t357 => (if t357 = t356 then (laws_FnAddPick.l0 kj61 t320 t321 t322 t328 (wrap64 (x75_2 + 1)) t316 t317 t324 t325) else (some false))) = some r := H
               have A80 := Aside0.mk A800
               clear A800
               replace H := Option.bind_eq_some_iff.mp H
               obtain ⟨t357, A810, H⟩ := H
               replace H : (if t357 = t356 then (laws_FnAddPick.l0 kj61 t320 t321 t322 t328 (wrap64 (x75_2 + 1)) t316 t317 t324 t325) else (some false)) = some r := H
               have A81 := Aside0.mk A810
               clear A810
               by_cases c82 : t357 = t356
               ·rw [if_pos c82] at H
                have c82b0 : (t357 == t356) = true := beq_iff_eq.mpr c82
                have c82b1 : (t357 != t356) = false := bne_eq_false_iff_eq.mpr c82
                clear c82
                have H' := Aside0.mk H
                clear H
                have hnb83 := NB323_329.out
                have hnc83 := NB329_323.out
                have hnb84 := NB323_335.out
                have hnc84 := NB335_323.out
                have hcz85_0 : wc.cell? ⟨gb323, 0, none⟩ = some (.int .i64 t316) := (blk_cell BK323.out 0).trans rfl
                have hcz85_1 : wc.cell? ⟨gb323, 1, none⟩ = some (.slice Ao10 t317.length co10) := (blk_cell BK323.out 1).trans rfl
                have hfz85_0 := blk_frozen BK323.out 0
                have hfz85_1 := blk_frozen BK323.out 1
                go_wp2_with (first | ((with_reducible refine gate_callee (f := 22) rfl ?_); refine goesL_ (some 116) rfl rfl Try.func22 (by kernel_rfl) rfl #[.agg #[.int .i64 t316, .slice Ao10 t317.length co10], .slice Ao64 x12_3.length co64, .int .i64 t322] rfl lmB ?_; (with_reducible refine (impl_EdgeValue.calls kj61 t316 _ _ t317 _ _ x12_3 t322 t354 _ ?side1 ?side2 ?side3 ?side4 A77.out).mono ?_); (case side1 => exact kcR (Kd.R_reads' HO_324001.out).2.2); (case side2 => exact (Kd.R_reads' HO_324001.out).2.1); (case side3 => exact kcR (Kd.R_reads' HO_12.out).2.2); (case side4 => exact (Kd.R_reads' HO_12.out).2.1); rintro e w86 ⟨rfl, hb⟩; refine ⟨_, rfl, ?_⟩; have n0_ := Aside0.mk (Kd.R_below (rvR HO_12.out) hb); have n1_ := Aside0.mk (Kd.R_below (rvR HO_324001.out) hb); have n2_ := Aside0.mk (Kd.R_below (rvR HO_330001.out) hb); have n3_ := Aside0.mk (Kd.R_below (rvR HO_336001.out) hb); have n4_ := Aside0.mk (blk_below (g := gb323) (o := .cells #[.int .i64 t316, .slice Ao10 t317.length co10] 28 (0, 0)) (bvK BK323.out) hb); have n5_ := Aside0.mk (blk_below (g := gb329) (o := .cells #[.int .i64 t324, .slice Ao15 t325.length co15] 28 (0, 0)) (bvK BK329.out) hb); have n6_ := Aside0.mk (blk_below (g := gb335) (o := .cells #[.int .i64 t330, .slice Ao22 t331.length co22] 28 (0, 0)) (bvK BK335.out) hb); have n7_ := Aside0.mk (below_step hbC hb); clear HO_12; clear HO_324001; clear HO_330001; clear HO_336001; clear BK323; clear BK329; clear BK335; clear HB; have HO_12 := n0_; have HO_324001 := n1_; have HO_330001 := n2_; have HO_336001 := n3_; have BK323 := n4_; have BK329 := n5_; have BK335 := n6_; have HB := n7_; clear n0_ n1_ n2_ n3_ n4_ n5_ n6_ n7_; (try clear hb); (try clear hb2); (try clear hk); (try clear hi); have hcz87_0 : w86.cell? ⟨gb323, 0, none⟩ = some (.int .i64 t316) := (blk_cell BK323.out 0).trans rfl; have hcz87_1 : w86.cell? ⟨gb323, 1, none⟩ = some (.slice Ao10 t317.length co10) := (blk_cell BK323.out 1).trans rfl; have hfz87_0 := blk_frozen BK323.out 0; have hfz87_1 := blk_frozen BK323.out 1) | ((with_reducible refine gate_callee (f := 22) rfl ?_); refine goesL_ (some 120) rfl rfl Try.func22 (by kernel_rfl) rfl #[.agg #[.int .i64 t316, .slice Ao10 t317.length co10], .slice Ao64 x12_3.length co64, .int .i64 t320] rfl lmB ?_; (with_reducible refine (impl_EdgeValue.calls kj61 t316 _ _ t317 _ _ x12_3 t320 t355 _ ?side1 ?side2 ?side3 ?side4 A78.out).mono ?_); (case side1 => exact kcR (Kd.R_reads' HO_324001.out).2.2); (case side2 => exact (Kd.R_reads' HO_324001.out).2.1); (case side3 => exact kcR (Kd.R_reads' HO_12.out).2.2); (case side4 => exact (Kd.R_reads' HO_12.out).2.1); rintro e w88 ⟨rfl, hb⟩; refine ⟨_, rfl, ?_⟩; have n0_ := Aside0.mk (Kd.R_below (rvR HO_12.out) hb); have n1_ := Aside0.mk (Kd.R_below (rvR HO_324001.out) hb); have n2_ := Aside0.mk (Kd.R_below (rvR HO_330001.out) hb); have n3_ := Aside0.mk (Kd.R_below (rvR HO_336001.out) hb); have n4_ := Aside0.mk (blk_below (g := gb323) (o := .cells #[.int .i64 t316, .slice Ao10 t317.length co10] 28 (0, 0)) (bvK BK323.out) hb); have n5_ := Aside0.mk (blk_below (g := gb329) (o := .cells #[.int .i64 t324, .slice Ao15 t325.length co15] 28 (0, 0)) (bvK BK329.out) hb); have n6_ := Aside0.mk (blk_below (g := gb335) (o := .cells #[.int .i64 t330, .slice Ao22 t331.length co22] 28 (0, 0)) (bvK BK335.out) hb); have n7_ := Aside0.mk (below_step hbC hb); clear HO_12; clear HO_324001; clear HO_330001; clear HO_336001; clear BK323; clear BK329; clear BK335; clear HB; have HO_12 := n0_; have HO_324001 := n1_; have HO_330001 := n2_; have HO_336001 := n3_; have BK323 := n4_; have BK329 := n5_; have BK335 := n6_; have HB := n7_; clear n0_ n1_ n2_ n3_ n4_ n5_ n6_ n7_; (try clear hb); (try clear hb2); (try clear hk); (try clear hi); have hcz89_0 : w88.cell? ⟨gb323, 0, none⟩ = some (.int .i64 t316) := (blk_cell BK323.out 0).trans rfl; have hcz89_1 : w88.cell? ⟨gb323, 1, none⟩ = some (.slice Ao10 t317.length co10) := (blk_cell BK323.out 1).trans rfl; have hfz89_0 := blk_frozen BK323.out 0; have hfz89_1 := blk_frozen BK323.out 1) | ((with_reducible refine gate_callee (f := 22) rfl ?_); refine goesL_ (some 125) rfl rfl Try.func22 (by kernel_rfl) rfl #[.agg #[.int .i64 t316, .slice Ao10 t317.length co10], .slice Ao64 x12_3.length co64, .int .i64 t321] rfl lmB ?_; (with_reducible refine (impl_EdgeValue.calls kj61 t316 _ _ t317 _ _ x12_3 t321 t356 _ ?side1 ?side2 ?side3 ?side4 A80.out).mono ?_); (case side1 => exact kcR (Kd.R_reads' HO_324001.out).2.2); (case side2 => exact (Kd.R_reads' HO_324001.out).2.1); (case side3 => exact kcR (Kd.R_reads' HO_12.out).2.2); (case side4 => exact (Kd.R_reads' HO_12.out).2.1); rintro e w90 ⟨rfl, hb⟩; refine ⟨_, rfl, ?_⟩; have n0_ := Aside0.mk (Kd.R_below (rvR HO_12.out) hb); have n1_ := Aside0.mk (Kd.R_below (rvR HO_324001.out) hb); have n2_ := Aside0.mk (Kd.R_below (rvR HO_330001.out) hb); have n3_ := Aside0.mk (Kd.R_below (rvR HO_336001.out) hb); have n4_ := Aside0.mk (blk_below (g := gb323) (o := .cells #[.int .i64 t316, .slice Ao10 t317.length co10] 28 (0, 0)) (bvK BK323.out) hb); have n5_ := Aside0.mk (blk_below (g := gb329) (o := .cells #[.int .i64 t324, .slice Ao15 t325.length co15] 28 (0, 0)) (bvK BK329.out) hb); have n6_ := Aside0.mk (blk_below (g := gb335) (o := .cells #[.int .i64 t330, .slice Ao22 t331.length co22] 28 (0, 0)) (bvK BK335.out) hb); have n7_ := Aside0.mk (below_step hbC hb); clear HO_12; clear HO_324001; clear HO_330001; clear HO_336001; clear BK323; clear BK329; clear BK335; clear HB; have HO_12 := n0_; have HO_324001 := n1_; have HO_330001 := n2_; have HO_336001 := n3_; have BK323 := n4_; have BK329 := n5_; have BK335 := n6_; have HB := n7_; clear n0_ n1_ n2_ n3_ n4_ n5_ n6_ n7_; (try clear hb); (try clear hb2); (try clear hk); (try clear hi); have hnb91 := NB329_335.out; have hnc91 := NB335_329.out; have hcz92_0 : w90.cell? ⟨gb329, 0, none⟩ = some (.int .i64 t324) := (blk_cell BK329.out 0).trans rfl; have hcz92_1 : w90.cell? ⟨gb329, 1, none⟩ = some (.slice Ao15 t325.length co15) := (blk_cell BK329.out 1).trans rfl; have hfz92_0 := blk_frozen BK329.out 0; have hfz92_1 := blk_frozen BK329.out 1) | ((with_reducible refine gate_callee (f := 22) rfl ?_); refine goesL_ (some 129) rfl rfl Try.func22 (by kernel_rfl) rfl #[.agg #[.int .i64 t324, .slice Ao15 t325.length co15], .slice Ao64 x12_3.length co64, .int .i64 t328] rfl lmB ?_; (with_reducible refine (impl_EdgeValue.calls kj61 t324 _ _ t325 _ _ x12_3 t328 t357 _ ?side1 ?side2 ?side3 ?side4 A81.out).mono ?_); (case side1 => exact kcR (Kd.R_reads' HO_330001.out).2.2); (case side2 => exact (Kd.R_reads' HO_330001.out).2.1); (case side3 => exact kcR (Kd.R_reads' HO_12.out).2.2); (case side4 => exact (Kd.R_reads' HO_12.out).2.1); rintro e w93 ⟨rfl, hb⟩; refine ⟨_, rfl, ?_⟩; have n0_ := Aside0.mk (Kd.R_below (rvR HO_12.out) hb); have n1_ := Aside0.mk (Kd.R_below (rvR HO_324001.out) hb); have n2_ := Aside0.mk (Kd.R_below (rvR HO_330001.out) hb); have n3_ := Aside0.mk (Kd.R_below (rvR HO_336001.out) hb); have n4_ := Aside0.mk (blk_below (g := gb323) (o := .cells #[.int .i64 t316, .slice Ao10 t317.length co10] 28 (0, 0)) (bvK BK323.out) hb); have n5_ := Aside0.mk (blk_below (g := gb329) (o := .cells #[.int .i64 t324, .slice Ao15 t325.length co15] 28 (0, 0)) (bvK BK329.out) hb); have n6_ := Aside0.mk (blk_below (g := gb335) (o := .cells #[.int .i64 t330, .slice Ao22 t331.length co22] 28 (0, 0)) (bvK BK335.out) hb); have n7_ := Aside0.mk (below_step hbC hb); clear HO_12; clear HO_324001; clear HO_330001; clear HO_336001; clear BK323; clear BK329; clear BK335; clear HB; have HO_12 := n0_; have HO_324001 := n1_; have HO_330001 := n2_; have HO_336001 := n3_; have BK323 := n4_; have BK329 := n5_; have BK335 := n6_; have HB := n7_; clear n0_ n1_ n2_ n3_ n4_ n5_ n6_ n7_; (try clear hb); (try clear hb2); (try clear hk); (try clear hi)))
                go_roundg kj61
                case measure => have := HJ5.out; have := HK2.out; have := HK3.out; have := HJ61.out; omega
                case rel => exact ⟨(wrap64 (x75_2 + 1)), rsd, H', ⟨by have := HJ5.out; have := HK2.out; have := HK3.out; have := HJ61.out; omega⟩, ⟨rvR HO_324001.out⟩, ⟨rvR HO_330001.out⟩, ⟨rvR HO_336001.out⟩, ⟨bvK BK323.out⟩, ⟨bvK BK329.out⟩, ⟨bvK BK335.out⟩, ⟨hbC⟩⟩
               ·rw [if_neg c82] at H
                have c82b0 : (t357 == t356) = false := beq_eq_false_iff_ne.mpr c82
                have c82b1 : (t357 != t356) = true := bne_iff_ne.mpr c82
                obtain rfl := Option.some.inj H
                have hnb94 := NB323_329.out
                have hnc94 := NB329_323.out
                have hnb95 := NB323_335.out
                have hnc95 := NB335_323.out
                have hcz96_0 : wc.cell? ⟨gb323, 0, none⟩ = some (.int .i64 t316) := (blk_cell BK323.out 0).trans rfl
                have hcz96_1 : wc.cell? ⟨gb323, 1, none⟩ = some (.slice Ao10 t317.length co10) := (blk_cell BK323.out 1).trans rfl
                have hfz96_0 := blk_frozen BK323.out 0
                have hfz96_1 := blk_frozen BK323.out 1
                go_wp2_with (first | ((with_reducible refine gate_callee (f := 22) rfl ?_); refine goesL_ (some 116) rfl rfl Try.func22 (by kernel_rfl) rfl #[.agg #[.int .i64 t316, .slice Ao10 t317.length co10], .slice Ao64 x12_3.length co64, .int .i64 t322] rfl lmB ?_; (with_reducible refine (impl_EdgeValue.calls kj61 t316 _ _ t317 _ _ x12_3 t322 t354 _ ?side1 ?side2 ?side3 ?side4 A77.out).mono ?_); (case side1 => exact kcR (Kd.R_reads' HO_324001.out).2.2); (case side2 => exact (Kd.R_reads' HO_324001.out).2.1); (case side3 => exact kcR (Kd.R_reads' HO_12.out).2.2); (case side4 => exact (Kd.R_reads' HO_12.out).2.1); rintro e w97 ⟨rfl, hb⟩; refine ⟨_, rfl, ?_⟩; have n0_ := Aside0.mk (Kd.R_below (rvR HO_12.out) hb); have n1_ := Aside0.mk (Kd.R_below (rvR HO_324001.out) hb); have n2_ := Aside0.mk (Kd.R_below (rvR HO_330001.out) hb); have n3_ := Aside0.mk (Kd.R_below (rvR HO_336001.out) hb); have n4_ := Aside0.mk (blk_below (g := gb323) (o := .cells #[.int .i64 t316, .slice Ao10 t317.length co10] 28 (0, 0)) (bvK BK323.out) hb); have n5_ := Aside0.mk (blk_below (g := gb329) (o := .cells #[.int .i64 t324, .slice Ao15 t325.length co15] 28 (0, 0)) (bvK BK329.out) hb); have n6_ := Aside0.mk (blk_below (g := gb335) (o := .cells #[.int .i64 t330, .slice Ao22 t331.length co22] 28 (0, 0)) (bvK BK335.out) hb); have n7_ := Aside0.mk (below_step hbC hb); clear HO_12; clear HO_324001; clear HO_330001; clear HO_336001; clear BK323; clear BK329; clear BK335; clear HB; have HO_12 := n0_; have HO_324001 := n1_; have HO_330001 := n2_; have HO_336001 := n3_; have BK323 := n4_; have BK329 := n5_; have BK335 := n6_; have HB := n7_; clear n0_ n1_ n2_ n3_ n4_ n5_ n6_ n7_; (try clear hb); (try clear hb2); (try clear hk); (try clear hi); have hcz98_0 : w97.cell? ⟨gb323, 0, none⟩ = some (.int .i64 t316) := (blk_cell BK323.out 0).trans rfl; have hcz98_1 : w97.cell? ⟨gb323, 1, none⟩ = some (.slice Ao10 t317.length co10) := (blk_cell BK323.out 1).trans rfl; have hfz98_0 := blk_frozen BK323.out 0; have hfz98_1 := blk_frozen BK323.out 1) | ((with_reducible refine gate_callee (f := 22) rfl ?_); refine goesL_ (some 120) rfl rfl Try.func22 (by kernel_rfl) rfl #[.agg #[.int .i64 t316, .slice Ao10 t317.length co10], .slice Ao64 x12_3.length co64, .int .i64 t320] rfl lmB ?_; (with_reducible refine (impl_EdgeValue.calls kj61 t316 _ _ t317 _ _ x12_3 t320 t355 _ ?side1 ?side2 ?side3 ?side4 A78.out).mono ?_); (case side1 => exact kcR (Kd.R_reads' HO_324001.out).2.2); (case side2 => exact (Kd.R_reads' HO_324001.out).2.1); (case side3 => exact kcR (Kd.R_reads' HO_12.out).2.2); (case side4 => exact (Kd.R_reads' HO_12.out).2.1); rintro e w99 ⟨rfl, hb⟩; refine ⟨_, rfl, ?_⟩; have n0_ := Aside0.mk (Kd.R_below (rvR HO_12.out) hb); have n1_ := Aside0.mk (Kd.R_below (rvR HO_324001.out) hb); have n2_ := Aside0.mk (Kd.R_below (rvR HO_330001.out) hb); have n3_ := Aside0.mk (Kd.R_below (rvR HO_336001.out) hb); have n4_ := Aside0.mk (blk_below (g := gb323) (o := .cells #[.int .i64 t316, .slice Ao10 t317.length co10] 28 (0, 0)) (bvK BK323.out) hb); have n5_ := Aside0.mk (blk_below (g := gb329) (o := .cells #[.int .i64 t324, .slice Ao15 t325.length co15] 28 (0, 0)) (bvK BK329.out) hb); have n6_ := Aside0.mk (blk_below (g := gb335) (o := .cells #[.int .i64 t330, .slice Ao22 t331.length co22] 28 (0, 0)) (bvK BK335.out) hb); have n7_ := Aside0.mk (below_step hbC hb); clear HO_12; clear HO_324001; clear HO_330001; clear HO_336001; clear BK323; clear BK329; clear BK335; clear HB; have HO_12 := n0_; have HO_324001 := n1_; have HO_330001 := n2_; have HO_336001 := n3_; have BK323 := n4_; have BK329 := n5_; have BK335 := n6_; have HB := n7_; clear n0_ n1_ n2_ n3_ n4_ n5_ n6_ n7_; (try clear hb); (try clear hb2); (try clear hk); (try clear hi); have hcz100_0 : w99.cell? ⟨gb323, 0, none⟩ = some (.int .i64 t316) := (blk_cell BK323.out 0).trans rfl; have hcz100_1 : w99.cell? ⟨gb323, 1, none⟩ = some (.slice Ao10 t317.length co10) := (blk_cell BK323.out 1).trans rfl; have hfz100_0 := blk_frozen BK323.out 0; have hfz100_1 := blk_frozen BK323.out 1) | ((with_reducible refine gate_callee (f := 22) rfl ?_); refine goesL_ (some 125) rfl rfl Try.func22 (by kernel_rfl) rfl #[.agg #[.int .i64 t316, .slice Ao10 t317.length co10], .slice Ao64 x12_3.length co64, .int .i64 t321] rfl lmB ?_; (with_reducible refine (impl_EdgeValue.calls kj61 t316 _ _ t317 _ _ x12_3 t321 t356 _ ?side1 ?side2 ?side3 ?side4 A80.out).mono ?_); (case side1 => exact kcR (Kd.R_reads' HO_324001.out).2.2); (case side2 => exact (Kd.R_reads' HO_324001.out).2.1); (case side3 => exact kcR (Kd.R_reads' HO_12.out).2.2); (case side4 => exact (Kd.R_reads' HO_12.out).2.1); rintro e w101 ⟨rfl, hb⟩; refine ⟨_, rfl, ?_⟩; have n0_ := Aside0.mk (Kd.R_below (rvR HO_12.out) hb); have n1_ := Aside0.mk (Kd.R_below (rvR HO_324001.out) hb); have n2_ := Aside0.mk (Kd.R_below (rvR HO_330001.out) hb); have n3_ := Aside0.mk (Kd.R_below (rvR HO_336001.out) hb); have n4_ := Aside0.mk (blk_below (g := gb323) (o := .cells #[.int .i64 t316, .slice Ao10 t317.length co10] 28 (0, 0)) (bvK BK323.out) hb); have n5_ := Aside0.mk (blk_below (g := gb329) (o := .cells #[.int .i64 t324, .slice Ao15 t325.length co15] 28 (0, 0)) (bvK BK329.out) hb); have n6_ := Aside0.mk (blk_below (g := gb335) (o := .cells #[.int .i64 t330, .slice Ao22 t331.length co22] 28 (0, 0)) (bvK BK335.out) hb); have n7_ := Aside0.mk (below_step hbC hb); clear HO_12; clear HO_324001; clear HO_330001; clear HO_336001; clear BK323; clear BK329; clear BK335; clear HB; have HO_12 := n0_; have HO_324001 := n1_; have HO_330001 := n2_; have HO_336001 := n3_; have BK323 := n4_; have BK329 := n5_; have BK335 := n6_; have HB := n7_; clear n0_ n1_ n2_ n3_ n4_ n5_ n6_ n7_; (try clear hb); (try clear hb2); (try clear hk); (try clear hi); have hnb102 := NB329_335.out; have hnc102 := NB335_329.out; have hcz103_0 : w101.cell? ⟨gb329, 0, none⟩ = some (.int .i64 t324) := (blk_cell BK329.out 0).trans rfl; have hcz103_1 : w101.cell? ⟨gb329, 1, none⟩ = some (.slice Ao15 t325.length co15) := (blk_cell BK329.out 1).trans rfl; have hfz103_0 := blk_frozen BK329.out 0; have hfz103_1 := blk_frozen BK329.out 1) | ((with_reducible refine gate_callee (f := 22) rfl ?_); refine goesL_ (some 129) rfl rfl Try.func22 (by kernel_rfl) rfl #[.agg #[.int .i64 t324, .slice Ao15 t325.length co15], .slice Ao64 x12_3.length co64, .int .i64 t328] rfl lmB ?_; (with_reducible refine (impl_EdgeValue.calls kj61 t324 _ _ t325 _ _ x12_3 t328 t357 _ ?side1 ?side2 ?side3 ?side4 A81.out).mono ?_); (case side1 => exact kcR (Kd.R_reads' HO_330001.out).2.2); (case side2 => exact (Kd.R_reads' HO_330001.out).2.1); (case side3 => exact kcR (Kd.R_reads' HO_12.out).2.2); (case side4 => exact (Kd.R_reads' HO_12.out).2.1); rintro e w104 ⟨rfl, hb⟩; refine ⟨_, rfl, ?_⟩; have n0_ := Aside0.mk (Kd.R_below (rvR HO_12.out) hb); have n1_ := Aside0.mk (Kd.R_below (rvR HO_324001.out) hb); have n2_ := Aside0.mk (Kd.R_below (rvR HO_330001.out) hb); have n3_ := Aside0.mk (Kd.R_below (rvR HO_336001.out) hb); have n4_ := Aside0.mk (blk_below (g := gb323) (o := .cells #[.int .i64 t316, .slice Ao10 t317.length co10] 28 (0, 0)) (bvK BK323.out) hb); have n5_ := Aside0.mk (blk_below (g := gb329) (o := .cells #[.int .i64 t324, .slice Ao15 t325.length co15] 28 (0, 0)) (bvK BK329.out) hb); have n6_ := Aside0.mk (blk_below (g := gb335) (o := .cells #[.int .i64 t330, .slice Ao22 t331.length co22] 28 (0, 0)) (bvK BK335.out) hb); have n7_ := Aside0.mk (below_step hbC hb); clear HO_12; clear HO_324001; clear HO_330001; clear HO_336001; clear BK323; clear BK329; clear BK335; clear HB; have HO_12 := n0_; have HO_324001 := n1_; have HO_330001 := n2_; have HO_336001 := n3_; have BK323 := n4_; have BK329 := n5_; have BK335 := n6_; have HB := n7_; clear n0_ n1_ n2_ n3_ n4_ n5_ n6_ n7_; (try clear hb); (try clear hb2); (try clear hk); (try clear hi)))
                go_ret
                exact ⟨ers, hbC⟩
              ·rw [if_neg c79] at H
               have c79b0 : (t355 == 1) = false := beq_eq_false_iff_ne.mpr c79
               have c79b1 : (t355 != 1) = true := bne_iff_ne.mpr c79
               replace H := Option.bind_eq_some_iff.mp H
               obtain ⟨t358, A1050, H⟩ := H
               replace H : (if t358 = t354 then (laws_FnAddPick.l0 kj61 t320 t321 t322 t328 (wrap64 (x75_2 + 1)) t316 t317 t324 t325) else (some false)) = some r := H
               have A105 := Aside0.mk A1050
               clear A1050
               by_cases c106 : t358 = t354
               ·rw [if_pos c106] at H
                have c106b0 : (t358 == t354) = true := beq_iff_eq.mpr c106
                have c106b1 : (t358 != t354) = false := bne_eq_false_iff_eq.mpr c106
                clear c106
                have H' := Aside0.mk H
                clear H
                have hnb107 := NB323_329.out
                have hnc107 := NB329_323.out
                have hnb108 := NB323_335.out
                have hnc108 := NB335_323.out
                have hcz109_0 : wc.cell? ⟨gb323, 0, none⟩ = some (.int .i64 t316) := (blk_cell BK323.out 0).trans rfl
                have hcz109_1 : wc.cell? ⟨gb323, 1, none⟩ = some (.slice Ao10 t317.length co10) := (blk_cell BK323.out 1).trans rfl
                have hfz109_0 := blk_frozen BK323.out 0
                have hfz109_1 := blk_frozen BK323.out 1
                go_wp2_with (first | ((with_reducible refine gate_callee (f := 22) rfl ?_); refine goesL_ (some 116) rfl rfl Try.func22 (by kernel_rfl) rfl #[.agg #[.int .i64 t316, .slice Ao10 t317.length co10], .slice Ao64 x12_3.length co64, .int .i64 t322] rfl lmB ?_; (with_reducible refine (impl_EdgeValue.calls kj61 t316 _ _ t317 _ _ x12_3 t322 t354 _ ?side1 ?side2 ?side3 ?side4 A77.out).mono ?_); (case side1 => exact kcR (Kd.R_reads' HO_324001.out).2.2); (case side2 => exact (Kd.R_reads' HO_324001.out).2.1); (case side3 => exact kcR (Kd.R_reads' HO_12.out).2.2); (case side4 => exact (Kd.R_reads' HO_12.out).2.1); rintro e w110 ⟨rfl, hb⟩; refine ⟨_, rfl, ?_⟩; have n0_ := Aside0.mk (Kd.R_below (rvR HO_12.out) hb); have n1_ := Aside0.mk (Kd.R_below (rvR HO_324001.out) hb); have n2_ := Aside0.mk (Kd.R_below (rvR HO_330001.out) hb); have n3_ := Aside0.mk (Kd.R_below (rvR HO_336001.out) hb); have n4_ := Aside0.mk (blk_below (g := gb323) (o := .cells #[.int .i64 t316, .slice Ao10 t317.length co10] 28 (0, 0)) (bvK BK323.out) hb); have n5_ := Aside0.mk (blk_below (g := gb329) (o := .cells #[.int .i64 t324, .slice Ao15 t325.length co15] 28 (0, 0)) (bvK BK329.out) hb); have n6_ := Aside0.mk (blk_below (g := gb335) (o := .cells #[.int .i64 t330, .slice Ao22 t331.length co22] 28 (0, 0)) (bvK BK335.out) hb); have n7_ := Aside0.mk (below_step hbC hb); clear HO_12; clear HO_324001; clear HO_330001; clear HO_336001; clear BK323; clear BK329; clear BK335; clear HB; have HO_12 := n0_; have HO_324001 := n1_; have HO_330001 := n2_; have HO_336001 := n3_; have BK323 := n4_; have BK329 := n5_; have BK335 := n6_; have HB := n7_; clear n0_ n1_ n2_ n3_ n4_ n5_ n6_ n7_; (try clear hb); (try clear hb2); (try clear hk); (try clear hi); have hcz111_0 : w110.cell? ⟨gb323, 0, none⟩ = some (.int .i64 t316) := (blk_cell BK323.out 0).trans rfl; have hcz111_1 : w110.cell? ⟨gb323, 1, none⟩ = some (.slice Ao10 t317.length co10) := (blk_cell BK323.out 1).trans rfl; have hfz111_0 := blk_frozen BK323.out 0; have hfz111_1 := blk_frozen BK323.out 1) | ((with_reducible refine gate_callee (f := 22) rfl ?_); refine goesL_ (some 120) rfl rfl Try.func22 (by kernel_rfl) rfl #[.agg #[.int .i64 t316, .slice Ao10 t317.length co10], .slice Ao64 x12_3.length co64, .int .i64 t320] rfl lmB ?_; (with_reducible refine (impl_EdgeValue.calls kj61 t316 _ _ t317 _ _ x12_3 t320 t355 _ ?side1 ?side2 ?side3 ?side4 A78.out).mono ?_); (case side1 => exact kcR (Kd.R_reads' HO_324001.out).2.2); (case side2 => exact (Kd.R_reads' HO_324001.out).2.1); (case side3 => exact kcR (Kd.R_reads' HO_12.out).2.2); (case side4 => exact (Kd.R_reads' HO_12.out).2.1); rintro e w112 ⟨rfl, hb⟩; refine ⟨_, rfl, ?_⟩; have n0_ := Aside0.mk (Kd.R_below (rvR HO_12.out) hb); have n1_ := Aside0.mk (Kd.R_below (rvR HO_324001.out) hb); have n2_ := Aside0.mk (Kd.R_below (rvR HO_330001.out) hb); have n3_ := Aside0.mk (Kd.R_below (rvR HO_336001.out) hb); have n4_ := Aside0.mk (blk_below (g := gb323) (o := .cells #[.int .i64 t316, .slice Ao10 t317.length co10] 28 (0, 0)) (bvK BK323.out) hb); have n5_ := Aside0.mk (blk_below (g := gb329) (o := .cells #[.int .i64 t324, .slice Ao15 t325.length co15] 28 (0, 0)) (bvK BK329.out) hb); have n6_ := Aside0.mk (blk_below (g := gb335) (o := .cells #[.int .i64 t330, .slice Ao22 t331.length co22] 28 (0, 0)) (bvK BK335.out) hb); have n7_ := Aside0.mk (below_step hbC hb); clear HO_12; clear HO_324001; clear HO_330001; clear HO_336001; clear BK323; clear BK329; clear BK335; clear HB; have HO_12 := n0_; have HO_324001 := n1_; have HO_330001 := n2_; have HO_336001 := n3_; have BK323 := n4_; have BK329 := n5_; have BK335 := n6_; have HB := n7_; clear n0_ n1_ n2_ n3_ n4_ n5_ n6_ n7_; (try clear hb); (try clear hb2); (try clear hk); (try clear hi); have hnb113 := NB329_335.out; have hnc113 := NB335_329.out; have hcz114_0 : w112.cell? ⟨gb329, 0, none⟩ = some (.int .i64 t324) := (blk_cell BK329.out 0).trans rfl; have hcz114_1 : w112.cell? ⟨gb329, 1, none⟩ = some (.slice Ao15 t325.length co15) := (blk_cell BK329.out 1).trans rfl; have hfz114_0 := blk_frozen BK329.out 0; have hfz114_1 := blk_frozen BK329.out 1) | ((with_reducible refine gate_callee (f := 22) rfl ?_); refine goesL_ (some 129) rfl rfl Try.func22 (by kernel_rfl) rfl #[.agg #[.int .i64 t324, .slice Ao15 t325.length co15], .slice Ao64 x12_3.length co64, .int .i64 t328] rfl lmB ?_; (with_reducible refine (impl_EdgeValue.calls kj61 t324 _ _ t325 _ _ x12_3 t328 t358 _ ?side1 ?side2 ?side3 ?side4 A105.out).mono ?_); (case side1 => exact kcR (Kd.R_reads' HO_330001.out).2.2); (case side2 => exact (Kd.R_reads' HO_330001.out).2.1); (case side3 => exact kcR (Kd.R_reads' HO_12.out).2.2); (case side4 => exact (Kd.R_reads' HO_12.out).2.1); rintro e w115 ⟨rfl, hb⟩; refine ⟨_, rfl, ?_⟩; have n0_ := Aside0.mk (Kd.R_below (rvR HO_12.out) hb); have n1_ := Aside0.mk (Kd.R_below (rvR HO_324001.out) hb); have n2_ := Aside0.mk (Kd.R_below (rvR HO_330001.out) hb); have n3_ := Aside0.mk (Kd.R_below (rvR HO_336001.out) hb); have n4_ := Aside0.mk (blk_below (g := gb323) (o := .cells #[.int .i64 t316, .slice Ao10 t317.length co10] 28 (0, 0)) (bvK BK323.out) hb); have n5_ := Aside0.mk (blk_below (g := gb329) (o := .cells #[.int .i64 t324, .slice Ao15 t325.length co15] 28 (0, 0)) (bvK BK329.out) hb); have n6_ := Aside0.mk (blk_below (g := gb335) (o := .cells #[.int .i64 t330, .slice Ao22 t331.length co22] 28 (0, 0)) (bvK BK335.out) hb); have n7_ := Aside0.mk (below_step hbC hb); clear HO_12; clear HO_324001; clear HO_330001; clear HO_336001; clear BK323; clear BK329; clear BK335; clear HB; have HO_12 := n0_; have HO_324001 := n1_; have HO_330001 := n2_; have HO_336001 := n3_; have BK323 := n4_; have BK329 := n5_; have BK335 := n6_; have HB := n7_; clear n0_ n1_ n2_ n3_ n4_ n5_ n6_ n7_; (try clear hb); (try clear hb2); (try clear hk); (try clear hi)))
                go_roundg kj61
                case measure => have := HJ5.out; have := HK2.out; have := HK3.out; have := HJ61.out; omega
                case rel => exact ⟨(wrap64 (x75_2 + 1)), rsd, H', ⟨by have := HJ5.out; have := HK2.out; have := HK3.out; have := HJ61.out; omega⟩, ⟨rvR HO_324001.out⟩, ⟨rvR HO_330001.out⟩, ⟨rvR HO_336001.out⟩, ⟨bvK BK323.out⟩, ⟨bvK BK329.out⟩, ⟨bvK BK335.out⟩, ⟨hbC⟩⟩
               ·rw [if_neg c106] at H
                have c106b0 : (t358 == t354) = false := beq_eq_false_iff_ne.mpr c106
                have c106b1 : (t358 != t354) = true := bne_iff_ne.mpr c106
                obtain rfl := Option.some.inj H
                have hnb116 := NB323_329.out
                have hnc116 := NB329_323.out
                have hnb117 := NB323_335.out
                have hnc117 := NB335_323.out
                have hcz118_0 : wc.cell? ⟨gb323, 0, none⟩ = some (.int .i64 t316) := (blk_cell BK323.out 0).trans rfl
                have hcz118_1 : wc.cell? ⟨gb323, 1, none⟩ = some (.slice Ao10 t317.length co10) := (blk_cell BK323.out 1).trans rfl
                have hfz118_0 := blk_frozen BK323.out 0
                have hfz118_1 := blk_frozen BK323.out 1
                go_wp2_with (first | ((with_reducible refine gate_callee (f := 22) rfl ?_); refine goesL_ (some 116) rfl rfl Try.func22 (by kernel_rfl) rfl #[.agg #[.int .i64 t316, .slice Ao10 t317.length co10], .slice Ao64 x12_3.length co64, .int .i64 t322] rfl lmB ?_; (with_reducible refine (impl_EdgeValue.calls kj61 t316 _ _ t317 _ _ x12_3 t322 t354 _ ?side1 ?side2 ?side3 ?side4 A77.out).mono ?_); (case side1 => exact kcR (Kd.R_reads' HO_324001.out).2.2); (case side2 => exact (Kd.R_reads' HO_324001.out).2.1); (case side3 => exact kcR (Kd.R_reads' HO_12.out).2.2); (case side4 => exact (Kd.R_reads' HO_12.out).2.1); rintro e w119 ⟨rfl, hb⟩; refine ⟨_, rfl, ?_⟩; have n0_ := Aside0.mk (Kd.R_below (rvR HO_12.out) hb); have n1_ := Aside0.mk (Kd.R_below (rvR HO_324001.out) hb); have n2_ := Aside0.mk (Kd.R_below (rvR HO_330001.out) hb); have n3_ := Aside0.mk (Kd.R_below (rvR HO_336001.out) hb); have n4_ := Aside0.mk (blk_below (g := gb323) (o := .cells #[.int .i64 t316, .slice Ao10 t317.length co10] 28 (0, 0)) (bvK BK323.out) hb); have n5_ := Aside0.mk (blk_below (g := gb329) (o := .cells #[.int .i64 t324, .slice Ao15 t325.length co15] 28 (0, 0)) (bvK BK329.out) hb); have n6_ := Aside0.mk (blk_below (g := gb335) (o := .cells #[.int .i64 t330, .slice Ao22 t331.length co22] 28 (0, 0)) (bvK BK335.out) hb); have n7_ := Aside0.mk (below_step hbC hb); clear HO_12; clear HO_324001; clear HO_330001; clear HO_336001; clear BK323; clear BK329; clear BK335; clear HB; have HO_12 := n0_; have HO_324001 := n1_; have HO_330001 := n2_; have HO_336001 := n3_; have BK323 := n4_; have BK329 := n5_; have BK335 := n6_; have HB := n7_; clear n0_ n1_ n2_ n3_ n4_ n5_ n6_ n7_; (try clear hb); (try clear hb2); (try clear hk); (try clear hi); have hcz120_0 : w119.cell? ⟨gb323, 0, none⟩ = some (.int .i64 t316) := (blk_cell BK323.out 0).trans rfl; have hcz120_1 : w119.cell? ⟨gb323, 1, none⟩ = some (.slice Ao10 t317.length co10) := (blk_cell BK323.out 1).trans rfl; have hfz120_0 := blk_frozen BK323.out 0; have hfz120_1 := blk_frozen BK323.out 1) | ((with_reducible refine gate_callee (f := 22) rfl ?_); refine goesL_ (some 120) rfl rfl Try.func22 (by kernel_rfl) rfl #[.agg #[.int .i64 t316, .slice Ao10 t317.length co10], .slice Ao64 x12_3.length co64, .int .i64 t320] rfl lmB ?_; (with_reducible refine (impl_EdgeValue.calls kj61 t316 _ _ t317 _ _ x12_3 t320 t355 _ ?side1 ?side2 ?side3 ?side4 A78.out).mono ?_); (case side1 => exact kcR (Kd.R_reads' HO_324001.out).2.2); (case side2 => exact (Kd.R_reads' HO_324001.out).2.1); (case side3 => exact kcR (Kd.R_reads' HO_12.out).2.2); (case side4 => exact (Kd.R_reads' HO_12.out).2.1); rintro e w121 ⟨rfl, hb⟩; refine ⟨_, rfl, ?_⟩; have n0_ := Aside0.mk (Kd.R_below (rvR HO_12.out) hb); have n1_ := Aside0.mk (Kd.R_below (rvR HO_324001.out) hb); have n2_ := Aside0.mk (Kd.R_below (rvR HO_330001.out) hb); have n3_ := Aside0.mk (Kd.R_below (rvR HO_336001.out) hb); have n4_ := Aside0.mk (blk_below (g := gb323) (o := .cells #[.int .i64 t316, .slice Ao10 t317.length co10] 28 (0, 0)) (bvK BK323.out) hb); have n5_ := Aside0.mk (blk_below (g := gb329) (o := .cells #[.int .i64 t324, .slice Ao15 t325.length co15] 28 (0, 0)) (bvK BK329.out) hb); have n6_ := Aside0.mk (blk_below (g := gb335) (o := .cells #[.int .i64 t330, .slice Ao22 t331.length co22] 28 (0, 0)) (bvK BK335.out) hb); have n7_ := Aside0.mk (below_step hbC hb); clear HO_12; clear HO_324001; clear HO_330001; clear HO_336001; clear BK323; clear BK329; clear BK335; clear HB; have HO_12 := n0_; have HO_324001 := n1_; have HO_330001 := n2_; have HO_336001 := n3_; have BK323 := n4_; have BK329 := n5_; have BK335 := n6_; have HB := n7_; clear n0_ n1_ n2_ n3_ n4_ n5_ n6_ n7_; (try clear hb); (try clear hb2); (try clear hk); (try clear hi); have hnb122 := NB329_335.out; have hnc122 := NB335_329.out; have hcz123_0 : w121.cell? ⟨gb329, 0, none⟩ = some (.int .i64 t324) := (blk_cell BK329.out 0).trans rfl; have hcz123_1 : w121.cell? ⟨gb329, 1, none⟩ = some (.slice Ao15 t325.length co15) := (blk_cell BK329.out 1).trans rfl; have hfz123_0 := blk_frozen BK329.out 0; have hfz123_1 := blk_frozen BK329.out 1) | ((with_reducible refine gate_callee (f := 22) rfl ?_); refine goesL_ (some 129) rfl rfl Try.func22 (by kernel_rfl) rfl #[.agg #[.int .i64 t324, .slice Ao15 t325.length co15], .slice Ao64 x12_3.length co64, .int .i64 t328] rfl lmB ?_; (with_reducible refine (impl_EdgeValue.calls kj61 t324 _ _ t325 _ _ x12_3 t328 t358 _ ?side1 ?side2 ?side3 ?side4 A105.out).mono ?_); (case side1 => exact kcR (Kd.R_reads' HO_330001.out).2.2); (case side2 => exact (Kd.R_reads' HO_330001.out).2.1); (case side3 => exact kcR (Kd.R_reads' HO_12.out).2.2); (case side4 => exact (Kd.R_reads' HO_12.out).2.1); rintro e w124 ⟨rfl, hb⟩; refine ⟨_, rfl, ?_⟩; have n0_ := Aside0.mk (Kd.R_below (rvR HO_12.out) hb); have n1_ := Aside0.mk (Kd.R_below (rvR HO_324001.out) hb); have n2_ := Aside0.mk (Kd.R_below (rvR HO_330001.out) hb); have n3_ := Aside0.mk (Kd.R_below (rvR HO_336001.out) hb); have n4_ := Aside0.mk (blk_below (g := gb323) (o := .cells #[.int .i64 t316, .slice Ao10 t317.length co10] 28 (0, 0)) (bvK BK323.out) hb); have n5_ := Aside0.mk (blk_below (g := gb329) (o := .cells #[.int .i64 t324, .slice Ao15 t325.length co15] 28 (0, 0)) (bvK BK329.out) hb); have n6_ := Aside0.mk (blk_below (g := gb335) (o := .cells #[.int .i64 t330, .slice Ao22 t331.length co22] 28 (0, 0)) (bvK BK335.out) hb); have n7_ := Aside0.mk (below_step hbC hb); clear HO_12; clear HO_324001; clear HO_330001; clear HO_336001; clear BK323; clear BK329; clear BK335; clear HB; have HO_12 := n0_; have HO_324001 := n1_; have HO_330001 := n2_; have HO_336001 := n3_; have BK323 := n4_; have BK329 := n5_; have BK335 := n6_; have HB := n7_; clear n0_ n1_ n2_ n3_ n4_ n5_ n6_ n7_; (try clear hb); (try clear hb2); (try clear hk); (try clear hi)))
                go_ret
                exact ⟨ers, hbC⟩
       ·rw [if_neg c48] at H
        have c48b0 : decide (x75_2 < 8) = false := decide_eq_false c48
        clear c48
        replace H := Option.bind_eq_some_iff.mp H
        obtain ⟨t336, A1250, H⟩ := H
        replace H : (some t336) = some r := H
        have A125 := Aside0.mk A1250
        clear A1250
        obtain rfl := Option.some.inj H
        have hnb126 := NB329_323.out
        have hnc126 := NB323_329.out
        have hnb127 := NB329_335.out
        have hnc127 := NB335_329.out
        have hcz128_0 : wr.cell? ⟨gb329, 0, none⟩ = some (.int .i64 t324) := (blk_cell BK329.out 0).trans rfl
        have hcz128_1 : wr.cell? ⟨gb329, 1, none⟩ = some (.slice Ao15 t325.length co15) := (blk_cell BK329.out 1).trans rfl
        have hfz128_0 := blk_frozen BK329.out 0
        have hfz128_1 := blk_frozen BK329.out 1
        go_wp2_with (first | ((with_reducible refine gate_callee (f := 23) rfl ?_); refine goesL_ (some 134) rfl rfl Try.func23 (by kernel_rfl) rfl #[.agg #[.int .i64 t324, .slice Ao15 t325.length co15]] rfl lmB ?_; (with_reducible refine (impl_CircuitValid.calls k2 t324 _ _ t325 t336 _ ?side1 ?side2 A125.out).mono ?_); (case side1 => exact kcR (Kd.R_reads' HO_330001.out).2.2); (case side2 => exact (Kd.R_reads' HO_330001.out).2.1); rintro e w129 ⟨rfl, hb⟩; refine ⟨_, rfl, ?_⟩; have n0_ := Aside0.mk (Kd.R_below (rvR HO_324001.out) hb); have n1_ := Aside0.mk (Kd.R_below (rvR HO_330001.out) hb); have n2_ := Aside0.mk (Kd.R_below (rvR HO_336001.out) hb); have n3_ := Aside0.mk (blk_below (g := gb323) (o := .cells #[.int .i64 t316, .slice Ao10 t317.length co10] 28 (0, 0)) (bvK BK323.out) hb); have n4_ := Aside0.mk (blk_below (g := gb329) (o := .cells #[.int .i64 t324, .slice Ao15 t325.length co15] 28 (0, 0)) (bvK BK329.out) hb); have n5_ := Aside0.mk (blk_below (g := gb335) (o := .cells #[.int .i64 t330, .slice Ao22 t331.length co22] 28 (0, 0)) (bvK BK335.out) hb); have n6_ := Aside0.mk (below_step hbC hb); clear HO_324001; clear HO_330001; clear HO_336001; clear BK323; clear BK329; clear BK335; clear HB; have HO_324001 := n0_; have HO_330001 := n1_; have HO_336001 := n2_; have BK323 := n3_; have BK329 := n4_; have BK335 := n5_; have HB := n6_; clear n0_ n1_ n2_ n3_ n4_ n5_ n6_; (try clear hb); (try clear hb2); (try clear hk); (try clear hi)))
        go_ret
        exact ⟨ers, hbC⟩

/-- THE ONE PURE STATEMENT of laws_FnAddPick: yours. -/
def laws_FnAddPick.Pure : Prop := ∀ (l0 : List Int), l0.length ≤ maxLen → l0.length * 1 ≤ 140737488351232 → (∀ x ∈ l0, (Lit.int .u8 x).wf = true) → ∃ k, laws_FnAddPick.f k l0 = some true
theorem laws_FnAddPick.walk (P : laws_FnAddPick.Pure) (a0 : Option Addr) (len0 cap0 : Nat) (z0 : List Int) (w : World) (w0 : (a0 = none ∧ len0 = 0 ∧ cap0 = 0 ∧ z0 = []) ∨ ∃ x, a0 = some x ∧ len0 ≤ cap0 ∧ cap0 ≤ maxLen ∧ z0.length = cap0 ∧ (∀ i, i < z0.length → w.cell? (x.add i) = some (.int .u8 (z0.getD i 0))) ∧ ∀ n ∈ z0, (Lit.int .u8 n).wf = true) (y0 : len0 * 1 ≤ 140737488351232) :
  Calls Try.prog 4 #[.slice a0 len0 cap0] w fun e w' => e = .returned (.bool true) ∧ Below w.heap.size w w' := by
 obtain ⟨l0, rfl, hr0, hm0, hw0, hc0⟩ := ReadsInt.ofRowC w0
 obtain ⟨k, h⟩ := P l0 hm0 y0 hw0
 refine (laws_FnAddPick.calls k _ _ l0 true w (Kd.C_of_reads (d := (0 : Int)) (h1 := fun _ => rfl) hr0) hc0 h).mono ?_
 rintro e w' ⟨rfl, hd⟩
 exact ⟨rfl, hd⟩

end Go.Proofs.Ytpcckoljocpchaa.QFnAddPick
