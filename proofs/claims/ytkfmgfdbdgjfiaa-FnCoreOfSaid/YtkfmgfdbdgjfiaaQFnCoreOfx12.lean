-- Written by a program of this session (mk.py). Lean checks it.
import Derived.Test.YtkfmgfdbdgjfiaaQFnCoreOfx0
import Derived.Test.YtkfmgfdbdgjfiaaQFnCoreOfx1
import Derived.Test.YtkfmgfdbdgjfiaaQFnCoreOfx3
import Derived.Test.YtkfmgfdbdgjfiaaQFnCoreOfx5
import Derived.Test.YtkfmgfdbdgjfiaaQFnCoreOfx6
import Derived.Test.YtkfmgfdbdgjfiaaQFnCoreOfx7
import Derived.Test.YtkfmgfdbdgjfiaaQFnCoreOfx11
namespace Go.Proofs.Ytkfmgfdbdgjfiaa.QFnCoreOf
open Go.RowKit Go.Proofs.YtkfmgfdbdgjfiaaW.PrintWords Go.Proofs.YtkfmgfdbdgjfiaaW.PrintLast Go.Proofs.YtkfmgfdbdgjfiaaW.PrintMore
attribute [local go_sem] max2_int min2_int max_two min_two max_three min_three max_four min_four   -- for this text's walks alone
set_option linter.unusedVariables false
set_option linter.unusedSimpArgs false

/-! ### laws_FnCoreOf: function 10 -/
mutual
def laws_FnCoreOf.j0 : Nat → List Int → Bool → Int → List (List Int) → Option (Bool)
 | 0, _, _, _, _ => none
 | k + 1, x4, x27, x379000, x379001 => if x27 = true then (some false) else ((impl_CountModels.f k x379000 x379001).bind fun t388 => (if t388 = 0 then (laws_FnCoreOf.l0 k x4 (-1) x379000 x379001) else (some ((x4.length : Int) == 0))))
def laws_FnCoreOf.l0 : Nat → List Int → Int → Int → List (List Int) → Option (Bool)
 | 0, _, _, _, _ => none
 | k + 1, x4, x5, x379000, x379001 => if x5 < (x4.length : Int) then (laws_FnCoreOf.l1 k x4 x5 x4 (x4.length : Int) 0 x379000 x379001 x379000 ([] : List (List Int))) else (some (decide ((x4.length : Int) > 0)))
def laws_FnCoreOf.l1 : Nat → List Int → Int → List Int → Int → Int → Int → List (List Int) → Int → List (List Int) → Option (Bool)
 | 0, _, _, _, _, _, _, _, _, _ => none
 | k + 1, x4, x5, x43, x44, x45, x379000, x379001, x390000, x390001 => if x45 < x44 then (if 0 ≤ x45 then (if x45 < (x43.length : Int) then (if x45 = x5 then (laws_FnCoreOf.l1 k x4 x5 x43 x44 (wrap64 (x45 + 1)) x379000 x379001 x390000 x390001) else (if 0 ≤ (rd x43 x45) then (if (rd x43 x45) < (x379001.length : Int) then (if x390001.length < 5864062014805 then (laws_FnCoreOf.l1 k x4 x5 x43 x44 (wrap64 (x45 + 1)) x379000 x379001 x390000 (x390001 ++ [rd_L1 x379001 (rd x43 x45)])) else (none)) else (none)) else (none))) else (none)) else (none)) else ((impl_CountModels.f k x390000 x390001).bind fun t395 => (if ((t395 == 0) != (x5 == (-1))) = true then (some false) else (laws_FnCoreOf.l0 k x4 (wrap64 (x5 + 1)) x379000 x379001)))
end
def laws_FnCoreOf.f (k : Nat) (l0 : List Int) : Option (Bool) := if (l0.length : Int) > 1048576 then (some true) else ((spec_DrawCoreOf.f k l0).bind fun bt374 => ((impl_CoreOf.f k bt374.1 bt374.2).bind fun t379 => ((spec_CoreOf.f k bt374.1 bt374.2).bind fun t382 => ((laws_wcInts.f k t379 t382).bind fun t385 => (if t385 = true then ((impl_CountModels.f k bt374.1 bt374.2).bind fun t386 => ((spec_CountModels.f k bt374.1 bt374.2).bind fun t387 => (laws_FnCoreOf.j0 k t379 (t386 != t387) bt374.1 bt374.2))) else (laws_FnCoreOf.j0 k t379 true bt374.1 bt374.2))))))
theorem laws_FnCoreOf.mono_l : ∀ k, (∀ y0 y1 y2 y3, LeO (laws_FnCoreOf.j0 k y0 y1 y2 y3) (laws_FnCoreOf.j0 (k + 1) y0 y1 y2 y3)) ∧ (∀ y0 y1 y2 y3, LeO (laws_FnCoreOf.l0 k y0 y1 y2 y3) (laws_FnCoreOf.l0 (k + 1) y0 y1 y2 y3)) ∧ (∀ y0 y1 y2 y3 y4 y5 y6 y7 y8, LeO (laws_FnCoreOf.l1 k y0 y1 y2 y3 y4 y5 y6 y7 y8) (laws_FnCoreOf.l1 (k + 1) y0 y1 y2 y3 y4 y5 y6 y7 y8))
 | 0 => ⟨fun _ _ _ _ r h => by simp [laws_FnCoreOf.j0] at h, fun _ _ _ _ r h => by simp [laws_FnCoreOf.l0] at h, fun _ _ _ _ _ _ _ _ _ r h => by simp [laws_FnCoreOf.l1] at h⟩
 | k + 1 => by
  obtain ⟨ih0, ih1, ih2⟩ := laws_FnCoreOf.mono_l k
  refine ⟨?_, ?_, ?_⟩
  ·intro y0 y1 y2 y3
   unfold laws_FnCoreOf.j0
   repeat' first
   | (with_reducible exact ih0 _ _ _ _)
   | (with_reducible exact ih1 _ _ _ _)
   | (with_reducible exact ih2 _ _ _ _ _ _ _ _ _)
   | (with_reducible exact impl_CoreOf.mono _ _ _)
   | (with_reducible exact impl_CountModels.mono _ _ _)
   | (with_reducible exact laws_wcInts.mono _ _ _)
   | (with_reducible exact spec_CoreOf.mono _ _ _)
   | (with_reducible exact spec_CountModels.mono _ _ _)
   | (with_reducible exact spec_DrawCoreOf.mono _ _)
   | (with_reducible exact LeO.refl _)
   | (with_reducible exact LeO.none _)
   | (with_reducible refine LeO.ite ?_ ?_)
   | (with_reducible refine LeO.bind ?_ (fun _ => ?_))
   | exact ih0 _ _ _ _
   | exact ih1 _ _ _ _
   | exact ih2 _ _ _ _ _ _ _ _ _
   | exact impl_CoreOf.mono _ _ _
   | exact impl_CountModels.mono _ _ _
   | exact laws_wcInts.mono _ _ _
   | exact spec_CoreOf.mono _ _ _
   | exact spec_CountModels.mono _ _ _
   | exact spec_DrawCoreOf.mono _ _
   | exact LeO.none _
   | refine LeO.ite ?_ ?_
   | refine LeO.bind ?_ (fun _ => ?_)
  ·intro y0 y1 y2 y3
   unfold laws_FnCoreOf.l0
   repeat' first
   | (with_reducible exact ih0 _ _ _ _)
   | (with_reducible exact ih1 _ _ _ _)
   | (with_reducible exact ih2 _ _ _ _ _ _ _ _ _)
   | (with_reducible exact impl_CoreOf.mono _ _ _)
   | (with_reducible exact impl_CountModels.mono _ _ _)
   | (with_reducible exact laws_wcInts.mono _ _ _)
   | (with_reducible exact spec_CoreOf.mono _ _ _)
   | (with_reducible exact spec_CountModels.mono _ _ _)
   | (with_reducible exact spec_DrawCoreOf.mono _ _)
   | (with_reducible exact LeO.refl _)
   | (with_reducible exact LeO.none _)
   | (with_reducible refine LeO.ite ?_ ?_)
   | (with_reducible refine LeO.bind ?_ (fun _ => ?_))
   | exact ih0 _ _ _ _
   | exact ih1 _ _ _ _
   | exact ih2 _ _ _ _ _ _ _ _ _
   | exact impl_CoreOf.mono _ _ _
   | exact impl_CountModels.mono _ _ _
   | exact laws_wcInts.mono _ _ _
   | exact spec_CoreOf.mono _ _ _
   | exact spec_CountModels.mono _ _ _
   | exact spec_DrawCoreOf.mono _ _
   | exact LeO.none _
   | refine LeO.ite ?_ ?_
   | refine LeO.bind ?_ (fun _ => ?_)
  ·intro y0 y1 y2 y3 y4 y5 y6 y7 y8
   unfold laws_FnCoreOf.l1
   repeat' first
   | (with_reducible exact ih0 _ _ _ _)
   | (with_reducible exact ih1 _ _ _ _)
   | (with_reducible exact ih2 _ _ _ _ _ _ _ _ _)
   | (with_reducible exact impl_CoreOf.mono _ _ _)
   | (with_reducible exact impl_CountModels.mono _ _ _)
   | (with_reducible exact laws_wcInts.mono _ _ _)
   | (with_reducible exact spec_CoreOf.mono _ _ _)
   | (with_reducible exact spec_CountModels.mono _ _ _)
   | (with_reducible exact spec_DrawCoreOf.mono _ _)
   | (with_reducible exact LeO.refl _)
   | (with_reducible exact LeO.none _)
   | (with_reducible refine LeO.ite ?_ ?_)
   | (with_reducible refine LeO.bind ?_ (fun _ => ?_))
   | exact ih0 _ _ _ _
   | exact ih1 _ _ _ _
   | exact ih2 _ _ _ _ _ _ _ _ _
   | exact impl_CoreOf.mono _ _ _
   | exact impl_CountModels.mono _ _ _
   | exact laws_wcInts.mono _ _ _
   | exact spec_CoreOf.mono _ _ _
   | exact spec_CountModels.mono _ _ _
   | exact spec_DrawCoreOf.mono _ _
   | exact LeO.none _
   | refine LeO.ite ?_ ?_
   | refine LeO.bind ?_ (fun _ => ?_)
theorem laws_FnCoreOf.mono : ∀ a0 k, LeO (laws_FnCoreOf.f k a0) (laws_FnCoreOf.f (k + 1) a0) := by
 intro a0 k
 obtain ⟨ih0, ih1, ih2⟩ := laws_FnCoreOf.mono_l k
 unfold laws_FnCoreOf.f
 repeat' first
   | (with_reducible exact ih0 _ _ _ _)
   | (with_reducible exact ih1 _ _ _ _)
   | (with_reducible exact ih2 _ _ _ _ _ _ _ _ _)
   | (with_reducible exact impl_CoreOf.mono _ _ _)
   | (with_reducible exact impl_CountModels.mono _ _ _)
   | (with_reducible exact laws_wcInts.mono _ _ _)
   | (with_reducible exact spec_CoreOf.mono _ _ _)
   | (with_reducible exact spec_CountModels.mono _ _ _)
   | (with_reducible exact spec_DrawCoreOf.mono _ _)
   | (with_reducible exact LeO.refl _)
   | (with_reducible exact LeO.none _)
   | (with_reducible refine LeO.ite ?_ ?_)
   | (with_reducible refine LeO.bind ?_ (fun _ => ?_))
   | exact ih0 _ _ _ _
   | exact ih1 _ _ _ _
   | exact ih2 _ _ _ _ _ _ _ _ _
   | exact impl_CoreOf.mono _ _ _
   | exact impl_CountModels.mono _ _ _
   | exact laws_wcInts.mono _ _ _
   | exact spec_CoreOf.mono _ _ _
   | exact spec_CountModels.mono _ _ _
   | exact spec_DrawCoreOf.mono _ _
   | exact LeO.none _
   | refine LeO.ite ?_ ?_
   | refine LeO.bind ?_ (fun _ => ?_)
def laws_FnCoreOf.T5 : Bool × List (List Nat × List Nat) := (true, [([], []), ([], []), ([1], [1]), ([0, 2, 2], [0, 2]), ([3], [3]), ([4, 3], [4]), ([5], [5]), ([6, 5, 5], [5, 6]), ([5], [5]), ([8, 7, 5], [5, 8]), ([7, 9, 5], [5, 7, 9]), ([5, 10], [5, 10])])
def laws_FnCoreOf.B5 : List Nat := [0, 0, 2, 7, 15, 31, 63, 127, 63, 511, 1023, 2047]
theorem laws_FnCoreOf.tab5 : rtab .any (opsOf Try.f10 5) = laws_FnCoreOf.T5 := by kernel_rfl
theorem laws_FnCoreOf.bits5 : waitsOk laws_FnCoreOf.T5.2 laws_FnCoreOf.B5 = true := by kernel_rfl
def laws_FnCoreOf.T17 : Bool × List (List Nat × List Nat) := (true, [([], []), ([0], [0]), ([], []), ([2], [2]), ([], []), ([3, 4], [3, 4]), ([5], [5]), ([6], [6]), ([1, 7], [1, 7]), ([0, 1, 2, 3, 4, 5, 6, 7, 8], []), ([9, 8, 8, 0, 1, 2, 3, 4, 5, 6, 7, 8], [8, 9])])
def laws_FnCoreOf.B17 : List Nat := [0, 1, 0, 4, 0, 28, 60, 124, 255, 511, 1023]
theorem laws_FnCoreOf.tab17 : rtab .any (opsOf Try.f10 17) = laws_FnCoreOf.T17 := by kernel_rfl
theorem laws_FnCoreOf.bits17 : waitsOk laws_FnCoreOf.T17.2 laws_FnCoreOf.B17 = true := by kernel_rfl
set_option maxHeartbeats 8000000 in
set_option maxRecDepth 100000 in
theorem laws_FnCoreOf.calls (k : Nat) (A0 : Option Addr) (c0 : Nat) (l0 : List Int) (r : Bool) (w : World) (hr0 : Kd.C (Kd.int .u8) w A0 l0.length l0) (hc0 : l0.length ≤ c0) (h : laws_FnCoreOf.f k l0 = some r) :
  Calls Try.prog 10 #[.slice A0 l0.length c0] w fun e w' => e = .returned (.bool r) ∧ Below w.heap.size w w' := by
 have hu29 := Try.underlying29
 have HR0 := Aside0.mk hr0
 have HC0 := Aside0.mk hc0
 clear hr0 hc0
 have HB := Aside0.mk (Below.refl w.heap.size w)
 have H : (if (l0.length : Int) > 1048576 then (some true) else ((spec_DrawCoreOf.f k l0).bind fun bt374 => ((impl_CoreOf.f k bt374.1 bt374.2).bind fun t379 => ((spec_CoreOf.f k bt374.1 bt374.2).bind fun t382 => ((laws_wcInts.f k t379 t382).bind fun t385 => (if t385 = true then ((impl_CountModels.f k bt374.1 bt374.2).bind fun t386 => ((spec_CountModels.f k bt374.1 bt374.2).bind fun t387 => (laws_FnCoreOf.j0 k t379 (t386 != t387) bt374.1 bt374.2))) else (laws_FnCoreOf.j0 k t379 true bt374.1 bt374.2))))))) = some r := h
 clear h
 by_cases c2 : (l0.length : Int) > 1048576
 ·rw [if_pos c2] at H
  have c2b0 : decide (1048576 < (l0.length : Int)) = true := decide_eq_true c2
  have c2b1 : decide (1048576 < l0.length) = true := decide_eq_true (by omega)
  clear c2
  obtain rfl := Option.some.inj H
  go_enter Try.func10, Try.ntmps10
  (try rw [hl391_0] at c2b0)
  (try rw [hl391_0] at c2b1)
  go_wp2
  go_ret
  exact ⟨ers, by repeat (first | (with_reducible first | exact HB.out | apply bwA | apply bwN | apply bwD) | exact HB.out)⟩
 ·rw [if_neg c2] at H
  have c2b0 : decide (1048576 < (l0.length : Int)) = false := decide_eq_false c2
  have c2b1 : decide (1048576 < l0.length) = false := decide_eq_false (by omega)
  clear c2
  replace H := Option.bind_eq_some_iff.mp H
  obtain ⟨⟨t374, t375⟩, A30, H⟩ := H
  replace H : ((impl_CoreOf.f k t374 t375).bind fun t379 => ((spec_CoreOf.f k t374 t375).bind fun t382 => ((laws_wcInts.f k t379 t382).bind fun t385 => (if t385 = true then ((impl_CountModels.f k t374 t375).bind fun t386 => ((spec_CountModels.f k t374 t375).bind fun t387 => (laws_FnCoreOf.j0 k t379 (t386 != t387) t374 t375))) else (laws_FnCoreOf.j0 k t379 true t374 t375))))) = some r := H
  have A3 := Aside0.mk A30
  clear A30
  replace H := Option.bind_eq_some_iff.mp H
  obtain ⟨t379, A40, H⟩ := H
  replace H : ((spec_CoreOf.f k t374 t375).bind fun t382 => ((laws_wcInts.f k t379 t382).bind fun t385 => (if t385 = true then ((impl_CountModels.f k t374 t375).bind fun t386 => ((spec_CountModels.f k t374 t375).bind fun t387 => (laws_FnCoreOf.j0 k t379 (t386 != t387) t374 t375))) else (laws_FnCoreOf.j0 k t379 true t374 t375)))) = some r := H
  have A4 := Aside0.mk A40
  clear A40
  have HC5 := Aside0.mk H
  clear H
  go_enter Try.func10, Try.ntmps10
  go_upto_region 5 with (first | ((with_reducible refine gate_callee (f := 43) rfl ?_); refine goesL_ (some 13) rfl rfl Try.func43 (by kernel_rfl) rfl #[.slice A0 l0.length c0] rfl lmB ?_; (with_reducible refine (spec_DrawCoreOf.calls k _ _ l0 t374 t375 _ ?side1 ?side2 A3.out).mono ?_); (case side1 => repeat (first | exact HR0.out | (with_reducible refine Kd.C_alloc ?_ _) | (with_reducible refine Kd.C_drewN ?_ _) | (with_reducible refine Kd.C_drew ?_))); (case side2 => exact HC0.out); rintro e w6 ⟨v376, rfl, ho0, hb⟩; refine ⟨_, rfl, ?_⟩; have n0_ := Aside0.mk (Kd.N_lower (Kd.N_mono (ok' := fun k_ => True) (Kd.S_N (Kd.S_bound ho0)) (fun k_ hk_ => trivial)) (below_size (by repeat (first | (with_reducible first | exact HB.out | apply bwA | apply bwN | apply bwD) | exact HB.out)))); have n1_ := Aside0.mk (below_step (by repeat (first | (with_reducible first | exact HB.out | apply bwA | apply bwN | apply bwD) | exact HB.out)) hb); clear HB; have HO377 := n0_; have HB := n1_; clear n0_ n1_; (try clear hb); (try clear hb2); (try clear hk); (try clear hi); (try clear ho0)) | ((with_reducible refine gate_dst (N := 3) rfl ?_); refine box_event ?hg (N := 3) ?hd (cs := #[.int .i64 0, .slice none 0 0]) (t := 29) ?hr ?_; (case hd => rfl); (case hg => rfl); (case hr => first | (go_simp; done) | (go_simp; rfl)); intro gb378 hg w7 hbox hb; have n0_ := Aside0.mk (Kd.N_below (Kd.N_elderB (by (with_reducible repeat (first | apply Kd.N_alloc | apply Kd.N_drewN | apply Kd.N_drew)); exact HO377.out) gb378 (Nat.le_of_eq hg.symm)) hb); have n1_ := Aside0.mk (below_step (by repeat (first | (with_reducible first | exact HB.out | apply bwA | apply bwN | apply bwD) | exact HB.out)) hb); have n2_ := Aside0.mk (hbox); have n3_ := Aside0.mk ((by rw [hg]; exact (below_size (by repeat (first | (with_reducible first | exact HB.out | apply bwA | apply bwN | apply bwD) | exact HB.out))) : w.heap.size ≤ gb378)); have n4_ := Aside0.mk ((by rw [hg]; exact (below_size (by repeat (first | (with_reducible first | exact HB.out | apply bwA | apply bwN | apply bwD) | exact HB.out))) : w.heap.size ≤ gb378)); clear HO377; clear HB; have HO377 := n0_; have HB := n1_; have BK378 := n2_; have GW378 := n3_; have GE378 := n4_; clear n0_ n1_ n2_ n3_ n4_; clear hb hbox hg; have hcz8_0 : w7.cell? ⟨gb378, 0, none⟩ = some (.int .i64 0) := (blk_cell BK378.out 0).trans rfl; have hcz8_1 : w7.cell? ⟨gb378, 1, none⟩ = some (.slice none 0 0) := (blk_cell BK378.out 1).trans rfl; have hfz8_0 := blk_frozen BK378.out 0; have hfz8_1 := blk_frozen BK378.out 1; obtain ⟨Ao9, co9, eo9⟩ := Kd.N_slice HO377.out; subst eo9) | ((with_reducible refine gate_store (t := 29) (p := 3) rfl ?_); refine store_event (t := 29) (p := 3) (v := ?vo_w10) (w1 := ((w7.setCell ⟨gb378, 0, none⟩ (.int .i64 t374)).setCell ⟨gb378, 1, none⟩ (.slice Ao9 t375.length co9))) ?hg ?ho ?hn ?hr ?_; (case ho => rfl); (case hg => rfl); (case hn => rfl); (case hr => first | (go_simp; done) | (go_simp; rfl)); intro w10 hw; have n0_ : Aside0 (Kd.N (Kd.slice 3 (Kd.int .i64)) 25 w10 w.heap.size (fun k_ => k_ ≠ gb378) (.slice Ao9 t375.length co9) t375) := ⟨(by rw [hw]; exact (by (with_reducible repeat (first | apply Kd.N_alloc | apply Kd.N_drewN | apply Kd.N_drew)); exact Kd.N_mono (Kd.N_far (p := ⟨gb378, 1, none⟩) (Kd.N_far (p := ⟨gb378, 0, none⟩) (Kd.N_mono HO377.out (fun k_ hk => (⟨hk, hk.2⟩ : _ ∧ k_ ≠ gb378))) (fun _ hk => hk.2) (.int .i64 t374)) (fun _ hk => hk.2) (.slice Ao9 t375.length co9)) (fun _ hk => hk.1.2)))⟩; have n1_ : Aside0 (w10.heap[gb378]? = some (.cells #[.int .i64 t374, .slice Ao9 t375.length co9] 29 (0, 0))) := ⟨(by rw [hw]; exact (by (with_reducible repeat (first | refine blk_drewN ?_ _ | refine blk_drew ?_ | refine blk_alloc ?_ _)); refine blk_put (cs := #[.int .i64 t374, .slice none 0 0]) ?_ 1 _ rfl; (with_reducible repeat (first | refine blk_drewN ?_ _ | refine blk_drew ?_ | refine blk_alloc ?_ _)); refine blk_put (cs := #[.int .i64 0, .slice none 0 0]) ?_ 0 _ rfl; (with_reducible repeat (first | refine blk_drewN ?_ _ | refine blk_drew ?_ | refine blk_alloc ?_ _)); exact BK378.out))⟩; have n2_ : Aside0 (Below w.heap.size w w10) := ⟨(by rw [hw]; exact (by repeat (first | (with_reducible first | exact HB.out | apply bwA | apply bwN | apply bwD | refine below_set ?_ GE378.out) | exact HB.out)))⟩; clear hw; clear HO377; clear BK378; clear HB; have HO377 := n0_; have BK378 := n1_; have HB := n2_; clear n0_ n1_ n2_; have hcz11_0 : w10.cell? ⟨gb378, 0, none⟩ = some (.int .i64 t374) := (blk_cell BK378.out 0).trans rfl; have hcz11_1 : w10.cell? ⟨gb378, 1, none⟩ = some (.slice Ao9 t375.length co9) := (blk_cell BK378.out 1).trans rfl; have hfz11_0 := blk_frozen BK378.out 0; have hfz11_1 := blk_frozen BK378.out 1) | ((with_reducible refine gate_callee (f := 42) rfl ?_); refine goesL_ (some 15) rfl rfl Try.func42 (by kernel_rfl) rfl #[.agg #[.int .i64 t374, .slice Ao9 t375.length co9]] rfl lmB ?_; (with_reducible refine (impl_CoreOf.calls k t374 (fun k_ => k_ ≠ gb378) _ _ t375 t379 _ ?side1 A4.out).mono ?_); (case side1 => exact Kd.N_V (HO377.out)); rintro e w12 ⟨v380, rfl, ho0, hb⟩; refine ⟨_, rfl, ?_⟩; have n0_ := Aside0.mk (Kd.N_elder' (by (with_reducible repeat (first | apply Kd.N_alloc | apply Kd.N_drewN | apply Kd.N_drew)); exact HO377.out) (Kd.R_base ho0) hb); have n1_ := Aside0.mk (Kd.R_lower (Kd.R_mono (ok' := fun k_ => True) ho0 (fun _ hk_ => trivial)) (below_size (by repeat (first | (with_reducible first | exact HB.out | apply bwA | apply bwN | apply bwD | refine below_set ?_ GE378.out) | exact HB.out)))); have n2_ := Aside0.mk (blk_below (g := gb378) (o := .cells #[.int .i64 t374, .slice Ao9 t375.length co9] 29 (0, 0)) (bvK BK378.out) hb); have n3_ := Aside0.mk (below_step (by repeat (first | (with_reducible first | exact HB.out | apply bwA | apply bwN | apply bwD | refine below_set ?_ GE378.out) | exact HB.out)) hb); clear HO377; clear BK378; clear HB; have HO377 := n0_; have HO381 := n1_; have BK378 := n2_; have HB := n3_; clear n0_ n1_ n2_ n3_; (try clear hb); (try clear hb2); (try clear hk); (try clear hi); (try clear ho0)))
  (try simp only [Act.put, List.setIfInBounds_toArray, List.set_cons_zero, List.set_cons_succ])
  go_cut [27] (fun v27 wc => ∃ (kq : Nat) (x27_4 : Bool), v27 = .bool x27_4 ∧ Aside0 (laws_FnCoreOf.j0 kq t379 x27_4 t374 t375 = some r) ∧ Aside0 (kq ≤ k) ∧ Aside0 (Kd.R (Kd.int .i64) 3 wc w.heap.size (fun _ => True) v380 t379) ∧ Aside0 (Kd.N (Kd.slice 3 (Kd.int .i64)) 25 wc w.heap.size (fun k_ => some k_ ≠ (v380 : Value).ownBlock ∧ k_ ≠ gb378) (.slice Ao9 t375.length co9) t375) ∧ Aside0 (wc.heap[gb378]? = some (.cells #[.int .i64 t374, (.slice Ao9 t375.length co9)] 29 (0, 0))) ∧ Aside0 (Below w.heap.size w wc))
  case first =>
   have H := HC5.out
   clear HC5
   replace H := Option.bind_eq_some_iff.mp H
   obtain ⟨t382, A130, H⟩ := H
   replace H : ((laws_wcInts.f k t379 t382).bind fun t385 => (if t385 = true then ((impl_CountModels.f k t374 t375).bind fun t386 => ((spec_CountModels.f k t374 t375).bind fun t387 => (laws_FnCoreOf.j0 k t379 (t386 != t387) t374 t375))) else (laws_FnCoreOf.j0 k t379 true t374 t375))) = some r := H
   have A13 := Aside0.mk A130
   clear A130
   replace H := Option.bind_eq_some_iff.mp H
   obtain ⟨t385, A140, H⟩ := H
   replace H : (if t385 = true then ((impl_CountModels.f k t374 t375).bind fun t386 => ((spec_CountModels.f k t374 t375).bind fun t387 => (laws_FnCoreOf.j0 k t379 (t386 != t387) t374 t375))) else (laws_FnCoreOf.j0 k t379 true t374 t375)) = some r := H
   have A14 := Aside0.mk A140
   clear A140
   by_cases c15 : t385 = true
   ·subst c15
    have H1 : ((impl_CountModels.f k t374 t375).bind fun t386 => ((spec_CountModels.f k t374 t375).bind fun t387 => (laws_FnCoreOf.j0 k t379 (t386 != t387) t374 t375))) = some r := by rw [if_pos rfl] at H; exact H
    clear H
    have H := H1
    clear H1
    replace H := Option.bind_eq_some_iff.mp H
    obtain ⟨t386, A160, H⟩ := H
    replace H : ((spec_CountModels.f k t374 t375).bind fun t387 => (laws_FnCoreOf.j0 k t379 (t386 != t387) t374 t375)) = some r := H
    have A16 := Aside0.mk A160
    clear A160
    replace H := Option.bind_eq_some_iff.mp H
    obtain ⟨t387, A170, H⟩ := H
    replace H : (laws_FnCoreOf.j0 k t379 (t386 != t387) t374 t375) = some r := H
    have A17 := Aside0.mk A170
    clear A170
    have H' := Aside0.mk H
    clear H
    try go_wp2
    have n0_ := Aside0.mk (Kd.N_drew HO377.out)
    have n1_ := Aside0.mk (Kd.R_drew HO381.out)
    have n2_ := Aside0.mk (blk_drew BK378.out)
    have n3_ := Aside0.mk (below_drew1 HB.out)
    clear HO377
    clear HO381
    clear BK378
    clear HB
    have HO377 := n0_
    have HO381 := n1_
    have BK378 := n2_
    have HB := n3_
    clear n0_ n1_ n2_ n3_
    refine start_ (n := 12) (S := fun w' => w'.cell? ⟨gb378, 0, none⟩ = some (.int .i64 t374) ∧ w'.cell? ⟨gb378, 1, none⟩ = some (.slice Ao9 t375.length co9)) (ds := []) #[false, false, false, false, false, false, false, false, false, false, false, false] (by kernel_rfl) rfl rfl ⟨(blk_cell BK378.out 0).trans rfl, (blk_cell BK378.out 1).trans rfl⟩ (fun hHeld => ?_); refine with_tabW laws_FnCoreOf.tab5 laws_FnCoreOf.bits5 (fun HT_ HW_ => ?_)
    generalize w12.drew = w18 at HO377 HO381 BK378 HB hHeld ⊢
    refine pure_ (i := 0) (N := some 16) (v := ?_) (a' := ?_) #[true, false, false, false, false, false, false, false, false, false, false, false] rfl rfl (any_of HT_.out (by kernel_rfl)) (fun _ _ _ h => h) (Or.inl ⟨by rfl, ?_⟩) ?_ ?_
    rotate_left
    ·intro w'
     go_simp
     with_reducible rfl
    rotate_left
    ·simp only [Act.put, List.setIfInBounds_toArray, List.set_cons_zero, List.set_cons_succ, i64_w, i32_w]
     rfl
    refine take_ (i := 1) (N := some 17) (v := ?_) (a' := ?_) #[true, true, false, false, false, false, false, false, false, false, false, false] rfl rfl (take_ofW HT_.out HW_.out (by kernel_rfl)) (fun _ _ _ h => h) (Or.inl ⟨by rfl, ?_⟩) hHeld ?_ ?_
    rotate_left
    ·rintro w' ⟨s0, s1⟩
     go_simp
     with_reducible rfl
    rotate_left
    ·simp only [Act.put, List.setIfInBounds_toArray, List.set_cons_zero, List.set_cons_succ, i64_w, i32_w]
     rfl
    refine one_ (i := 2) (N := some 18) #[true, true, true, false, false, false, false, false, false, false, false, false] rfl rfl (one_of HT_.out (by kernel_rfl)) (by decide) (fun K hK => ?_)
    refine goes_ Try.func41 (by kernel_rfl) rfl #[.agg #[.int .i64 t374, .slice Ao9 t375.length co9]] (by rfl) rfl rfl lmB ?_
    with_reducible refine (spec_CoreOf.calls k t374 (fun k_ => (k_ ≠ gb378 ∧ some k_ ≠ (v380 : Value).ownBlock)) _ _ t375 t382 _ ?side1 A13.out).mono ?_
    (case side1 => exact Kd.N_V (HO377.out))
    rintro e w19 ⟨v383, rfl, ho0, hb⟩
    refine ⟨_, rfl, ?_⟩
    have n0_ := Aside0.mk (Kd.N_elder' (by (with_reducible repeat (first | apply Kd.N_alloc | apply Kd.N_drewN | apply Kd.N_drew)); exact HO377.out) (Kd.R_base ho0) hb)
    have n1_ := Aside0.mk (Kd.R_elder' (rvR HO381.out) (Kd.R_base ho0) hb)
    have n2_ := Aside0.mk (Kd.R_lower (Kd.R_new' (Kd.R_mono (ok' := fun k_ => True) ho0 (fun _ hk_ => trivial)) (Kd.R_lt (rvR HO381.out))) (below_size (by repeat (first | (with_reducible first | exact HB.out | apply bwA | apply bwN | apply bwD | refine below_set ?_ GE378.out) | exact HB.out))))
    have n3_ := Aside0.mk (blk_below (g := gb378) (o := .cells #[.int .i64 t374, .slice Ao9 t375.length co9] 29 (0, 0)) (bvK BK378.out) hb)
    have n4_ := Aside0.mk (below_step (by repeat (first | (with_reducible first | exact HB.out | apply bwA | apply bwN | apply bwD | refine below_set ?_ GE378.out) | exact HB.out)) hb)
    clear HO377
    clear HO381
    clear BK378
    clear HB
    have HO377 := n0_
    have HO381 := n1_
    have HO384 := n2_
    have BK378 := n3_
    have HB := n4_
    clear n0_ n1_ n2_ n3_ n4_
    (try clear hb)
    (try clear hb2)
    (try clear hk)
    (try clear hi)
    (try clear ho0)
    obtain ⟨Ao20, co20, eo20⟩ := Kd.R_slice HO381.out
    (first | subst eo20 | (injection eo20 with f1_ f2_ f3_; have f4_ := f1_.symm; have f5_ := f3_.symm; clear f1_ f2_ f3_; subst f4_; subst f5_))
    obtain ⟨Ao21, co21, eo21⟩ := Kd.R_slice HO384.out
    (first | subst eo21 | (injection eo21 with f1_ f2_ f3_; have f4_ := f1_.symm; have f5_ := f3_.symm; clear f1_ f2_ f3_; subst f4_; subst f5_))
    refine hK.out _ _ ⟨(blk_cell BK378.out 0).trans rfl, (blk_cell BK378.out 1).trans rfl⟩ (fun hHeld => ?_)
    clear hK K
    refine norm_ (a' := ?_) ?_ ?_
    rotate_left
    ·show Act.put _ (some 18) _ = _
     simp only [Act.put, List.setIfInBounds_toArray, List.set_cons_zero, List.set_cons_succ, i64_w, i32_w]
     rfl
    refine one_ (i := 3) (N := some 19) #[true, true, true, true, false, false, false, false, false, false, false, false] rfl rfl (one_of HT_.out (by kernel_rfl)) (by decide) (fun K hK => ?_)
    refine goes_ Try.func23 (by kernel_rfl) rfl #[.slice Ao20 t379.length co20, .slice Ao21 t382.length co21] (by rfl) rfl rfl lmB ?_
    with_reducible refine (laws_wcInts.calls k _ _ t379 _ _ t382 true _ ?side1 ?side2 ?side3 ?side4 A14.out).mono ?_
    (case side1 => repeat (first | exact (Kd.R_reads' HO381.out).2.2 | (with_reducible refine Kd.C_alloc ?_ _) | (with_reducible refine Kd.C_drewN ?_ _) | (with_reducible refine Kd.C_drew ?_)))
    (case side2 => exact (Kd.R_reads' HO381.out).2.1)
    (case side3 => repeat (first | exact (Kd.R_reads' HO384.out).2.2 | (with_reducible refine Kd.C_alloc ?_ _) | (with_reducible refine Kd.C_drewN ?_ _) | (with_reducible refine Kd.C_drew ?_)))
    (case side4 => exact (Kd.R_reads' HO384.out).2.1)
    rintro e w' ⟨rfl, ⟨nd, rfl⟩⟩
    refine ⟨_, rfl, ?_⟩
    refine hK.out _ _ ⟨(blk_cell BK378.out 0).trans rfl, (blk_cell BK378.out 1).trans rfl⟩ (fun hHeld => ?_)
    clear hK K
    refine norm_ (a' := ?_) ?_ ?_
    rotate_left
    ·show Act.put _ (some 19) _ = _
     simp only [Act.put, List.setIfInBounds_toArray, List.set_cons_zero, List.set_cons_succ, i64_w, i32_w]
     rfl
    refine pure_ (i := 4) (N := some 20) (v := ?_) (a' := ?_) #[true, true, true, true, true, false, false, false, false, false, false, false] rfl rfl (any_of HT_.out (by kernel_rfl)) (fun _ _ _ h => h) (Or.inl ⟨by rfl, ?_⟩) ?_ ?_
    rotate_left
    ·intro w'
     go_simp
     with_reducible rfl
    rotate_left
    ·simp only [Act.put, List.setIfInBounds_toArray, List.set_cons_zero, List.set_cons_succ, i64_w, i32_w]
     rfl
    refine pure_ (i := 5) (N := some 21) (v := ?_) (a' := ?_) #[true, true, true, true, true, true, false, false, false, false, false, false] rfl rfl (any_of HT_.out (by kernel_rfl)) (fun _ _ _ h => h) (Or.inl ⟨by rfl, ?_⟩) ?_ ?_
    rotate_left
    ·intro w'
     go_simp
     with_reducible rfl
    rotate_left
    ·simp only [Act.put, List.setIfInBounds_toArray, List.set_cons_zero, List.set_cons_succ, i64_w, i32_w]
     rfl
    refine take_ (i := 6) (N := some 22) (v := ?_) (a' := ?_) #[true, true, true, true, true, true, true, false, false, false, false, false] rfl rfl (take_ofW HT_.out HW_.out (by kernel_rfl)) (fun _ _ _ h => h) (Or.inl ⟨by rfl, ?_⟩) hHeld ?_ ?_
    rotate_left
    ·rintro w' ⟨s0, s1⟩
     go_simp
     with_reducible rfl
    rotate_left
    ·simp only [Act.put, List.setIfInBounds_toArray, List.set_cons_zero, List.set_cons_succ, i64_w, i32_w]
     rfl
    refine take_ (i := 8) (N := some 24) (v := ?_) (a' := ?_) #[true, true, true, true, true, true, true, false, true, false, false, false] rfl rfl (take_ofW HT_.out HW_.out (by kernel_rfl)) (fun _ _ _ h => h) (Or.inl ⟨by rfl, ?_⟩) hHeld ?_ ?_
    rotate_left
    ·rintro w' ⟨s0, s1⟩
     go_simp
     with_reducible rfl
    rotate_left
    ·simp only [Act.put, List.setIfInBounds_toArray, List.set_cons_zero, List.set_cons_succ, i64_w, i32_w]
     rfl
    refine one_ (i := 7) (N := some 23) #[true, true, true, true, true, true, true, true, true, false, false, false] rfl rfl (one_of HT_.out (by kernel_rfl)) (by decide) (fun K hK => ?_)
    refine goes_ Try.func38 (by kernel_rfl) rfl #[.agg #[.int .i64 t374, .slice Ao9 t375.length co9]] (by rfl) rfl rfl lmB ?_
    with_reducible refine (impl_CountModels.calls k t374 _ _ t375 t386 _ ?side1 ?side2 A16.out).mono ?_
    (case side1 => repeat (first | exact (Kd.N_reads' HO377.out).2.2 | (with_reducible refine Kd.C_alloc ?_ _) | (with_reducible refine Kd.C_drewN ?_ _) | (with_reducible refine Kd.C_drew ?_)))
    (case side2 => exact (Kd.N_reads' HO377.out).2.1)
    rintro e w22 ⟨rfl, hb⟩
    refine ⟨_, rfl, ?_⟩
    have n0_ := Aside0.mk (Kd.N_below (by (with_reducible repeat (first | apply Kd.N_alloc | apply Kd.N_drewN | apply Kd.N_drew)); exact HO377.out) hb)
    have n1_ := Aside0.mk (Kd.R_below (rvR HO381.out) hb)
    have n2_ := Aside0.mk (Kd.R_below (rvR HO384.out) hb)
    have n3_ := Aside0.mk (blk_below (g := gb378) (o := .cells #[.int .i64 t374, .slice Ao9 t375.length co9] 29 (0, 0)) (bvK BK378.out) hb)
    have n4_ := Aside0.mk (below_step (by repeat (first | (with_reducible first | exact HB.out | apply bwA | apply bwN | apply bwD | refine below_set ?_ GE378.out) | exact HB.out)) hb)
    clear HO377
    clear HO381
    clear HO384
    clear BK378
    clear HB
    have HO377 := n0_
    have HO381 := n1_
    have HO384 := n2_
    have BK378 := n3_
    have HB := n4_
    clear n0_ n1_ n2_ n3_ n4_
    (try clear hb)
    (try clear hb2)
    (try clear hk)
    (try clear hi)
    refine hK.out _ _ ⟨(blk_cell BK378.out 0).trans rfl, (blk_cell BK378.out 1).trans rfl⟩ (fun hHeld => ?_)
    clear hK K
    refine norm_ (a' := ?_) ?_ ?_
    rotate_left
    ·show Act.put _ (some 23) _ = _
     simp only [Act.put, List.setIfInBounds_toArray, List.set_cons_zero, List.set_cons_succ, i64_w, i32_w]
     rfl
    refine one_ (i := 9) (N := some 25) #[true, true, true, true, true, true, true, true, true, true, false, false] rfl rfl (one_of HT_.out (by kernel_rfl)) (by decide) (fun K hK => ?_)
    refine goes_ Try.func39 (by kernel_rfl) rfl #[.agg #[.int .i64 t374, .slice Ao9 t375.length co9]] (by rfl) rfl rfl lmB ?_
    with_reducible refine (spec_CountModels.calls k t374 _ _ t375 t387 _ ?side1 ?side2 A17.out).mono ?_
    (case side1 => repeat (first | exact (Kd.N_reads' HO377.out).2.2 | (with_reducible refine Kd.C_alloc ?_ _) | (with_reducible refine Kd.C_drewN ?_ _) | (with_reducible refine Kd.C_drew ?_)))
    (case side2 => exact (Kd.N_reads' HO377.out).2.1)
    rintro e w23 ⟨rfl, hb⟩
    refine ⟨_, rfl, ?_⟩
    have n0_ := Aside0.mk (Kd.N_below (by (with_reducible repeat (first | apply Kd.N_alloc | apply Kd.N_drewN | apply Kd.N_drew)); exact HO377.out) hb)
    have n1_ := Aside0.mk (Kd.R_below (rvR HO381.out) hb)
    have n2_ := Aside0.mk (Kd.R_below (rvR HO384.out) hb)
    have n3_ := Aside0.mk (blk_below (g := gb378) (o := .cells #[.int .i64 t374, .slice Ao9 t375.length co9] 29 (0, 0)) (bvK BK378.out) hb)
    have n4_ := Aside0.mk (below_step (by repeat (first | (with_reducible first | exact HB.out | apply bwA | apply bwN | apply bwD | refine below_set ?_ GE378.out) | exact HB.out)) hb)
    clear HO377
    clear HO381
    clear HO384
    clear BK378
    clear HB
    have HO377 := n0_
    have HO381 := n1_
    have HO384 := n2_
    have BK378 := n3_
    have HB := n4_
    clear n0_ n1_ n2_ n3_ n4_
    (try clear hb)
    (try clear hb2)
    (try clear hk)
    (try clear hi)
    refine hK.out _ _ ⟨(blk_cell BK378.out 0).trans rfl, (blk_cell BK378.out 1).trans rfl⟩ (fun hHeld => ?_)
    clear hK K
    refine norm_ (a' := ?_) ?_ ?_
    rotate_left
    ·show Act.put _ (some 25) _ = _
     simp only [Act.put, List.setIfInBounds_toArray, List.set_cons_zero, List.set_cons_succ, i64_w, i32_w]
     rfl
    refine pure_ (i := 10) (N := some 26) (v := ?_) (a' := ?_) #[true, true, true, true, true, true, true, true, true, true, true, false] rfl rfl (any_of HT_.out (by kernel_rfl)) (fun _ _ _ h => h) (Or.inl ⟨by rfl, ?_⟩) ?_ ?_
    rotate_left
    ·intro w'
     go_simp
     with_reducible rfl
    rotate_left
    ·simp only [Act.put, List.setIfInBounds_toArray, List.set_cons_zero, List.set_cons_succ, i64_w, i32_w]
     rfl
    refine pure_ (i := 11) (N := some 27) (v := ?_) (a' := ?_) #[true, true, true, true, true, true, true, true, true, true, true, true] rfl rfl (any_of HT_.out (by kernel_rfl)) (fun _ _ _ h => h) (Or.inl ⟨by rfl, ?_⟩) ?_ ?_
    rotate_left
    ·intro w'
     go_simp
     with_reducible rfl
    rotate_left
    ·simp only [Act.put, List.setIfInBounds_toArray, List.set_cons_zero, List.set_cons_succ, i64_w, i32_w]
     rfl
    refine done_ (done_of HT_.out (by kernel_rfl)) ?_
    try go_wp2
    go_meet
    case rel => exact ⟨_, ((t386 != t387)), rsd, H', ⟨by first | omega | exact Nat.le_refl _⟩, ⟨by (with_reducible repeat (first | apply Kd.R_alloc | apply Kd.R_drewN | apply Kd.R_drew)); exact Kd.R_mono HO381.out (fun _ hk => trivial)⟩, ⟨by (with_reducible repeat (first | apply Kd.N_alloc | apply Kd.N_drewN | apply Kd.N_drew)); exact Kd.N_mono HO377.out (fun _ hk => ⟨hk.1.2, hk.1.1⟩)⟩, ⟨bvK BK378.out⟩, ⟨by repeat (first | (with_reducible first | exact HB.out | apply bwA | apply bwN | apply bwD | refine below_set ?_ GE378.out) | exact HB.out)⟩⟩
   ·replace c15 := Bool.eq_false_iff.mpr c15
    subst c15
    have H1 : (laws_FnCoreOf.j0 k t379 true t374 t375) = some r := by rw [if_neg (show ¬ (false = true) by decide)] at H; exact H
    clear H
    have H := H1
    clear H1
    have H' := Aside0.mk H
    clear H
    try go_wp2
    have n0_ := Aside0.mk (Kd.N_drew HO377.out)
    have n1_ := Aside0.mk (Kd.R_drew HO381.out)
    have n2_ := Aside0.mk (blk_drew BK378.out)
    have n3_ := Aside0.mk (below_drew1 HB.out)
    clear HO377
    clear HO381
    clear BK378
    clear HB
    have HO377 := n0_
    have HO381 := n1_
    have BK378 := n2_
    have HB := n3_
    clear n0_ n1_ n2_ n3_
    refine start_ (n := 12) (S := fun w' => w'.cell? ⟨gb378, 0, none⟩ = some (.int .i64 t374) ∧ w'.cell? ⟨gb378, 1, none⟩ = some (.slice Ao9 t375.length co9)) (ds := []) #[false, false, false, false, false, false, false, false, false, false, false, false] (by kernel_rfl) rfl rfl ⟨(blk_cell BK378.out 0).trans rfl, (blk_cell BK378.out 1).trans rfl⟩ (fun hHeld => ?_); refine with_tabW laws_FnCoreOf.tab5 laws_FnCoreOf.bits5 (fun HT_ HW_ => ?_)
    generalize w12.drew = w24 at HO377 HO381 BK378 HB hHeld ⊢
    refine pure_ (i := 0) (N := some 16) (v := ?_) (a' := ?_) #[true, false, false, false, false, false, false, false, false, false, false, false] rfl rfl (any_of HT_.out (by kernel_rfl)) (fun _ _ _ h => h) (Or.inl ⟨by rfl, ?_⟩) ?_ ?_
    rotate_left
    ·intro w'
     go_simp
     with_reducible rfl
    rotate_left
    ·simp only [Act.put, List.setIfInBounds_toArray, List.set_cons_zero, List.set_cons_succ, i64_w, i32_w]
     rfl
    refine take_ (i := 1) (N := some 17) (v := ?_) (a' := ?_) #[true, true, false, false, false, false, false, false, false, false, false, false] rfl rfl (take_ofW HT_.out HW_.out (by kernel_rfl)) (fun _ _ _ h => h) (Or.inl ⟨by rfl, ?_⟩) hHeld ?_ ?_
    rotate_left
    ·rintro w' ⟨s0, s1⟩
     go_simp
     with_reducible rfl
    rotate_left
    ·simp only [Act.put, List.setIfInBounds_toArray, List.set_cons_zero, List.set_cons_succ, i64_w, i32_w]
     rfl
    refine one_ (i := 2) (N := some 18) #[true, true, true, false, false, false, false, false, false, false, false, false] rfl rfl (one_of HT_.out (by kernel_rfl)) (by decide) (fun K hK => ?_)
    refine goes_ Try.func41 (by kernel_rfl) rfl #[.agg #[.int .i64 t374, .slice Ao9 t375.length co9]] (by rfl) rfl rfl lmB ?_
    with_reducible refine (spec_CoreOf.calls k t374 (fun k_ => (k_ ≠ gb378 ∧ some k_ ≠ (v380 : Value).ownBlock)) _ _ t375 t382 _ ?side1 A13.out).mono ?_
    (case side1 => exact Kd.N_V (HO377.out))
    rintro e w25 ⟨v383, rfl, ho0, hb⟩
    refine ⟨_, rfl, ?_⟩
    have n0_ := Aside0.mk (Kd.N_elder' (by (with_reducible repeat (first | apply Kd.N_alloc | apply Kd.N_drewN | apply Kd.N_drew)); exact HO377.out) (Kd.R_base ho0) hb)
    have n1_ := Aside0.mk (Kd.R_elder' (rvR HO381.out) (Kd.R_base ho0) hb)
    have n2_ := Aside0.mk (Kd.R_lower (Kd.R_new' (Kd.R_mono (ok' := fun k_ => True) ho0 (fun _ hk_ => trivial)) (Kd.R_lt (rvR HO381.out))) (below_size (by repeat (first | (with_reducible first | exact HB.out | apply bwA | apply bwN | apply bwD | refine below_set ?_ GE378.out) | exact HB.out))))
    have n3_ := Aside0.mk (blk_below (g := gb378) (o := .cells #[.int .i64 t374, .slice Ao9 t375.length co9] 29 (0, 0)) (bvK BK378.out) hb)
    have n4_ := Aside0.mk (below_step (by repeat (first | (with_reducible first | exact HB.out | apply bwA | apply bwN | apply bwD | refine below_set ?_ GE378.out) | exact HB.out)) hb)
    clear HO377
    clear HO381
    clear BK378
    clear HB
    have HO377 := n0_
    have HO381 := n1_
    have HO384 := n2_
    have BK378 := n3_
    have HB := n4_
    clear n0_ n1_ n2_ n3_ n4_
    (try clear hb)
    (try clear hb2)
    (try clear hk)
    (try clear hi)
    (try clear ho0)
    obtain ⟨Ao26, co26, eo26⟩ := Kd.R_slice HO381.out
    (first | subst eo26 | (injection eo26 with f1_ f2_ f3_; have f4_ := f1_.symm; have f5_ := f3_.symm; clear f1_ f2_ f3_; subst f4_; subst f5_))
    obtain ⟨Ao27, co27, eo27⟩ := Kd.R_slice HO384.out
    (first | subst eo27 | (injection eo27 with f1_ f2_ f3_; have f4_ := f1_.symm; have f5_ := f3_.symm; clear f1_ f2_ f3_; subst f4_; subst f5_))
    refine hK.out _ _ ⟨(blk_cell BK378.out 0).trans rfl, (blk_cell BK378.out 1).trans rfl⟩ (fun hHeld => ?_)
    clear hK K
    refine norm_ (a' := ?_) ?_ ?_
    rotate_left
    ·show Act.put _ (some 18) _ = _
     simp only [Act.put, List.setIfInBounds_toArray, List.set_cons_zero, List.set_cons_succ, i64_w, i32_w]
     rfl
    refine one_ (i := 3) (N := some 19) #[true, true, true, true, false, false, false, false, false, false, false, false] rfl rfl (one_of HT_.out (by kernel_rfl)) (by decide) (fun K hK => ?_)
    refine goes_ Try.func23 (by kernel_rfl) rfl #[.slice Ao26 t379.length co26, .slice Ao27 t382.length co27] (by rfl) rfl rfl lmB ?_
    with_reducible refine (laws_wcInts.calls k _ _ t379 _ _ t382 false _ ?side1 ?side2 ?side3 ?side4 A14.out).mono ?_
    (case side1 => repeat (first | exact (Kd.R_reads' HO381.out).2.2 | (with_reducible refine Kd.C_alloc ?_ _) | (with_reducible refine Kd.C_drewN ?_ _) | (with_reducible refine Kd.C_drew ?_)))
    (case side2 => exact (Kd.R_reads' HO381.out).2.1)
    (case side3 => repeat (first | exact (Kd.R_reads' HO384.out).2.2 | (with_reducible refine Kd.C_alloc ?_ _) | (with_reducible refine Kd.C_drewN ?_ _) | (with_reducible refine Kd.C_drew ?_)))
    (case side4 => exact (Kd.R_reads' HO384.out).2.1)
    rintro e w' ⟨rfl, ⟨nd, rfl⟩⟩
    refine ⟨_, rfl, ?_⟩
    refine hK.out _ _ ⟨(blk_cell BK378.out 0).trans rfl, (blk_cell BK378.out 1).trans rfl⟩ (fun hHeld => ?_)
    clear hK K
    refine norm_ (a' := ?_) ?_ ?_
    rotate_left
    ·show Act.put _ (some 19) _ = _
     simp only [Act.put, List.setIfInBounds_toArray, List.set_cons_zero, List.set_cons_succ, i64_w, i32_w]
     rfl
    refine pure_ (i := 4) (N := some 20) (v := ?_) (a' := ?_) #[true, true, true, true, true, false, false, false, false, false, false, false] rfl rfl (any_of HT_.out (by kernel_rfl)) (fun _ _ _ h => h) (Or.inl ⟨by rfl, ?_⟩) ?_ ?_
    rotate_left
    ·intro w'
     go_simp
     with_reducible rfl
    rotate_left
    ·simp only [Act.put, List.setIfInBounds_toArray, List.set_cons_zero, List.set_cons_succ, i64_w, i32_w]
     rfl
    refine pure_ (i := 5) (N := some 21) (v := ?_) (a' := ?_) #[true, true, true, true, true, true, false, false, false, false, false, false] rfl rfl (any_of HT_.out (by kernel_rfl)) (fun _ _ _ h => h) (Or.inl ⟨by rfl, ?_⟩) ?_ ?_
    rotate_left
    ·intro w'
     go_simp
     with_reducible rfl
    rotate_left
    ·simp only [Act.put, List.setIfInBounds_toArray, List.set_cons_zero, List.set_cons_succ, i64_w, i32_w]
     rfl
    refine pure_ (i := 6) (N := some 22) (v := undef) (a' := ?_) #[true, true, true, true, true, true, true, false, false, false, false, false] rfl rfl (any_of HT_.out (by kernel_rfl)) (fun _ _ _ h => h) (Or.inr ⟨by rfl, rfl⟩) ?_ ?_
    rotate_left
    ·simp only [Act.put, List.setIfInBounds_toArray, List.set_cons_zero, List.set_cons_succ, i64_w, i32_w]
     rfl
    refine pure_ (i := 7) (N := some 23) (v := undef) (a' := ?_) #[true, true, true, true, true, true, true, true, false, false, false, false] rfl rfl (any_of HT_.out (by kernel_rfl)) (fun _ _ _ h => h) (Or.inr ⟨by rfl, rfl⟩) ?_ ?_
    rotate_left
    ·simp only [Act.put, List.setIfInBounds_toArray, List.set_cons_zero, List.set_cons_succ, i64_w, i32_w]
     rfl
    refine pure_ (i := 8) (N := some 24) (v := undef) (a' := ?_) #[true, true, true, true, true, true, true, true, true, false, false, false] rfl rfl (any_of HT_.out (by kernel_rfl)) (fun _ _ _ h => h) (Or.inr ⟨by rfl, rfl⟩) ?_ ?_
    rotate_left
    ·simp only [Act.put, List.setIfInBounds_toArray, List.set_cons_zero, List.set_cons_succ, i64_w, i32_w]
     rfl
    refine pure_ (i := 9) (N := some 25) (v := undef) (a' := ?_) #[true, true, true, true, true, true, true, true, true, true, false, false] rfl rfl (any_of HT_.out (by kernel_rfl)) (fun _ _ _ h => h) (Or.inr ⟨by rfl, rfl⟩) ?_ ?_
    rotate_left
    ·simp only [Act.put, List.setIfInBounds_toArray, List.set_cons_zero, List.set_cons_succ, i64_w, i32_w]
     rfl
    refine pure_ (i := 10) (N := some 26) (v := undef) (a' := ?_) #[true, true, true, true, true, true, true, true, true, true, true, false] rfl rfl (any_of HT_.out (by kernel_rfl)) (fun _ _ _ h => h) (Or.inr ⟨by rfl, rfl⟩) ?_ ?_
    rotate_left
    ·simp only [Act.put, List.setIfInBounds_toArray, List.set_cons_zero, List.set_cons_succ, i64_w, i32_w]
     rfl
    refine pure_ (i := 11) (N := some 27) (v := ?_) (a' := ?_) #[true, true, true, true, true, true, true, true, true, true, true, true] rfl rfl (any_of HT_.out (by kernel_rfl)) (fun _ _ _ h => h) (Or.inl ⟨by rfl, ?_⟩) ?_ ?_
    rotate_left
    ·intro w'
     go_simp
     with_reducible rfl
    rotate_left
    ·simp only [Act.put, List.setIfInBounds_toArray, List.set_cons_zero, List.set_cons_succ, i64_w, i32_w]
     rfl
    refine done_ (done_of HT_.out (by kernel_rfl)) ?_
    try go_wp2
    go_meet
    case rel => exact ⟨_, (true), rsd, H', ⟨by first | omega | exact Nat.le_refl _⟩, ⟨by (with_reducible repeat (first | apply Kd.R_alloc | apply Kd.R_drewN | apply Kd.R_drew)); exact Kd.R_mono HO381.out (fun _ hk => trivial)⟩, ⟨by (with_reducible repeat (first | apply Kd.N_alloc | apply Kd.N_drewN | apply Kd.N_drew)); exact Kd.N_mono HO377.out (fun _ hk => ⟨hk.1.2, hk.1.1⟩)⟩, ⟨bvK BK378.out⟩, ⟨by repeat (first | (with_reducible first | exact HB.out | apply bwA | apply bwN | apply bwD | refine below_set ?_ GE378.out) | exact HB.out)⟩⟩
  case rest =>
   clear HC5
   try clear c1
   try clear c2
   try clear c2b0
   try clear c2b1
   try clear p2
   try clear c3
   try clear c4
   try clear c10
   try clear c15
   try clear c23
   try clear hcz11_0
   try clear hcz11_1
   try clear hcz8_0
   try clear hcz8_1
   try clear hfz11_0
   try clear hfz11_1
   try clear hfz8_0
   try clear hfz8_1
   obtain ⟨kq, x27_4, rfl, HA, HJ4, HO_4, HO_379001, BK378, HB⟩ := hcut
   cases kq with
   | zero => exact absurd HA.out (by simp [laws_FnCoreOf.j0])
   | succ kj4 =>
    have H := HA.out
    clear HA
    simp only [laws_FnCoreOf.j0] at H
    by_cases c28 : x27_4 = true
    ·subst c28
     have H1 : (some false) = some r := by rw [if_pos rfl] at H; exact H
     clear H
     have H := H1
     clear H1
     obtain rfl := Option.some.inj H
     go_wp2
     go_ret
     exact ⟨ers, by repeat (first | (with_reducible first | exact HB.out | apply bwA | apply bwN | apply bwD | refine below_set ?_ GE378.out) | exact HB.out)⟩
    ·replace c28 := Bool.eq_false_iff.mpr c28
     subst c28
     have H1 : ((impl_CountModels.f kj4 t374 t375).bind fun t388 => (if t388 = 0 then (laws_FnCoreOf.l0 kj4 t379 (-1) t374 t375) else (some ((t379.length : Int) == 0)))) = some r := by rw [if_neg (show ¬ (false = true) by decide)] at H; exact H
     clear H
     have H := H1
     clear H1
     replace H := Option.bind_eq_some_iff.mp H
     obtain ⟨t388, A290, H⟩ := H
     replace H : (if t388 = 0 then (laws_FnCoreOf.l0 kj4 t379 (-1) t374 t375) else (some ((t379.length : Int) == 0))) = some r := H
     have A29 := Aside0.mk A290
     clear A290
     by_cases c30 : t388 = 0
     ·rw [if_pos c30] at H
      have c30b0 : (t388 == 0) = true := beq_iff_eq.mpr c30
      have c30b1 : (t388 != 0) = false := bne_eq_false_iff_eq.mpr c30
      clear c30
      have H' := Aside0.mk H
      clear H
      have hcz31_0 : wc.cell? ⟨gb378, 0, none⟩ = some (.int .i64 t374) := (blk_cell BK378.out 0).trans rfl
      have hcz31_1 : wc.cell? ⟨gb378, 1, none⟩ = some (.slice Ao9 t375.length co9) := (blk_cell BK378.out 1).trans rfl
      have hfz31_0 := blk_frozen BK378.out 0
      have hfz31_1 := blk_frozen BK378.out 1
      go_wp2_with (first | ((with_reducible refine gate_callee (f := 38) rfl ?_); refine goesL_ (some 29) rfl rfl Try.func38 (by kernel_rfl) rfl #[.agg #[.int .i64 t374, .slice Ao9 t375.length co9]] rfl lmB ?_; (with_reducible refine (impl_CountModels.calls kj4 t374 _ _ t375 t388 _ ?side1 ?side2 A29.out).mono ?_); (case side1 => repeat (first | exact (Kd.N_reads' HO_379001.out).2.2 | (with_reducible refine Kd.C_alloc ?_ _) | (with_reducible refine Kd.C_drewN ?_ _) | (with_reducible refine Kd.C_drew ?_))); (case side2 => exact (Kd.N_reads' HO_379001.out).2.1); rintro e w32 ⟨rfl, hb⟩; refine ⟨_, rfl, ?_⟩; have n0_ := Aside0.mk (Kd.R_below (rvR HO_4.out) hb); have n1_ := Aside0.mk (Kd.N_below (by (with_reducible repeat (first | apply Kd.N_alloc | apply Kd.N_drewN | apply Kd.N_drew)); exact HO_379001.out) hb); have n2_ := Aside0.mk (blk_below (g := gb378) (o := .cells #[.int .i64 t374, .slice Ao9 t375.length co9] 29 (0, 0)) (bvK BK378.out) hb); have n3_ := Aside0.mk (below_step (by repeat (first | (with_reducible first | exact HB.out | apply bwA | apply bwN | apply bwD | refine below_set ?_ GE378.out) | exact HB.out)) hb); clear HO_4; clear HO_379001; clear BK378; clear HB; have HO_4 := n0_; have HO_379001 := n1_; have BK378 := n2_; have HB := n3_; clear n0_ n1_ n2_ n3_; (try clear hb); (try clear hb2); (try clear hk); (try clear hi)))
      go_loopg [5] kj4 (fun kq v5 w' => ∃ (x5_2 : Int), v5 = .int .i64 x5_2 ∧ Aside0 (laws_FnCoreOf.l0 kq t379 x5_2 t374 t375 = some r) ∧ Aside0 (kq ≤ kj4) ∧ Aside0 (Kd.R (Kd.int .i64) 3 w' w.heap.size (fun _ => True) v380 t379) ∧ Aside0 (Kd.N (Kd.slice 3 (Kd.int .i64)) 25 w' w.heap.size (fun k_ => some k_ ≠ (v380 : Value).ownBlock ∧ k_ ≠ gb378) (.slice Ao9 t375.length co9) t375) ∧ Aside0 (w'.heap[gb378]? = some (.cells #[.int .i64 t374, (.slice Ao9 t375.length co9)] 29 (0, 0))) ∧ Aside0 (Below w.heap.size w w'))
      case atStart => exact ⟨((-1)), rsd, H', ⟨Nat.le_refl _⟩, ⟨rvR HO_4.out⟩, ⟨by (with_reducible repeat (first | apply Kd.N_alloc | apply Kd.N_drewN | apply Kd.N_drew)); exact HO_379001.out⟩, ⟨bvK BK378.out⟩, ⟨by repeat (first | (with_reducible first | exact HB.out | apply bwA | apply bwN | apply bwD | refine below_set ?_ GE378.out) | exact HB.out)⟩⟩
      case round =>
       clear H'
       try clear c1
       try clear c2
       try clear c2b0
       try clear c2b1
       try clear p2
       try clear c3
       try clear c4
       try clear c10
       try clear c15
       try clear c23
       try clear c28
       try clear c30
       try clear c30b0
       try clear c30b1
       try clear hcz11_0
       try clear hcz11_1
       try clear hcz31_0
       try clear hcz31_1
       try clear hcz8_0
       try clear hcz8_1
       try clear hfz11_0
       try clear hfz11_1
       try clear hfz31_0
       try clear hfz31_1
       try clear hfz8_0
       try clear hfz8_1
       try clear p2
       obtain ⟨x5_2, rfl, HA, HK2, HO_4, HO_379001, BK378, HB⟩ := hrel
       cases gk with
       | zero => exact absurd HA.out (by simp [laws_FnCoreOf.l0])
       | succ k2 =>
        have H := HA.out
        clear HA
        simp only [laws_FnCoreOf.l0] at H
        by_cases c33 : x5_2 < (t379.length : Int)
        ·rw [if_pos c33] at H
         have c33b0 : decide (x5_2 < (t379.length : Int)) = true := decide_eq_true c33
         clear c33
         have H' := Aside0.mk H
         clear H
         obtain ⟨Ao34, co34, eo34⟩ := Kd.R_slice HO_4.out
         subst eo34
         have hcz35_0 : wr.cell? ⟨gb378, 0, none⟩ = some (.int .i64 t374) := (blk_cell BK378.out 0).trans rfl
         have hcz35_1 : wr.cell? ⟨gb378, 1, none⟩ = some (.slice Ao9 t375.length co9) := (blk_cell BK378.out 1).trans rfl
         have hfz35_0 := blk_frozen BK378.out 0
         have hfz35_1 := blk_frozen BK378.out 1
         go_wp2_with (first | ((with_reducible refine gate_dst (N := 6) rfl ?_); refine box_event ?hg (N := 6) ?hd (cs := #[.int .i64 0, .slice none 0 0]) (t := 29) ?hr ?_; (case hd => rfl); (case hg => rfl); (case hr => first | (go_simp; done) | (go_simp; rfl)); intro gb389 hg w36 hbox hb; have n0_ := Aside0.mk (Kd.R_below (rvR HO_4.out) hb); have n1_ := Aside0.mk (Kd.N_below (Kd.N_elderB (by (with_reducible repeat (first | apply Kd.N_alloc | apply Kd.N_drewN | apply Kd.N_drew)); exact HO_379001.out) gb389 (Nat.le_of_eq hg.symm)) hb); have n2_ := Aside0.mk (blk_below (g := gb378) (o := .cells #[.int .i64 t374, .slice Ao9 t375.length co9] 29 (0, 0)) (bvK BK378.out) hb); have n3_ := Aside0.mk (below_step (by repeat (first | (with_reducible first | exact HB.out | apply bwA | apply bwN | apply bwD | refine below_set ?_ GE378.out) | exact HB.out)) hb); have n4_ := Aside0.mk (hbox); have n5_ := Aside0.mk ((by rw [hg]; exact (below_size (by repeat (first | (with_reducible first | exact HB.out | apply bwA | apply bwN | apply bwD | refine below_set ?_ GE378.out) | exact HB.out))) : w.heap.size ≤ gb389)); have n6_ := Aside0.mk ((by rw [hg]; exact (below_size (by repeat (first | (with_reducible first | exact HB.out | apply bwA | apply bwN | apply bwD | refine below_set ?_ GE378.out) | exact HB.out))) : w.heap.size ≤ gb389)); have n7_ := Aside0.mk ((by rw [hg]; exact Nat.ne_of_lt (blk_lt (g := gb378) (o := .cells #[.int .i64 t374, .slice Ao9 t375.length co9] 29 (0, 0)) (bvK BK378.out)) : gb378 ≠ gb389)); have n8_ := Aside0.mk ((by rw [hg]; exact Nat.ne_of_gt (blk_lt (g := gb378) (o := .cells #[.int .i64 t374, .slice Ao9 t375.length co9] 29 (0, 0)) (bvK BK378.out)) : gb389 ≠ gb378)); clear HO_4; clear HO_379001; clear BK378; clear HB; have HO_4 := n0_; have HO_379001 := n1_; have BK378 := n2_; have HB := n3_; have BK389 := n4_; have GW389 := n5_; have GE389 := n6_; have NB378_389 := n7_; have NB389_378 := n8_; clear n0_ n1_ n2_ n3_ n4_ n5_ n6_ n7_ n8_; clear hb hbox hg; have hnb37 := NB389_378.out; have hnc37 := NB378_389.out; have hcz38_0 : w36.cell? ⟨gb389, 0, none⟩ = some (.int .i64 0) := (blk_cell BK389.out 0).trans rfl; have hcz38_1 : w36.cell? ⟨gb389, 1, none⟩ = some (.slice none 0 0) := (blk_cell BK389.out 1).trans rfl; have hfz38_0 := blk_frozen BK389.out 0; have hfz38_1 := blk_frozen BK389.out 1))
         go_loopg [45] k2 (fun kq v45 w' => ∃ (x45_3 : Int) (x390001_3 : List (List Int)) (u390001 : Value), v45 = .int .i64 x45_3 ∧ Aside0 (laws_FnCoreOf.l1 kq t379 x5_2 t379 (t379.length : Int) x45_3 t374 t375 t374 x390001_3 = some r) ∧ Aside0 (kq ≤ k2) ∧ Aside0 (Kd.R (Kd.int .i64) 3 w' w.heap.size (fun _ => True) (.slice Ao34 t379.length co34) t379) ∧ Aside0 (Kd.R (Kd.int .i64) 3 w' w.heap.size (fun _ => True) (.slice Ao34 t379.length co34) t379) ∧ Aside0 (Kd.N (Kd.slice 3 (Kd.int .i64)) 25 w' w.heap.size (fun k_ => some k_ ≠ ((.slice Ao34 t379.length co34) : Value).ownBlock ∧ some k_ ≠ ((.slice Ao34 t379.length co34) : Value).ownBlock ∧ some k_ ≠ (u390001 : Value).ownBlock ∧ k_ ≠ gb378 ∧ k_ ≠ gb389) (.slice Ao9 t375.length co9) t375) ∧ Aside0 (Kd.N (Kd.slice 3 (Kd.int .i64)) 25 w' w.heap.size (fun k_ => some k_ ≠ ((.slice Ao34 t379.length co34) : Value).ownBlock ∧ some k_ ≠ ((.slice Ao34 t379.length co34) : Value).ownBlock ∧ some k_ ≠ ((.slice Ao9 t375.length co9) : Value).ownBlock ∧ k_ ≠ gb378 ∧ k_ ≠ gb389) u390001 x390001_3) ∧ Aside0 (w'.heap[gb378]? = some (.cells #[.int .i64 t374, (.slice Ao9 t375.length co9)] 29 (0, 0))) ∧ Aside0 (w'.heap[gb389]? = some (.cells #[.int .i64 t374, u390001] 29 (0, 0))) ∧ Aside0 (Below w.heap.size w w'))
         case atStart => exact ⟨(0), (([] : List (List Int))), (.slice none 0 0), rsd, H', ⟨Nat.le_refl _⟩, ⟨by (with_reducible repeat (first | apply Kd.R_alloc | apply Kd.R_drewN | apply Kd.R_drew)); exact Kd.R_mono (Kd.R_far (p := ⟨gb389, 1, none⟩) (Kd.R_far (p := ⟨gb389, 0, none⟩) (Kd.R_types HO_4.out BK389.out (by decide)) (fun _ hk => hk.2) (.int .i64 t374)) (fun _ hk => hk.2) (.slice none 0 0)) (fun _ hk => trivial)⟩, ⟨by (with_reducible repeat (first | apply Kd.R_alloc | apply Kd.R_drewN | apply Kd.R_drew)); exact Kd.R_mono (Kd.R_far (p := ⟨gb389, 1, none⟩) (Kd.R_far (p := ⟨gb389, 0, none⟩) (Kd.R_types HO_4.out BK389.out (by decide)) (fun _ hk => hk.2) (.int .i64 t374)) (fun _ hk => hk.2) (.slice none 0 0)) (fun _ hk => trivial)⟩, ⟨by (with_reducible repeat (first | apply Kd.N_alloc | apply Kd.N_drewN | apply Kd.N_drew)); exact Kd.N_mono (Kd.N_far (p := ⟨gb389, 1, none⟩) (Kd.N_far (p := ⟨gb389, 0, none⟩) (Kd.N_mono HO_379001.out (fun k_ hk => (⟨hk, hk.2⟩ : _ ∧ k_ ≠ gb389))) (fun _ hk => hk.2) (.int .i64 t374)) (fun _ hk => hk.2) (.slice none 0 0)) (fun _ hk => ⟨hk.1.1.1, ⟨hk.1.1.1, ⟨(by simp [Value.ownBlock]), ⟨hk.1.1.2, hk.1.2⟩⟩⟩⟩)⟩, ⟨by first | exact Kd.S_nil _ _ _ _ _ | exact Kd.N_nil _ _ _ _ _ | exact Kd.V_nil _ _ _ _ _ | exact Kd.Q_nil _ _ _ _ _ | exact Kd.R_nil _ _ _ _ _⟩, ⟨by (with_reducible repeat (first | refine blk_drewN ?_ _ | refine blk_drew ?_ | refine blk_alloc ?_ _)); refine blk_far ?_ NB378_389.out _; (with_reducible repeat (first | refine blk_drewN ?_ _ | refine blk_drew ?_ | refine blk_alloc ?_ _)); refine blk_far ?_ NB378_389.out _; (with_reducible repeat (first | refine blk_drewN ?_ _ | refine blk_drew ?_ | refine blk_alloc ?_ _)); exact BK378.out⟩, ⟨by (with_reducible repeat (first | refine blk_drewN ?_ _ | refine blk_drew ?_ | refine blk_alloc ?_ _)); refine blk_put (cs := #[.int .i64 t374, .slice none 0 0]) ?_ 1 _ rfl; (with_reducible repeat (first | refine blk_drewN ?_ _ | refine blk_drew ?_ | refine blk_alloc ?_ _)); refine blk_put (cs := #[.int .i64 0, .slice none 0 0]) ?_ 0 _ rfl; (with_reducible repeat (first | refine blk_drewN ?_ _ | refine blk_drew ?_ | refine blk_alloc ?_ _)); exact BK389.out⟩, ⟨by repeat (first | (with_reducible first | exact HB.out | apply bwA | apply bwN | apply bwD | refine below_set ?_ GE378.out | refine below_set ?_ GE389.out) | exact HB.out)⟩⟩
         case round =>
          clear H'
          try clear c1
          try clear c2
          try clear c2b0
          try clear c2b1
          try clear p2
          try clear c3
          try clear c4
          try clear c10
          try clear c15
          try clear c23
          try clear c28
          try clear c30
          try clear c30b0
          try clear c30b1
          try clear c33
          try clear c33b0
          try clear c37
          try clear c38
          try clear hcz11_0
          try clear hcz11_1
          try clear hcz31_0
          try clear hcz31_1
          try clear hcz35_0
          try clear hcz35_1
          try clear hcz38_0
          try clear hcz38_1
          try clear hcz8_0
          try clear hcz8_1
          try clear hfz11_0
          try clear hfz11_1
          try clear hfz31_0
          try clear hfz31_1
          try clear hfz35_0
          try clear hfz35_1
          try clear hfz38_0
          try clear hfz38_1
          try clear hfz8_0
          try clear hfz8_1
          try clear p2
          obtain ⟨x45_3, x390001_3, u390001, rfl, HA, HK3, HO_4, HO_43, HO_379001, HO_390001, BK378, BK389, HB⟩ := hrel
          cases gk with
          | zero => exact absurd HA.out (by simp [laws_FnCoreOf.l1])
          | succ k3 =>
           have H := HA.out
           clear HA
           simp only [laws_FnCoreOf.l1] at H
           by_cases c39 : x45_3 < (t379.length : Int)
           ·rw [if_pos c39] at H
            have c39b0 : decide (x45_3 < (t379.length : Int)) = true := decide_eq_true c39
            clear c39
            by_cases c40 : 0 ≤ x45_3
            ·rw [if_pos c40] at H
             have c40b0 : decide (0 ≤ x45_3) = true := decide_eq_true c40
             clear c40
             by_cases c41 : x45_3 < (t379.length : Int)
             ·rw [if_pos c41] at H
              have c41b0 : decide (x45_3 < (t379.length : Int)) = true := decide_eq_true c41
              clear c41
              by_cases c42 : x45_3 = x5_2
              ·rw [if_pos c42] at H
               have c42b0 : (x45_3 == x5_2) = true := beq_iff_eq.mpr c42
               have c42b1 : (x45_3 != x5_2) = false := bne_eq_false_iff_eq.mpr c42
               clear c42
               have H' := Aside0.mk H
               clear H
               have p390 : 0 ≤ (x45_3 : Int) := oda
               have q390 : x45_3 < (t379.length : Int) := oda
               obtain ⟨ad390, e390, hx390_0⟩ := Kd.at_int (Kd.R_reads' HO_43.out).2.2 x45_3 p390 q390
               cases e390
               replace p390 := eq_true p390
               replace q390 := eq_true q390
               go_wp2
               go_roundg k3
               case measure => have := HJ4.out; have := HK2.out; have := HK3.out; omega
               case rel => exact ⟨(wrap64 (x45_3 + 1)), (x390001_3), (u390001), rsd, H', ⟨by have := HJ4.out; have := HK2.out; have := HK3.out; omega⟩, ⟨rvR HO_4.out⟩, ⟨rvR HO_43.out⟩, ⟨by (with_reducible repeat (first | apply Kd.N_alloc | apply Kd.N_drewN | apply Kd.N_drew)); exact HO_379001.out⟩, ⟨by (with_reducible repeat (first | apply Kd.N_alloc | apply Kd.N_drewN | apply Kd.N_drew)); exact HO_390001.out⟩, ⟨bvK BK378.out⟩, ⟨bvK BK389.out⟩, ⟨by repeat (first | (with_reducible first | exact HB.out | apply bwA | apply bwN | apply bwD | refine below_set ?_ GE378.out | refine below_set ?_ GE389.out) | exact HB.out)⟩⟩
              ·rw [if_neg c42] at H
               have c42b0 : (x45_3 == x5_2) = false := beq_eq_false_iff_ne.mpr c42
               have c42b1 : (x45_3 != x5_2) = true := bne_iff_ne.mpr c42
               by_cases c43 : 0 ≤ (rd t379 x45_3)
               ·rw [if_pos c43] at H
                have c43b0 : decide (0 ≤ (rd t379 x45_3)) = true := decide_eq_true c43
                clear c43
                by_cases c44 : (rd t379 x45_3) < (t375.length : Int)
                ·rw [if_pos c44] at H
                 have c44b0 : decide ((rd t379 x45_3) < (t375.length : Int)) = true := decide_eq_true c44
                 clear c44
                 by_cases c45 : x390001_3.length < 5864062014805
                 ·rw [if_pos c45] at H
                  have LMc45 := Aside0.mk c45
                  clear c45
                  obtain ⟨y392, hy392⟩ : ∃ y_ : List (List Int), y_ = (x390001_3 ++ [rd_L1 t375 (rd t379 x45_3)]) := ⟨_, rfl⟩
                  replace H : (laws_FnCoreOf.l1 k3 t379 x5_2 t379 (t379.length : Int) (wrap64 (x45_3 + 1)) t374 t375 t374 y392) = some r := by first | (rw [hy392]; with_reducible exact H) | (have H2_ := (Option.bind_some _ _).symm.trans H; rw [hy392]; with_reducible exact H2_) | (have H2_ := (Option.bind_some _ _).symm.trans H; with_reducible exact H2_) | with_reducible exact H | (rw [hy392]; exact H) | exact H
                  have Ny392 := Aside0.mk hy392
                  clear hy392
                  have H' := Aside0.mk H
                  clear H
                  have p390 : 0 ≤ (x45_3 : Int) := oda
                  have q390 : x45_3 < (t379.length : Int) := oda
                  obtain ⟨ad390, e390, hx390_0⟩ := Kd.at_int (Kd.R_reads' HO_43.out).2.2 x45_3 p390 q390
                  cases e390
                  replace p390 := eq_true p390
                  replace q390 := eq_true q390
                  try go_wp2
                  have n0_ := Aside0.mk (Kd.R_drew HO_4.out)
                  have n1_ := Aside0.mk (Kd.R_drew HO_43.out)
                  have n2_ := Aside0.mk (Kd.N_drew HO_379001.out)
                  have n3_ := Aside0.mk (Kd.N_drew HO_390001.out)
                  have n4_ := Aside0.mk (blk_drew BK378.out)
                  have n5_ := Aside0.mk (blk_drew BK389.out)
                  have n6_ := Aside0.mk (below_drew1 HB.out)
                  clear HO_4
                  clear HO_43
                  clear HO_379001
                  clear HO_390001
                  clear BK378
                  clear BK389
                  clear HB
                  have HO_4 := n0_
                  have HO_43 := n1_
                  have HO_379001 := n2_
                  have HO_390001 := n3_
                  have BK378 := n4_
                  have BK389 := n5_
                  have HB := n6_
                  clear n0_ n1_ n2_ n3_ n4_ n5_ n6_
                  have p391 : 0 ≤ ((rd t379 x45_3) : Int) := oda
                  have q391 : (rd t379 x45_3) < (t375.length : Int) := oda
                  obtain ⟨ad391, A391_0, c391_0, e391, hx391_0, hl391_0, hi391_0⟩ := at_L1 (Kd.N_reads' HO_379001.out).2.2 (rd t379 x45_3) p391 q391
                  cases e391
                  obtain ⟨ce391, hce391, hMe391, hcc391⟩ := Kd.N_get HO_379001.out [] (rd t379 x45_3) p391 (by first | exact q391 | exact oda | (have e_ := (Kd.N_reads' HO_379001.out).1; omega))
                  obtain ⟨ua391_0, uc391_0, rfl, ul391_0, ge391_0⟩ := Kd.FK_slice_open hMe391
                  have hv391_0 := hcc391 0 _ rfl
                  rw [Nat.add_zero, show ((Kd.slice 3 (Kd.int .i64))).sz = 1 from rfl, Nat.mul_one] at hv391_0
                  replace hv391_0 := Option.some.inj (hv391_0.symm.trans hx391_0)
                  injection hv391_0 with hva_ hvn_ hvc_
                  rw [hva_] at ge391_0
                  rw [hvc_] at ul391_0
                  have HL391_0 := Aside0.mk (show Kd.V (Kd.int .i64) 3 _ w.heap.size _ _ (rd_L1 t375 (rd t379 x45_3)) from Kd.V_mk ul391_0 ge391_0)
                  clear hva_ hvn_ hvc_ ge391_0 ul391_0
                  clear hcc391 hce391
                  have HR391_0 := Aside0.mk hi391_0
                  have HC391_0 := Aside0.mk hl391_0
                  clear hi391_0 hl391_0
                  replace p391 := eq_true p391
                  replace q391 := eq_true q391
                  refine start_ (n := 11) (S := fun w' => w'.cell? ⟨gb389, 0, none⟩ = some (.int .i64 t374) ∧ w'.cell? ⟨gb389, 1, none⟩ = some (u390001) ∧ w'.cell? ⟨gb378, 0, none⟩ = some (.int .i64 t374) ∧ w'.cell? ⟨gb378, 1, none⟩ = some (.slice (some ad391) t375.length co9) ∧ w'.cell? (ad391.add ((rd t379 x45_3)).toNat) = some (.slice A391_0 (rd_L1 t375 (rd t379 x45_3)).length c391_0)) (ds := [8, 10]) #[false, false, false, false, false, false, false, false, false, false, false] (by kernel_rfl) rfl rfl ⟨(blk_cell BK389.out 0).trans rfl, (blk_cell BK389.out 1).trans rfl, (blk_cell BK378.out 0).trans rfl, (blk_cell BK378.out 1).trans rfl, hx391_0⟩ (fun hHeld => ?_); refine with_tabW laws_FnCoreOf.tab17 laws_FnCoreOf.bits17 (fun HT_ HW_ => ?_)
                  generalize wr.drew = w46 at HO_4 HO_43 HO_379001 HO_390001 BK378 BK389 HB HL391_0 HR391_0 hx391_0 hHeld ⊢
                  refine pure_ (i := 0) (N := some 53) (v := ?_) (a' := ?_) #[true, false, false, false, false, false, false, false, false, false, false] rfl rfl (any_of HT_.out (by kernel_rfl)) (fun _ _ _ h => h) (Or.inl ⟨by rfl, ?_⟩) ?_ ?_
                  rotate_left
                  ·intro w'
                   go_simp
                   with_reducible rfl
                  rotate_left
                  ·simp only [Act.put, List.setIfInBounds_toArray, List.set_cons_zero, List.set_cons_succ, i64_w, i32_w]
                   rfl
                  refine pure_ (i := 2) (N := some 55) (v := ?_) (a' := ?_) #[true, false, true, false, false, false, false, false, false, false, false] rfl rfl (any_of HT_.out (by kernel_rfl)) (fun _ _ _ h => h) (Or.inl ⟨by rfl, ?_⟩) ?_ ?_
                  rotate_left
                  ·intro w'
                   go_simp
                   with_reducible rfl
                  rotate_left
                  ·simp only [Act.put, List.setIfInBounds_toArray, List.set_cons_zero, List.set_cons_succ, i64_w, i32_w]
                   rfl
                  refine pure_ (i := 4) (N := some 57) (v := ?_) (a' := ?_) #[true, false, true, false, true, false, false, false, false, false, false] rfl rfl (any_of HT_.out (by kernel_rfl)) (fun _ _ _ h => h) (Or.inl ⟨by rfl, ?_⟩) ?_ ?_
                  rotate_left
                  ·intro w'
                   go_simp
                   with_reducible rfl
                  rotate_left
                  ·simp only [Act.put, List.setIfInBounds_toArray, List.set_cons_zero, List.set_cons_succ, i64_w, i32_w]
                   rfl
                  refine take_ (i := 1) (N := some 54) (v := ?_) (a' := ?_) #[true, true, true, false, true, false, false, false, false, false, false] rfl rfl (take_ofW HT_.out HW_.out (by kernel_rfl)) (fun _ _ _ h => h) (Or.inl ⟨by rfl, ?_⟩) hHeld ?_ ?_
                  rotate_left
                  ·rintro w' ⟨s0, s1, s2, s3, s4⟩
                   go_simp
                   with_reducible rfl
                  rotate_left
                  ·simp only [Act.put, List.setIfInBounds_toArray, List.set_cons_zero, List.set_cons_succ, i64_w, i32_w]
                   rfl
                  refine take_ (i := 3) (N := some 56) (v := ?_) (a' := ?_) #[true, true, true, true, true, false, false, false, false, false, false] rfl rfl (take_ofW HT_.out HW_.out (by kernel_rfl)) (fun _ _ _ h => h) (Or.inl ⟨by rfl, ?_⟩) hHeld ?_ ?_
                  rotate_left
                  ·rintro w' ⟨s0, s1, s2, s3, s4⟩
                   go_simp
                   with_reducible rfl
                  rotate_left
                  ·simp only [Act.put, List.setIfInBounds_toArray, List.set_cons_zero, List.set_cons_succ, i64_w, i32_w]
                   rfl
                  refine pure_ (i := 5) (N := some 58) (v := ?_) (a' := ?_) #[true, true, true, true, true, true, false, false, false, false, false] rfl rfl (any_of HT_.out (by kernel_rfl)) (fun _ _ _ h => h) (Or.inl ⟨by rfl, ?_⟩) ?_ ?_
                  rotate_left
                  ·intro w'
                   go_simp
                   with_reducible rfl
                  rotate_left
                  ·simp only [Act.put, List.setIfInBounds_toArray, List.set_cons_zero, List.set_cons_succ, i64_w, i32_w]
                   rfl
                  refine take_ (i := 6) (N := some 59) (v := ?_) (a' := ?_) #[true, true, true, true, true, true, true, false, false, false, false] rfl rfl (take_ofW HT_.out HW_.out (by kernel_rfl)) (fun _ _ _ h => h) (Or.inl ⟨by rfl, ?_⟩) hHeld ?_ ?_
                  rotate_left
                  ·rintro w' ⟨s0, s1, s2, s3, s4⟩
                   go_simp
                   with_reducible rfl
                  rotate_left
                  ·simp only [Act.put, List.setIfInBounds_toArray, List.set_cons_zero, List.set_cons_succ, i64_w, i32_w]
                   rfl
                  refine one_ (i := 7) (N := some 60) #[true, true, true, true, true, true, true, true, false, false, false] rfl rfl (one_of HT_.out (by kernel_rfl)) (by decide) (fun K hK => ?_)
                  refine value_ (w1 := ?_) (v := ?_) (by rfl) rfl ?_ ?_
                  rotate_left 2
                  ·go_simp
                   constructor
                   ·rfl
                   ·rfl
                  refine hK.out _ _ ⟨(blk_cell (blk_alloc BK389.out _) 0).trans rfl, (blk_cell (blk_alloc BK389.out _) 1).trans rfl, (blk_cell (blk_alloc BK378.out _) 0).trans rfl, (blk_cell (blk_alloc BK378.out _) 1).trans rfl, (World.cell?_alloc_lt _ _ _ (World.block_lt_of_cell? _ _ (hHeld.2.2.2.2))).trans (hHeld.2.2.2.2)⟩ (fun hHeld => ?_)
                  clear hK K
                  refine norm_ (a' := ?_) ?_ ?_
                  rotate_left
                  ·show Act.put _ (some 60) _ = _
                   simp only [Act.put, List.setIfInBounds_toArray, List.set_cons_zero, List.set_cons_succ, i64_w, i32_w]
                   rfl
                  refine last_ (i := 8) (N := some 61) #[true, true, true, true, true, true, true, true, true, false, false] rfl rfl (one_of HT_.out (by kernel_rfl)) (by decide) (fun K hK => ?_)
                  refine Kd.N_append_step (Kd.slice 3 (Kd.int .i64)) (w0 := w) w.heap.size (by rfl) (.tmp 54) (.tmp 60) 22 25 (.slice none 0 0) 24 rfl Try.underlying22 info25 rfl (by decide) (by omega) u390001 x390001_3 (rd_L1 t375 (rd t379 x45_3)) [.slice A391_0 (rd_L1 t375 (rd t379 x45_3)).length c391_0] (fun k_ => some k_ ≠ (.slice (some ad390) t379.length co34 : Value).ownBlock ∧ some k_ ≠ (.slice (some ad390) t379.length co34 : Value).ownBlock ∧ some k_ ≠ (.slice (some ad391) t375.length co9 : Value).ownBlock ∧ k_ ≠ gb378 ∧ k_ ≠ gb389) (fun k_ => ((fun k_ => some k_ ≠ (.slice (some ad390) t379.length co34 : Value).ownBlock ∧ some k_ ≠ (.slice (some ad390) t379.length co34 : Value).ownBlock ∧ some k_ ≠ (.slice (some ad391) t375.length co9 : Value).ownBlock ∧ k_ ≠ gb378 ∧ k_ ≠ gb389)) k_ ∧ some k_ ≠ (u390001 : Value).ownBlock) rfl rfl ?aP (fun _ hk => hk) ?aF ?aO ?aB ?aS ?aL ?_
                  (case aP => exact (Kd.FK_slice_mk (Kd.V_reads' (Kd.V_mono (ok' := (fun k_ => ((fun k_ => some k_ ≠ (.slice (some ad390) t379.length co34 : Value).ownBlock ∧ some k_ ≠ (.slice (some ad390) t379.length co34 : Value).ownBlock ∧ some k_ ≠ (.slice (some ad391) t375.length co9 : Value).ownBlock ∧ k_ ≠ gb378 ∧ k_ ≠ gb389)) k_ ∧ some k_ ≠ (u390001 : Value).ownBlock)) (HL391_0.out) (fun k_ hk => ⟨⟨hk.1.1, ⟨hk.1.2.1, ⟨hk.2, ⟨hk.1.2.2.2.1, hk.1.2.2.2.2⟩⟩⟩⟩, hk.1.2.2.1⟩))).2.1 (Kd.V_F (Kd.V_mono (ok' := (fun k_ => ((fun k_ => some k_ ≠ (.slice (some ad390) t379.length co34 : Value).ownBlock ∧ some k_ ≠ (.slice (some ad390) t379.length co34 : Value).ownBlock ∧ some k_ ≠ (.slice (some ad391) t375.length co9 : Value).ownBlock ∧ k_ ≠ gb378 ∧ k_ ≠ gb389)) k_ ∧ some k_ ≠ (u390001 : Value).ownBlock)) (HL391_0.out) (fun k_ hk => ⟨⟨hk.1.1, ⟨hk.1.2.1, ⟨hk.2, ⟨hk.1.2.2.2.1, hk.1.2.2.2.2⟩⟩⟩⟩, hk.1.2.2.1⟩)))))
                  (case aB => exact (by repeat (first | (with_reducible first | exact HB.out | apply bwA | apply bwN | apply bwD | refine below_set ?_ GE378.out | refine below_set ?_ GE389.out) | exact HB.out)))
                  (case aF => exact (fun k_ hk => ⟨Kd.fresh' (Kd.R_lt (rvR HO_4.out)) k_ hk, Kd.fresh' (Kd.R_lt (rvR HO_43.out)) k_ hk, Kd.fresh' (Kd.N_lt (by (with_reducible repeat (first | apply Kd.N_alloc | apply Kd.N_drewN | apply Kd.N_drew)); exact HO_379001.out)) k_ hk, Kd.freshB (g := gb378) (o := .cells #[.int .i64 t374, .slice (some ad391) t375.length co9] 29 (0, 0)) (bvK BK378.out) k_ hk, Kd.freshB (g := gb389) (o := .cells #[.int .i64 t374, u390001] 29 (0, 0)) (bvK BK389.out) k_ hk⟩))
                  (case aO => exact (by (with_reducible repeat (first | apply Kd.N_alloc | apply Kd.N_drewN | apply Kd.N_drew)); exact HO_390001.out))
                  (case aS => exact (below_size (by repeat (first | (with_reducible first | exact HB.out | apply bwA | apply bwN | apply bwD | refine below_set ?_ GE378.out | refine below_set ?_ GE389.out) | exact HB.out))))
                  (case aL => have := LMc45.out; omega)
                  intro v393 w47 ho hb hg hat
                  rw [← Ny392.out] at ho
                  have n0_ := Aside0.mk (Kd.R_over' (rvR HO_4.out) (Kd.N_typed (by (with_reducible repeat (first | apply Kd.N_alloc | apply Kd.N_drewN | apply Kd.N_drew)); exact HO_390001.out)) (by decide) hg)
                  have n1_ := Aside0.mk (Kd.R_over' (rvR HO_43.out) (Kd.N_typed (by (with_reducible repeat (first | apply Kd.N_alloc | apply Kd.N_drewN | apply Kd.N_drew)); exact HO_390001.out)) (by decide) hg)
                  have n2_ := Aside0.mk (Kd.N_afterv (ok := (fun k_ => some k_ ≠ (.slice (some ad390) t379.length co34 : Value).ownBlock ∧ some k_ ≠ (.slice (some ad390) t379.length co34 : Value).ownBlock ∧ k_ ≠ gb378 ∧ k_ ≠ gb389)) (by (with_reducible repeat (first | apply Kd.N_alloc | apply Kd.N_drewN | apply Kd.N_drew)); exact Kd.N_mono HO_379001.out (fun _ hk => ⟨⟨hk.1, ⟨hk.2.1, ⟨hk.2.2.2.1, hk.2.2.2.2⟩⟩⟩, hk.2.2.1⟩)) hg hat)
                  have n3_ := Aside0.mk (blk_grown (g := gb378) (o := .cells #[.int .i64 t374, .slice (some ad391) t375.length co9] 29 (0, 0)) (bvK BK378.out) hg (Kd.N_ne HO_390001.out BK378.out (by decide)))
                  have n4_ := Aside0.mk (blk_grown (g := gb389) (o := .cells #[.int .i64 t374, u390001] 29 (0, 0)) (bvK BK389.out) hg (Kd.N_ne HO_390001.out BK389.out (by decide)))
                  have n5_ := Aside0.mk (Kd.V_afterv (ok := (fun k_ => some k_ ≠ (.slice (some ad390) t379.length co34 : Value).ownBlock ∧ some k_ ≠ (.slice (some ad390) t379.length co34 : Value).ownBlock ∧ some k_ ≠ (.slice (some ad391) t375.length co9 : Value).ownBlock ∧ k_ ≠ gb378 ∧ k_ ≠ gb389)) (by (with_reducible repeat (first | apply Kd.V_alloc | apply Kd.V_drewN | apply Kd.V_drew)); exact Kd.V_mono HL391_0.out (fun _ hk => ⟨⟨hk.1.1, ⟨hk.1.2.1, ⟨hk.2, ⟨hk.1.2.2.2.1, hk.1.2.2.2.2⟩⟩⟩⟩, hk.1.2.2.1⟩)) hg hat)
                  have n6_ := Aside0.mk (hb)
                  have n7_ := Aside0.mk (ho)
                  clear HO_4
                  clear HO_43
                  clear HO_379001
                  clear BK378
                  clear BK389
                  clear HL391_0
                  clear HB
                  clear HO_390001
                  have HO_4 := n0_
                  have HO_43 := n1_
                  have HO_379001 := n2_
                  have BK378 := n3_
                  have BK389 := n4_
                  have HL391_0 := n5_
                  have HB := n6_
                  have HO394 := n7_
                  clear n0_ n1_ n2_ n3_ n4_ n5_ n6_ n7_
                  clear ho hb hg hat
                  obtain ⟨Ao48, co48, eo48⟩ := Kd.N_slice HO394.out
                  (first | subst eo48 | (injection eo48 with f1_ f2_ f3_; have f4_ := f1_.symm; have f5_ := f3_.symm; clear f1_ f2_ f3_; subst f4_; subst f5_))
                  refine hK.out _ _ ?_
                  clear hK K
                  refine norm_ (a' := ?_) ?_ ?_
                  rotate_left
                  ·show Act.put _ (some 61) _ = _
                   simp only [Act.put, List.setIfInBounds_toArray, List.set_cons_zero, List.set_cons_succ, i64_w, i32_w]
                   rfl
                  refine pure_ (i := 9) (N := some 62) (v := ?_) (a' := ?_) #[true, true, true, true, true, true, true, true, true, true, false] rfl rfl (any_of HT_.out (by kernel_rfl)) (fun _ _ _ h => h) (Or.inl ⟨by rfl, ?_⟩) ?_ ?_
                  rotate_left
                  ·intro w'
                   go_simp
                   with_reducible rfl
                  rotate_left
                  ·simp only [Act.put, List.setIfInBounds_toArray, List.set_cons_zero, List.set_cons_succ, i64_w, i32_w]
                   rfl
                  refine last_ (i := 10) (N := none) #[true, true, true, true, true, true, true, true, true, true, true] rfl rfl (one_of HT_.out (by kernel_rfl)) (by decide) (fun K hK => ?_)
                  have hs49 : w47.cell? ⟨gb389, 1, none⟩ = some (u390001) := (blk_cell BK389.out 1).trans rfl
                  have hfs49 := blk_frozen BK389.out 1
                  have hns49_0 := NB378_389.out
                  have hms49_0 := NB389_378.out
                  refine skip_ (w1 := ?_) (by rfl) rfl ?_ ?_
                  rotate_left
                  ·go_simp
                   rfl
                  refine hK.out _ _ ?_
                  clear hK K
                  refine done_ (done_of HT_.out (by kernel_rfl)) ?_
                  try go_wp2
                  go_roundg k3
                  case measure => have := HJ4.out; have := HK2.out; have := HK3.out; omega
                  case rel => exact ⟨(wrap64 (x45_3 + 1)), (y392), (.slice Ao48 y392.length co48), rsd, H', ⟨by have := HJ4.out; have := HK2.out; have := HK3.out; omega⟩, ⟨by (with_reducible repeat (first | apply Kd.R_alloc | apply Kd.R_drewN | apply Kd.R_drew)); exact Kd.R_mono (Kd.R_far (p := ⟨gb389, 1, none⟩) (Kd.R_types HO_4.out BK389.out (by decide)) (fun _ hk => hk.2) (.slice Ao48 y392.length co48)) (fun _ hk => trivial)⟩, ⟨by (with_reducible repeat (first | apply Kd.R_alloc | apply Kd.R_drewN | apply Kd.R_drew)); exact Kd.R_mono (Kd.R_far (p := ⟨gb389, 1, none⟩) (Kd.R_types HO_43.out BK389.out (by decide)) (fun _ hk => hk.2) (.slice Ao48 y392.length co48)) (fun _ hk => trivial)⟩, ⟨by (with_reducible repeat (first | apply Kd.N_alloc | apply Kd.N_drewN | apply Kd.N_drew)); exact Kd.N_mono (Kd.N_far (p := ⟨gb389, 1, none⟩) (Kd.N_mono HO_379001.out (fun k_ hk => (⟨hk, hk.1.2.2.2⟩ : _ ∧ k_ ≠ gb389))) (fun _ hk => hk.2) (.slice Ao48 y392.length co48)) (fun _ hk => ⟨hk.1.1.1, ⟨hk.1.1.2.1, ⟨hk.1.2, ⟨hk.1.1.2.2.1, hk.1.1.2.2.2⟩⟩⟩⟩)⟩, ⟨by (with_reducible repeat (first | apply Kd.N_alloc | apply Kd.N_drewN | apply Kd.N_drew)); exact Kd.N_mono (Kd.N_far (p := ⟨gb389, 1, none⟩) (Kd.N_mono HO394.out (fun k_ hk => (⟨hk, hk.2.2.2.2⟩ : _ ∧ k_ ≠ gb389))) (fun _ hk => hk.2) (.slice Ao48 y392.length co48)) (fun _ hk => ⟨hk.1.1, ⟨hk.1.2.1, ⟨hk.1.2.2.1, ⟨hk.1.2.2.2.1, hk.1.2.2.2.2⟩⟩⟩⟩)⟩, ⟨by (with_reducible repeat (first | refine blk_drewN ?_ _ | refine blk_drew ?_ | refine blk_alloc ?_ _)); refine blk_far ?_ NB378_389.out _; (with_reducible repeat (first | refine blk_drewN ?_ _ | refine blk_drew ?_ | refine blk_alloc ?_ _)); exact BK378.out⟩, ⟨by (with_reducible repeat (first | refine blk_drewN ?_ _ | refine blk_drew ?_ | refine blk_alloc ?_ _)); refine blk_put (cs := #[.int .i64 t374, u390001]) ?_ 1 _ rfl; (with_reducible repeat (first | refine blk_drewN ?_ _ | refine blk_drew ?_ | refine blk_alloc ?_ _)); exact BK389.out⟩, ⟨by repeat (first | (with_reducible first | exact HB.out | apply bwA | apply bwN | apply bwD | refine below_set ?_ GE378.out | refine below_set ?_ GE389.out) | exact HB.out)⟩⟩
                 ·rw [if_neg c45] at H
                  exact absurd H (by simp)
                ·rw [if_neg c44] at H
                 exact absurd H (by simp)
               ·rw [if_neg c43] at H
                exact absurd H (by simp)
             ·rw [if_neg c41] at H
              exact absurd H (by simp)
            ·rw [if_neg c40] at H
             exact absurd H (by simp)
           ·rw [if_neg c39] at H
            have c39b0 : decide (x45_3 < (t379.length : Int)) = false := decide_eq_false c39
            clear c39
            replace H := Option.bind_eq_some_iff.mp H
            obtain ⟨t395, A500, H⟩ := H
            replace H : (if ((t395 == 0) != (x5_2 == (-1))) = true then (some false) else (laws_FnCoreOf.l0 k3 t379 (wrap64 (x5_2 + 1)) t374 t375)) = some r := H
            have A50 := Aside0.mk A500
            clear A500
            by_cases c51 : ((t395 == 0) != (x5_2 == (-1))) = true
            ·rw [if_pos c51] at H
             have c51b0 : ((t395 == 0) != (x5_2 == (-1))) = true := c51
             (try (have c51b1 : decide ((t395 == 0) = (x5_2 == (-1))) = false := by simpa using c51))
             (try (have c51b2 : ((t395 == 0) == (x5_2 == (-1))) = false := by simpa using c51))
             (try (have c51b3 : ¬ ((t395 == 0) = (x5_2 == (-1))) := by simpa using c51))
             clear c51
             obtain rfl := Option.some.inj H
             have hnb52 := NB389_378.out
             have hnc52 := NB378_389.out
             have hcz53_0 : wr.cell? ⟨gb389, 0, none⟩ = some (.int .i64 t374) := (blk_cell BK389.out 0).trans rfl
             have hcz53_1 : wr.cell? ⟨gb389, 1, none⟩ = some (u390001) := (blk_cell BK389.out 1).trans rfl
             have hfz53_0 := blk_frozen BK389.out 0
             have hfz53_1 := blk_frozen BK389.out 1
             obtain ⟨Ao54, co54, eo54⟩ := Kd.N_slice HO_390001.out
             subst eo54
             go_wp2_with (first | ((with_reducible refine gate_callee (f := 38) rfl ?_); refine goesL_ (some 65) rfl rfl Try.func38 (by kernel_rfl) rfl #[.agg #[.int .i64 t374, .slice Ao54 x390001_3.length co54]] rfl lmB ?_; (with_reducible refine (impl_CountModels.calls k3 t374 _ _ x390001_3 t395 _ ?side1 ?side2 A50.out).mono ?_); (case side1 => repeat (first | exact (Kd.N_reads' HO_390001.out).2.2 | (with_reducible refine Kd.C_alloc ?_ _) | (with_reducible refine Kd.C_drewN ?_ _) | (with_reducible refine Kd.C_drew ?_))); (case side2 => exact (Kd.N_reads' HO_390001.out).2.1); rintro e w55 ⟨rfl, hb⟩; refine ⟨_, rfl, ?_⟩; have n0_ := Aside0.mk (Kd.R_below (rvR HO_4.out) hb); have n1_ := Aside0.mk (Kd.R_below (rvR HO_43.out) hb); have n2_ := Aside0.mk (Kd.N_below (by (with_reducible repeat (first | apply Kd.N_alloc | apply Kd.N_drewN | apply Kd.N_drew)); exact HO_379001.out) hb); have n3_ := Aside0.mk (Kd.N_below (by (with_reducible repeat (first | apply Kd.N_alloc | apply Kd.N_drewN | apply Kd.N_drew)); exact HO_390001.out) hb); have n4_ := Aside0.mk (blk_below (g := gb378) (o := .cells #[.int .i64 t374, .slice Ao9 t375.length co9] 29 (0, 0)) (bvK BK378.out) hb); have n5_ := Aside0.mk (blk_below (g := gb389) (o := .cells #[.int .i64 t374, .slice Ao54 x390001_3.length co54] 29 (0, 0)) (bvK BK389.out) hb); have n6_ := Aside0.mk (below_step (by repeat (first | (with_reducible first | exact HB.out | apply bwA | apply bwN | apply bwD | refine below_set ?_ GE378.out | refine below_set ?_ GE389.out) | exact HB.out)) hb); clear HO_4; clear HO_43; clear HO_379001; clear HO_390001; clear BK378; clear BK389; clear HB; have HO_4 := n0_; have HO_43 := n1_; have HO_379001 := n2_; have HO_390001 := n3_; have BK378 := n4_; have BK389 := n5_; have HB := n6_; clear n0_ n1_ n2_ n3_ n4_ n5_ n6_; (try clear hb); (try clear hb2); (try clear hk); (try clear hi)))
             go_ret
             exact ⟨ers, by repeat (first | (with_reducible first | exact HB.out | apply bwA | apply bwN | apply bwD | refine below_set ?_ GE378.out | refine below_set ?_ GE389.out) | exact HB.out)⟩
            ·rw [if_neg c51] at H
             have c51b0 : ((t395 == 0) != (x5_2 == (-1))) = false := by simpa using c51
             (try (have c51b1 : decide ((t395 == 0) = (x5_2 == (-1))) = true := by simpa using c51))
             (try (have c51b2 : ((t395 == 0) == (x5_2 == (-1))) = true := by simpa using c51))
             clear c51
             have H' := Aside0.mk H
             clear H
             have hnb56 := NB389_378.out
             have hnc56 := NB378_389.out
             have hcz57_0 : wr.cell? ⟨gb389, 0, none⟩ = some (.int .i64 t374) := (blk_cell BK389.out 0).trans rfl
             have hcz57_1 : wr.cell? ⟨gb389, 1, none⟩ = some (u390001) := (blk_cell BK389.out 1).trans rfl
             have hfz57_0 := blk_frozen BK389.out 0
             have hfz57_1 := blk_frozen BK389.out 1
             obtain ⟨Ao58, co58, eo58⟩ := Kd.N_slice HO_390001.out
             subst eo58
             go_wp2_with (first | ((with_reducible refine gate_callee (f := 38) rfl ?_); refine goesL_ (some 65) rfl rfl Try.func38 (by kernel_rfl) rfl #[.agg #[.int .i64 t374, .slice Ao58 x390001_3.length co58]] rfl lmB ?_; (with_reducible refine (impl_CountModels.calls k3 t374 _ _ x390001_3 t395 _ ?side1 ?side2 A50.out).mono ?_); (case side1 => repeat (first | exact (Kd.N_reads' HO_390001.out).2.2 | (with_reducible refine Kd.C_alloc ?_ _) | (with_reducible refine Kd.C_drewN ?_ _) | (with_reducible refine Kd.C_drew ?_))); (case side2 => exact (Kd.N_reads' HO_390001.out).2.1); rintro e w59 ⟨rfl, hb⟩; refine ⟨_, rfl, ?_⟩; have n0_ := Aside0.mk (Kd.R_below (rvR HO_4.out) hb); have n1_ := Aside0.mk (Kd.R_below (rvR HO_43.out) hb); have n2_ := Aside0.mk (Kd.N_below (by (with_reducible repeat (first | apply Kd.N_alloc | apply Kd.N_drewN | apply Kd.N_drew)); exact HO_379001.out) hb); have n3_ := Aside0.mk (Kd.N_below (by (with_reducible repeat (first | apply Kd.N_alloc | apply Kd.N_drewN | apply Kd.N_drew)); exact HO_390001.out) hb); have n4_ := Aside0.mk (blk_below (g := gb378) (o := .cells #[.int .i64 t374, .slice Ao9 t375.length co9] 29 (0, 0)) (bvK BK378.out) hb); have n5_ := Aside0.mk (blk_below (g := gb389) (o := .cells #[.int .i64 t374, .slice Ao58 x390001_3.length co58] 29 (0, 0)) (bvK BK389.out) hb); have n6_ := Aside0.mk (below_step (by repeat (first | (with_reducible first | exact HB.out | apply bwA | apply bwN | apply bwD | refine below_set ?_ GE378.out | refine below_set ?_ GE389.out) | exact HB.out)) hb); clear HO_4; clear HO_43; clear HO_379001; clear HO_390001; clear BK378; clear BK389; clear HB; have HO_4 := n0_; have HO_43 := n1_; have HO_379001 := n2_; have HO_390001 := n3_; have BK378 := n4_; have BK389 := n5_; have HB := n6_; clear n0_ n1_ n2_ n3_ n4_ n5_ n6_; (try clear hb); (try clear hb2); (try clear hk); (try clear hi)))
             go_roundg k3
             case measure => have := HJ4.out; have := HK2.out; have := HK3.out; omega
             case rel => exact ⟨(wrap64 (x5_2 + 1)), rsd, H', ⟨by have := HJ4.out; have := HK2.out; have := HK3.out; omega⟩, ⟨rvR HO_4.out⟩, ⟨by (with_reducible repeat (first | apply Kd.N_alloc | apply Kd.N_drewN | apply Kd.N_drew)); exact Kd.N_mono HO_379001.out (fun _ hk => ⟨hk.1, hk.2.2.2.1⟩)⟩, ⟨bvK BK378.out⟩, ⟨by repeat (first | (with_reducible first | exact HB.out | apply bwA | apply bwN | apply bwD | refine below_set ?_ GE378.out | refine below_set ?_ GE389.out) | exact HB.out)⟩⟩
        ·rw [if_neg c33] at H
         have c33b0 : decide (x5_2 < (t379.length : Int)) = false := decide_eq_false c33
         clear c33
         obtain rfl := Option.some.inj H
         obtain ⟨Ao60, co60, eo60⟩ := Kd.R_slice HO_4.out
         subst eo60
         (try rw [hl391_0] at c33b0)
         go_wp2
         go_ret
         exact ⟨ers, by repeat (first | (with_reducible first | exact HB.out | apply bwA | apply bwN | apply bwD | refine below_set ?_ GE378.out) | exact HB.out)⟩
     ·rw [if_neg c30] at H
      have c30b0 : (t388 == 0) = false := beq_eq_false_iff_ne.mpr c30
      have c30b1 : (t388 != 0) = true := bne_iff_ne.mpr c30
      obtain rfl := Option.some.inj H
      have hcz61_0 : wc.cell? ⟨gb378, 0, none⟩ = some (.int .i64 t374) := (blk_cell BK378.out 0).trans rfl
      have hcz61_1 : wc.cell? ⟨gb378, 1, none⟩ = some (.slice Ao9 t375.length co9) := (blk_cell BK378.out 1).trans rfl
      have hfz61_0 := blk_frozen BK378.out 0
      have hfz61_1 := blk_frozen BK378.out 1
      (try rw [hl391_0] at c33b0)
      go_wp2_with (first | ((with_reducible refine gate_callee (f := 38) rfl ?_); refine goesL_ (some 29) rfl rfl Try.func38 (by kernel_rfl) rfl #[.agg #[.int .i64 t374, .slice Ao9 t375.length co9]] rfl lmB ?_; (with_reducible refine (impl_CountModels.calls kj4 t374 _ _ t375 t388 _ ?side1 ?side2 A29.out).mono ?_); (case side1 => repeat (first | exact (Kd.N_reads' HO_379001.out).2.2 | (with_reducible refine Kd.C_alloc ?_ _) | (with_reducible refine Kd.C_drewN ?_ _) | (with_reducible refine Kd.C_drew ?_))); (case side2 => exact (Kd.N_reads' HO_379001.out).2.1); rintro e w62 ⟨rfl, hb⟩; refine ⟨_, rfl, ?_⟩; have n0_ := Aside0.mk (Kd.R_below (rvR HO_4.out) hb); have n1_ := Aside0.mk (Kd.N_below (by (with_reducible repeat (first | apply Kd.N_alloc | apply Kd.N_drewN | apply Kd.N_drew)); exact HO_379001.out) hb); have n2_ := Aside0.mk (blk_below (g := gb378) (o := .cells #[.int .i64 t374, .slice Ao9 t375.length co9] 29 (0, 0)) (bvK BK378.out) hb); have n3_ := Aside0.mk (below_step (by repeat (first | (with_reducible first | exact HB.out | apply bwA | apply bwN | apply bwD | refine below_set ?_ GE378.out) | exact HB.out)) hb); clear HO_4; clear HO_379001; clear BK378; clear HB; have HO_4 := n0_; have HO_379001 := n1_; have BK378 := n2_; have HB := n3_; clear n0_ n1_ n2_ n3_; (try clear hb); (try clear hb2); (try clear hk); (try clear hi); obtain ⟨Ao63, co63, eo63⟩ := Kd.R_slice HO_4.out; subst eo63))
      go_ret
      exact ⟨ers, by repeat (first | (with_reducible first | exact HB.out | apply bwA | apply bwN | apply bwD | refine below_set ?_ GE378.out) | exact HB.out)⟩

/-- THE ONE PURE STATEMENT of laws_FnCoreOf: yours. -/
def laws_FnCoreOf.Pure : Prop := ∀ (l0 : List Int), l0.length ≤ maxLen → l0.length * 1 ≤ 140737488351232 → (∀ x ∈ l0, (Lit.int .u8 x).wf = true) → ∃ k, laws_FnCoreOf.f k l0 = some true
theorem laws_FnCoreOf.walk (P : laws_FnCoreOf.Pure) (a0 : Option Addr) (len0 cap0 : Nat) (z0 : List Int) (w : World) (w0 : (a0 = none ∧ len0 = 0 ∧ cap0 = 0 ∧ z0 = []) ∨ ∃ x, a0 = some x ∧ len0 ≤ cap0 ∧ cap0 ≤ maxLen ∧ z0.length = cap0 ∧ (∀ i, i < z0.length → w.cell? (x.add i) = some (.int .u8 (z0.getD i 0))) ∧ ∀ n ∈ z0, (Lit.int .u8 n).wf = true) (y0 : len0 * 1 ≤ 140737488351232) :
  Calls Try.prog 10 #[.slice a0 len0 cap0] w fun e w' => e = .returned (.bool true) ∧ Below w.heap.size w w' := by
 obtain ⟨l0, rfl, hr0, hm0, hw0, hc0⟩ := ReadsInt.ofRowC w0
 obtain ⟨k, h⟩ := P l0 hm0 y0 hw0
 refine (laws_FnCoreOf.calls k _ _ l0 true w (Kd.C_of_reads (d := (0 : Int)) (h1 := fun _ => rfl) hr0) hc0 h).mono ?_
 rintro e w' ⟨rfl, hd⟩
 exact ⟨rfl, hd⟩

end Go.Proofs.Ytkfmgfdbdgjfiaa.QFnCoreOf
