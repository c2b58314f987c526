-- Written by a program of this session (mk.py). Lean checks it.
import Derived.Test.YtpcompnmadpljaaQFnDiagramSamex0
import Derived.Test.YtpcompnmadpljaaQFnDiagramSamex2
import Derived.Test.YtpcompnmadpljaaQFnDiagramSamex4
import Derived.Test.YtpcompnmadpljaaQFnDiagramSamex9
import Derived.Test.YtpcompnmadpljaaQFnDiagramSamex12
namespace Go.Proofs.Ytpcompnmadpljaa.QFnDiagramSame
open Go.RowKit Go.Proofs.YtpcompnmadpljaaW.PrintWords Go.Proofs.YtpcompnmadpljaaW.PrintLast Go.Proofs.YtpcompnmadpljaaW.PrintMore
attribute [local go_sem] max2_int min2_int max_two min_two max_three min_three max_four min_four   -- for this text's walks alone
set_option linter.unusedVariables false
set_option linter.unusedSimpArgs false

/-! ### laws_FnDiagramSame: function 10 -/
mutual
def laws_FnDiagramSame.j0 : Nat → Int → Int → Int → Int → Bool → Int → List (S71) → Int → List (S71) → Int → List (S71) → Option (Bool)
 | 0, _, _, _, _, _, _, _, _, _, _, _ => none
 | k + 1, x4, x5, x7, x9, x53, x298000, x298001, x304000, x304001, x310000, x310001 => if x53 = true then (if x7 = x9 then (if (x304001.length : Int) = (x310001.length : Int) then (some (x7 == (-1))) else (some false)) else (some false)) else ((impl_DiagramAnd.f k x304000 x304001 x5 x4).bind fun bt310 => (if 0 ≤ x304000 then (laws_FnDiagramSame.l0 k x4 x5 x7 bt310.2.2 (shl .i64 1 x304000) 0 x298000 x298001 x304000 x304001 bt310.1 bt310.2.1) else (none)))
def laws_FnDiagramSame.l0 : Nat → Int → Int → Int → Int → Int → Int → Int → List (S71) → Int → List (S71) → Int → List (S71) → Option (Bool)
 | 0, _, _, _, _, _, _, _, _, _, _, _, _ => none
 | k + 1, x4, x5, x7, x11, x79, x80, x298000, x298001, x304000, x304001, x316000, x316001 => if x80 < x79 then (laws_FnDiagramSame.l1 k x4 x5 x7 x11 x80 (([] : List Int)) x79 x80 x304000 0 x298000 x298001 x304000 x304001 x316000 x316001) else (if x11 = x7 then (if (x316001.length : Int) = (x304001.length : Int) then ((impl_DiagramValid.f x304000 x304001).bind fun t316 => (some t316)) else (some false)) else (some false))
def laws_FnDiagramSame.l1 : Nat → Int → Int → Int → Int → Int → List Int → Int → Int → Int → Int → Int → List (S71) → Int → List (S71) → Int → List (S71) → Option (Bool)
 | 0, _, _, _, _, _, _, _, _, _, _, _, _, _, _, _, _ => none
 | k + 1, x4, x5, x7, x11, x12, x13, x79, x80, x85, x86, x298000, x298001, x304000, x304001, x316000, x316001 => if x86 < x85 then (if 0 ≤ x86 then (if x13.length < 17592186044416 then (laws_FnDiagramSame.l1 k x4 x5 x7 x11 x12 (x13 ++ [Int.tmod (shr .i64 x12 x86) 2]) x79 x80 x85 (wrap64 (x86 + 1)) x298000 x298001 x304000 x304001 x316000 x316001) else (none)) else (none)) else ((impl_DiagramValue.f k x304000 x304001 x7 x13).bind fun t323 => ((impl_DiagramValue.f k x298000 x298001 x4 x13).bind fun t324 => ((impl_DiagramValue.f k x298000 x298001 x5 x13).bind fun t325 => (if t323 = (wrap64 (t324 * t325)) then (laws_FnDiagramSame.l0 k x4 x5 x7 x11 x79 (wrap64 (x80 + 1)) x298000 x298001 x304000 x304001 x316000 x316001) else (some false)))))
end
def laws_FnDiagramSame.f (k : Nat) (l0 : List Int) : Option (Bool) := if (l0.length : Int) > 1048576 then (some true) else ((spec_DrawDiagramAnd.f k l0).bind fun bt291 => ((impl_DiagramAnd.f k bt291.1 bt291.2.1 bt291.2.2.1 bt291.2.2.2).bind fun bt298 => ((spec_DiagramAnd.f k bt291.1 bt291.2.1 bt291.2.2.1 bt291.2.2.2).bind fun bt304 => (if bt298.2.2 = bt304.2.2 then (if (bt298.2.1.length : Int) = (bt304.2.1.length : Int) then (laws_FnDiagramSame.j0 k bt291.2.2.1 bt291.2.2.2 bt298.2.2 bt304.2.2 (decide (bt298.2.2 < 0)) bt291.1 bt291.2.1 bt298.1 bt298.2.1 bt304.1 bt304.2.1) else (laws_FnDiagramSame.j0 k bt291.2.2.1 bt291.2.2.2 bt298.2.2 bt304.2.2 true bt291.1 bt291.2.1 bt298.1 bt298.2.1 bt304.1 bt304.2.1)) else (laws_FnDiagramSame.j0 k bt291.2.2.1 bt291.2.2.2 bt298.2.2 bt304.2.2 true bt291.1 bt291.2.1 bt298.1 bt298.2.1 bt304.1 bt304.2.1)))))
theorem laws_FnDiagramSame.mono_l : ∀ k, (∀ y0 y1 y2 y3 y4 y5 y6 y7 y8 y9 y10, LeO (laws_FnDiagramSame.j0 k y0 y1 y2 y3 y4 y5 y6 y7 y8 y9 y10) (laws_FnDiagramSame.j0 (k + 1) y0 y1 y2 y3 y4 y5 y6 y7 y8 y9 y10)) ∧ (∀ y0 y1 y2 y3 y4 y5 y6 y7 y8 y9 y10 y11, LeO (laws_FnDiagramSame.l0 k y0 y1 y2 y3 y4 y5 y6 y7 y8 y9 y10 y11) (laws_FnDiagramSame.l0 (k + 1) y0 y1 y2 y3 y4 y5 y6 y7 y8 y9 y10 y11)) ∧ (∀ y0 y1 y2 y3 y4 y5 y6 y7 y8 y9 y10 y11 y12 y13 y14 y15, LeO (laws_FnDiagramSame.l1 k y0 y1 y2 y3 y4 y5 y6 y7 y8 y9 y10 y11 y12 y13 y14 y15) (laws_FnDiagramSame.l1 (k + 1) y0 y1 y2 y3 y4 y5 y6 y7 y8 y9 y10 y11 y12 y13 y14 y15))
 | 0 => ⟨fun _ _ _ _ _ _ _ _ _ _ _ r h => by simp [laws_FnDiagramSame.j0] at h, fun _ _ _ _ _ _ _ _ _ _ _ _ r h => by simp [laws_FnDiagramSame.l0] at h, fun _ _ _ _ _ _ _ _ _ _ _ _ _ _ _ _ r h => by simp [laws_FnDiagramSame.l1] at h⟩
 | k + 1 => by
  obtain ⟨ih0, ih1, ih2⟩ := laws_FnDiagramSame.mono_l k
  refine ⟨?_, ?_, ?_⟩
  ·intro y0 y1 y2 y3 y4 y5 y6 y7 y8 y9 y10
   unfold laws_FnDiagramSame.j0
   repeat' first
   | (with_reducible exact ih0 _ _ _ _ _ _ _ _ _ _ _)
   | (with_reducible exact ih1 _ _ _ _ _ _ _ _ _ _ _ _)
   | (with_reducible exact ih2 _ _ _ _ _ _ _ _ _ _ _ _ _ _ _ _)
   | (with_reducible exact impl_DiagramAnd.mono _ _ _ _ _)
   | (with_reducible exact impl_DiagramValue.mono _ _ _ _ _)
   | (with_reducible exact spec_DiagramAnd.mono _ _ _ _ _)
   | (with_reducible exact spec_DrawDiagramAnd.mono _ _)
   | (with_reducible exact LeO.refl _)
   | (with_reducible exact LeO.none _)
   | (with_reducible refine LeO.ite ?_ ?_)
   | (with_reducible refine LeO.bind ?_ (fun _ => ?_))
   | exact ih0 _ _ _ _ _ _ _ _ _ _ _
   | exact ih1 _ _ _ _ _ _ _ _ _ _ _ _
   | exact ih2 _ _ _ _ _ _ _ _ _ _ _ _ _ _ _ _
   | exact impl_DiagramAnd.mono _ _ _ _ _
   | exact impl_DiagramValue.mono _ _ _ _ _
   | exact spec_DiagramAnd.mono _ _ _ _ _
   | exact spec_DrawDiagramAnd.mono _ _
   | exact LeO.none _
   | refine LeO.ite ?_ ?_
   | refine LeO.bind ?_ (fun _ => ?_)
  ·intro y0 y1 y2 y3 y4 y5 y6 y7 y8 y9 y10 y11
   unfold laws_FnDiagramSame.l0
   repeat' first
   | (with_reducible exact ih0 _ _ _ _ _ _ _ _ _ _ _)
   | (with_reducible exact ih1 _ _ _ _ _ _ _ _ _ _ _ _)
   | (with_reducible exact ih2 _ _ _ _ _ _ _ _ _ _ _ _ _ _ _ _)
   | (with_reducible exact impl_DiagramAnd.mono _ _ _ _ _)
   | (with_reducible exact impl_DiagramValue.mono _ _ _ _ _)
   | (with_reducible exact spec_DiagramAnd.mono _ _ _ _ _)
   | (with_reducible exact spec_DrawDiagramAnd.mono _ _)
   | (with_reducible exact LeO.refl _)
   | (with_reducible exact LeO.none _)
   | (with_reducible refine LeO.ite ?_ ?_)
   | (with_reducible refine LeO.bind ?_ (fun _ => ?_))
   | exact ih0 _ _ _ _ _ _ _ _ _ _ _
   | exact ih1 _ _ _ _ _ _ _ _ _ _ _ _
   | exact ih2 _ _ _ _ _ _ _ _ _ _ _ _ _ _ _ _
   | exact impl_DiagramAnd.mono _ _ _ _ _
   | exact impl_DiagramValue.mono _ _ _ _ _
   | exact spec_DiagramAnd.mono _ _ _ _ _
   | exact spec_DrawDiagramAnd.mono _ _
   | exact LeO.none _
   | refine LeO.ite ?_ ?_
   | refine LeO.bind ?_ (fun _ => ?_)
  ·intro y0 y1 y2 y3 y4 y5 y6 y7 y8 y9 y10 y11 y12 y13 y14 y15
   unfold laws_FnDiagramSame.l1
   repeat' first
   | (with_reducible exact ih0 _ _ _ _ _ _ _ _ _ _ _)
   | (with_reducible exact ih1 _ _ _ _ _ _ _ _ _ _ _ _)
   | (with_reducible exact ih2 _ _ _ _ _ _ _ _ _ _ _ _ _ _ _ _)
   | (with_reducible exact impl_DiagramAnd.mono _ _ _ _ _)
   | (with_reducible exact impl_DiagramValue.mono _ _ _ _ _)
   | (with_reducible exact spec_DiagramAnd.mono _ _ _ _ _)
   | (with_reducible exact spec_DrawDiagramAnd.mono _ _)
   | (with_reducible exact LeO.refl _)
   | (with_reducible exact LeO.none _)
   | (with_reducible refine LeO.ite ?_ ?_)
   | (with_reducible refine LeO.bind ?_ (fun _ => ?_))
   | exact ih0 _ _ _ _ _ _ _ _ _ _ _
   | exact ih1 _ _ _ _ _ _ _ _ _ _ _ _
   | exact ih2 _ _ _ _ _ _ _ _ _ _ _ _ _ _ _ _
   | exact impl_DiagramAnd.mono _ _ _ _ _
   | exact impl_DiagramValue.mono _ _ _ _ _
   | exact spec_DiagramAnd.mono _ _ _ _ _
   | exact spec_DrawDiagramAnd.mono _ _
   | exact LeO.none _
   | refine LeO.ite ?_ ?_
   | refine LeO.bind ?_ (fun _ => ?_)
theorem laws_FnDiagramSame.mono : ∀ a0 k, LeO (laws_FnDiagramSame.f k a0) (laws_FnDiagramSame.f (k + 1) a0) := by
 intro a0 k
 obtain ⟨ih0, ih1, ih2⟩ := laws_FnDiagramSame.mono_l k
 unfold laws_FnDiagramSame.f
 repeat' first
   | (with_reducible exact ih0 _ _ _ _ _ _ _ _ _ _ _)
   | (with_reducible exact ih1 _ _ _ _ _ _ _ _ _ _ _ _)
   | (with_reducible exact ih2 _ _ _ _ _ _ _ _ _ _ _ _ _ _ _ _)
   | (with_reducible exact impl_DiagramAnd.mono _ _ _ _ _)
   | (with_reducible exact impl_DiagramValue.mono _ _ _ _ _)
   | (with_reducible exact spec_DiagramAnd.mono _ _ _ _ _)
   | (with_reducible exact spec_DrawDiagramAnd.mono _ _)
   | (with_reducible exact LeO.refl _)
   | (with_reducible exact LeO.none _)
   | (with_reducible refine LeO.ite ?_ ?_)
   | (with_reducible refine LeO.bind ?_ (fun _ => ?_))
   | exact ih0 _ _ _ _ _ _ _ _ _ _ _
   | exact ih1 _ _ _ _ _ _ _ _ _ _ _ _
   | exact ih2 _ _ _ _ _ _ _ _ _ _ _ _ _ _ _ _
   | exact impl_DiagramAnd.mono _ _ _ _ _
   | exact impl_DiagramValue.mono _ _ _ _ _
   | exact spec_DiagramAnd.mono _ _ _ _ _
   | exact spec_DrawDiagramAnd.mono _ _
   | exact LeO.none _
   | refine LeO.ite ?_ ?_
   | refine LeO.bind ?_ (fun _ => ?_)
def laws_FnDiagramSame.T18 : Bool × List (List Nat × List Nat) := (true, [([], []), ([], []), ([], []), ([0, 1, 2], [0, 1, 2]), ([], []), ([], []), ([], []), ([4, 5, 6, 3], [4, 5, 6]), ([], []), ([], []), ([], []), ([8, 9, 10, 7], [8, 9, 10]), ([7, 11], [7, 11]), ([3, 12], [3, 12])])
def laws_FnDiagramSame.B18 : List Nat := [0, 0, 0, 7, 0, 0, 0, 127, 0, 0, 0, 2047, 4095, 8191]
theorem laws_FnDiagramSame.tab18 : rtab .any (opsOf Try.f10 18) = laws_FnDiagramSame.T18 := by kernel_rfl
theorem laws_FnDiagramSame.bits18 : waitsOk laws_FnDiagramSame.T18.2 laws_FnDiagramSame.B18 = true := by kernel_rfl
set_option maxHeartbeats 8000000 in
set_option maxRecDepth 100000 in
theorem laws_FnDiagramSame.calls (k : Nat) (A0 : Option Addr) (c0 : Nat) (l0 : List Int) (r : Bool) (w : World) (hr0 : Kd.C (Kd.int .u8) w A0 l0.length l0) (hc0 : l0.length ≤ c0) (h : laws_FnDiagramSame.f k l0 = some r) :
  Calls Try.prog 10 #[.slice A0 l0.length c0] w fun e w' => e = .returned (.bool r) ∧ Below w.heap.size w w' := by
 have hu25 := Try.underlying25
 have HR0 := Aside0.mk hr0
 have HC0 := Aside0.mk hc0
 clear hr0 hc0
 have HB := Aside0.mk (Below.refl w.heap.size w)
 have H : (if (l0.length : Int) > 1048576 then (some true) else ((spec_DrawDiagramAnd.f k l0).bind fun bt291 => ((impl_DiagramAnd.f k bt291.1 bt291.2.1 bt291.2.2.1 bt291.2.2.2).bind fun bt298 => ((spec_DiagramAnd.f k bt291.1 bt291.2.1 bt291.2.2.1 bt291.2.2.2).bind fun bt304 => (if bt298.2.2 = bt304.2.2 then (if (bt298.2.1.length : Int) = (bt304.2.1.length : Int) then (laws_FnDiagramSame.j0 k bt291.2.2.1 bt291.2.2.2 bt298.2.2 bt304.2.2 (decide (bt298.2.2 < 0)) bt291.1 bt291.2.1 bt298.1 bt298.2.1 bt304.1 bt304.2.1) else (laws_FnDiagramSame.j0 k bt291.2.2.1 bt291.2.2.2 bt298.2.2 bt304.2.2 true bt291.1 bt291.2.1 bt298.1 bt298.2.1 bt304.1 bt304.2.1)) else (laws_FnDiagramSame.j0 k bt291.2.2.1 bt291.2.2.2 bt298.2.2 bt304.2.2 true bt291.1 bt291.2.1 bt298.1 bt298.2.1 bt304.1 bt304.2.1)))))) = some r := h
 clear h
 by_cases c2 : (l0.length : Int) > 1048576
 ·rw [if_pos c2] at H
  have c2b0 : decide (1048576 < (l0.length : Int)) = true := decide_eq_true c2
  have c2b1 : decide (1048576 < l0.length) = true := decide_eq_true (by omega)
  clear c2
  obtain rfl := Option.some.inj H
  go_enter Try.func10, Try.ntmps10
  go_wp2
  go_ret
  exact ⟨ers, by repeat (first | (with_reducible first | exact HB.out | apply bwA | apply bwN | apply bwD) | exact HB.out)⟩
 ·rw [if_neg c2] at H
  have c2b0 : decide (1048576 < (l0.length : Int)) = false := decide_eq_false c2
  have c2b1 : decide (1048576 < l0.length) = false := decide_eq_false (by omega)
  clear c2
  replace H := Option.bind_eq_some_iff.mp H
  obtain ⟨⟨t291, t292, t295, t296⟩, A30, H⟩ := H
  replace H : ((impl_DiagramAnd.f k t291 t292 t295 t296).bind fun bt298 => ((spec_DiagramAnd.f k t291 t292 t295 t296).bind fun bt304 => (if bt298.2.2 = bt304.2.2 then (if (bt298.2.1.length : Int) = (bt304.2.1.length : Int) then (laws_FnDiagramSame.j0 k t295 t296 bt298.2.2 bt304.2.2 (decide (bt298.2.2 < 0)) t291 t292 bt298.1 bt298.2.1 bt304.1 bt304.2.1) else (laws_FnDiagramSame.j0 k t295 t296 bt298.2.2 bt304.2.2 true t291 t292 bt298.1 bt298.2.1 bt304.1 bt304.2.1)) else (laws_FnDiagramSame.j0 k t295 t296 bt298.2.2 bt304.2.2 true t291 t292 bt298.1 bt298.2.1 bt304.1 bt304.2.1)))) = some r := H
  have A3 := Aside0.mk A30
  clear A30
  replace H := Option.bind_eq_some_iff.mp H
  obtain ⟨⟨t298, t299, t302⟩, A40, H⟩ := H
  replace H : ((spec_DiagramAnd.f k t291 t292 t295 t296).bind fun bt304 => (if t302 = bt304.2.2 then (if (t299.length : Int) = (bt304.2.1.length : Int) then (laws_FnDiagramSame.j0 k t295 t296 t302 bt304.2.2 (decide (t302 < 0)) t291 t292 t298 t299 bt304.1 bt304.2.1) else (laws_FnDiagramSame.j0 k t295 t296 t302 bt304.2.2 true t291 t292 t298 t299 bt304.1 bt304.2.1)) else (laws_FnDiagramSame.j0 k t295 t296 t302 bt304.2.2 true t291 t292 t298 t299 bt304.1 bt304.2.1))) = some r := H
  have A4 := Aside0.mk A40
  clear A40
  replace H := Option.bind_eq_some_iff.mp H
  obtain ⟨⟨t304, t305, t308⟩, A50, H⟩ := H
  replace H : (if t302 = t308 then (if (t299.length : Int) = (t305.length : Int) then (laws_FnDiagramSame.j0 k t295 t296 t302 t308 (decide (t302 < 0)) t291 t292 t298 t299 t304 t305) else (laws_FnDiagramSame.j0 k t295 t296 t302 t308 true t291 t292 t298 t299 t304 t305)) else (laws_FnDiagramSame.j0 k t295 t296 t302 t308 true t291 t292 t298 t299 t304 t305)) = some r := H
  have A5 := Aside0.mk A50
  clear A50
  have HC6 := Aside0.mk H
  clear H
  go_enter Try.func10, Try.ntmps10
  go_upto_region 6 with (first | ((with_reducible refine gate_callee (f := 37) rfl ?_); refine goesL_ (some 20) rfl rfl Try.func37 (by kernel_rfl) rfl #[.slice A0 l0.length c0] rfl lmB ?_; (with_reducible refine (spec_DrawDiagramAnd.calls k _ _ l0 t291 t292 t295 t296 _ ?side1 ?side2 A3.out).mono ?_); (case side1 => repeat (first | exact HR0.out | (with_reducible refine Kd.C_alloc ?_ _) | (with_reducible refine Kd.C_drewN ?_ _) | (with_reducible refine Kd.C_drew ?_))); (case side2 => exact HC0.out); rintro e w7 ⟨v293, rfl, ho0, hb⟩; refine ⟨_, rfl, ?_⟩; have n0_ := Aside0.mk (Kd.R_lower ho0 (below_size (by repeat (first | (with_reducible first | exact HB.out | apply bwA | apply bwN | apply bwD) | exact HB.out)))); have n1_ := Aside0.mk (below_step (by repeat (first | (with_reducible first | exact HB.out | apply bwA | apply bwN | apply bwD) | exact HB.out)) hb); clear HB; have HO294 := n0_; have HB := n1_; clear n0_ n1_; (try clear hb); (try clear hb2); (try clear hk); (try clear hi); (try clear ho0)) | ((with_reducible refine gate_dst (N := 3) rfl ?_); (try (refine gate_guard (by rfl) ?_; dsimp only)); refine box_event ?hg (N := 3) ?hd (cs := #[.int .i64 0, .slice none 0 0]) (t := 25) ?hr ?_; (case hd => rfl); (case hg => rfl); (case hr => first | (go_simp; done) | (go_simp; rfl)); intro gb297 hg w8 hbox hb; have n0_ := Aside0.mk (Kd.R_below (rvR HO294.out) hb); have n1_ := Aside0.mk (below_step (by repeat (first | (with_reducible first | exact HB.out | apply bwA | apply bwN | apply bwD) | exact HB.out)) hb); have n2_ := Aside0.mk (hbox); have n3_ := Aside0.mk ((by rw [hg]; exact (below_size (by repeat (first | (with_reducible first | exact HB.out | apply bwA | apply bwN | apply bwD) | exact HB.out))) : w.heap.size ≤ gb297)); have n4_ := Aside0.mk ((by rw [hg]; exact (below_size (by repeat (first | (with_reducible first | exact HB.out | apply bwA | apply bwN | apply bwD) | exact HB.out))) : w.heap.size ≤ gb297)); clear HO294; clear HB; have HO294 := n0_; have HB := n1_; have BK297 := n2_; have GW297 := n3_; have GE297 := n4_; clear n0_ n1_ n2_ n3_ n4_; clear hb hbox hg; have hcz9_0 : w8.cell? ⟨gb297, 0, none⟩ = some (.int .i64 0) := (blk_cell BK297.out 0).trans rfl; have hcz9_1 : w8.cell? ⟨gb297, 1, none⟩ = some (.slice none 0 0) := (blk_cell BK297.out 1).trans rfl; have hfz9_0 := blk_frozen BK297.out 0; have hfz9_1 := blk_frozen BK297.out 1; obtain ⟨Ao10, co10, eo10⟩ := Kd.R_slice HO294.out; subst eo10) | ((with_reducible refine gate_callee (f := 27) rfl ?_); refine goesL_ (some 28) rfl rfl Try.func27 (by kernel_rfl) rfl #[.agg #[.int .i64 t291, .slice Ao10 t292.length co10], .int .i64 t295, .int .i64 t296] rfl lmB ?_; (with_reducible refine (impl_DiagramAnd.calls k t291 _ _ t292 t295 t296 t298 t299 t302 _ ?side1 ?side2 A4.out).mono ?_); (case side1 => refine (Kd.R_reads' (e := 71) (base := w.heap.size) (ok := fun k_ => True) (n := t292.length) (c := co10) ?_).2.2; exact (by (with_reducible repeat (first | apply Kd.R_alloc | apply Kd.R_drewN | apply Kd.R_drew)); exact (Kd.R_mono (Kd.R_far (p := ⟨gb297, 1, none⟩) (Kd.R_far (p := ⟨gb297, 0, none⟩) (Kd.R_types HO294.out BK297.out (by decide)) (fun _ hk => hk.2) (.int .i64 t291)) (fun _ hk => hk.2) (.slice Ao10 t292.length co10)) (fun _ h_ => h_.1)))); (case side2 => exact (Kd.R_reads' HO294.out).2.1); rintro e w11 ⟨v300, rfl, ho0, hb⟩; refine ⟨_, rfl, ?_⟩; have n0_ := Aside0.mk (Kd.R_elder' (by (with_reducible repeat (first | apply Kd.R_alloc | apply Kd.R_drewN | apply Kd.R_drew)); exact (Kd.R_mono (Kd.R_far (p := ⟨gb297, 1, none⟩) (Kd.R_far (p := ⟨gb297, 0, none⟩) (Kd.R_types HO294.out BK297.out (by decide)) (fun _ hk => hk.2) (.int .i64 t291)) (fun _ hk => hk.2) (.slice Ao10 t292.length co10)) (fun _ h_ => h_.1))) (Kd.R_base ho0) hb); have n1_ := Aside0.mk (Kd.R_lower (Kd.R_new' ho0 (Kd.R_lt (by (with_reducible repeat (first | apply Kd.R_alloc | apply Kd.R_drewN | apply Kd.R_drew)); exact (Kd.R_mono (Kd.R_far (p := ⟨gb297, 1, none⟩) (Kd.R_far (p := ⟨gb297, 0, none⟩) (Kd.R_types HO294.out BK297.out (by decide)) (fun _ hk => hk.2) (.int .i64 t291)) (fun _ hk => hk.2) (.slice Ao10 t292.length co10)) (fun _ h_ => h_.1))))) (below_size (by repeat (first | (with_reducible first | exact HB.out | apply bwA | apply bwN | apply bwD | refine below_set ?_ GE297.out) | exact HB.out)))); have n2_ := Aside0.mk (blk_below (g := gb297) (o := .cells #[.int .i64 t291, .slice Ao10 t292.length co10] 25 (0, 0)) (by (with_reducible repeat (first | refine blk_drewN ?_ _ | refine blk_drew ?_ | refine blk_alloc ?_ _)); refine blk_put (cs := #[.int .i64 t291, .slice none 0 0]) ?_ 1 _ rfl; (with_reducible repeat (first | refine blk_drewN ?_ _ | refine blk_drew ?_ | refine blk_alloc ?_ _)); refine blk_put (cs := #[.int .i64 0, .slice none 0 0]) ?_ 0 _ rfl; (with_reducible repeat (first | refine blk_drewN ?_ _ | refine blk_drew ?_ | refine blk_alloc ?_ _)); exact BK297.out) hb); have n3_ := Aside0.mk (below_step (by repeat (first | (with_reducible first | exact HB.out | apply bwA | apply bwN | apply bwD | refine below_set ?_ GE297.out) | exact HB.out)) hb); clear HO294; clear BK297; clear HB; have HO294 := n0_; have HO301 := n1_; have BK297 := n2_; have HB := n3_; clear n0_ n1_ n2_ n3_; (try clear hb); (try clear hb2); (try clear hk); (try clear hi); (try clear ho0)) | ((with_reducible refine gate_dst (N := 6) rfl ?_); (try (refine gate_guard (by rfl) ?_; dsimp only)); refine box_event ?hg (N := 6) ?hd (cs := #[.int .i64 0, .slice none 0 0]) (t := 25) ?hr ?_; (case hd => rfl); (case hg => rfl); (case hr => first | (go_simp; done) | (go_simp; rfl)); intro gb303 hg w12 hbox hb; have n0_ := Aside0.mk (Kd.R_below (rvR HO294.out) hb); have n1_ := Aside0.mk (Kd.R_below (rvR HO301.out) hb); have n2_ := Aside0.mk (blk_below (g := gb297) (o := .cells #[.int .i64 t291, .slice Ao10 t292.length co10] 25 (0, 0)) (bvK BK297.out) hb); have n3_ := Aside0.mk (below_step (by repeat (first | (with_reducible first | exact HB.out | apply bwA | apply bwN | apply bwD | refine below_set ?_ GE297.out) | exact HB.out)) hb); have n4_ := Aside0.mk (hbox); have n5_ := Aside0.mk ((by rw [hg]; exact (below_size (by repeat (first | (with_reducible first | exact HB.out | apply bwA | apply bwN | apply bwD | refine below_set ?_ GE297.out) | exact HB.out))) : w.heap.size ≤ gb303)); have n6_ := Aside0.mk ((by rw [hg]; exact (below_size (by repeat (first | (with_reducible first | exact HB.out | apply bwA | apply bwN | apply bwD | refine below_set ?_ GE297.out) | exact HB.out))) : w.heap.size ≤ gb303)); have n7_ := Aside0.mk ((by rw [hg]; exact Nat.ne_of_lt (blk_lt (g := gb297) (o := .cells #[.int .i64 t291, .slice Ao10 t292.length co10] 25 (0, 0)) (bvK BK297.out)) : gb297 ≠ gb303)); have n8_ := Aside0.mk ((by rw [hg]; exact Nat.ne_of_gt (blk_lt (g := gb297) (o := .cells #[.int .i64 t291, .slice Ao10 t292.length co10] 25 (0, 0)) (bvK BK297.out)) : gb303 ≠ gb297)); clear HO294; clear HO301; clear BK297; clear HB; have HO294 := n0_; have HO301 := n1_; have BK297 := n2_; have HB := n3_; have BK303 := n4_; have GW303 := n5_; have GE303 := n6_; have NB297_303 := n7_; have NB303_297 := n8_; clear n0_ n1_ n2_ n3_ n4_ n5_ n6_ n7_ n8_; clear hb hbox hg; have hnb13 := NB303_297.out; have hnc13 := NB297_303.out; have hcz14_0 : w12.cell? ⟨gb303, 0, none⟩ = some (.int .i64 0) := (blk_cell BK303.out 0).trans rfl; have hcz14_1 : w12.cell? ⟨gb303, 1, none⟩ = some (.slice none 0 0) := (blk_cell BK303.out 1).trans rfl; have hfz14_0 := blk_frozen BK303.out 0; have hfz14_1 := blk_frozen BK303.out 1; obtain ⟨Ao15, co15, eo15⟩ := Kd.R_slice HO301.out; subst eo15; have hcz16_0 : w12.cell? ⟨gb297, 0, none⟩ = some (.int .i64 t291) := (blk_cell BK297.out 0).trans rfl; have hcz16_1 : w12.cell? ⟨gb297, 1, none⟩ = some (.slice Ao10 t292.length co10) := (blk_cell BK297.out 1).trans rfl; have hfz16_0 := blk_frozen BK297.out 0; have hfz16_1 := blk_frozen BK297.out 1) | ((with_reducible refine gate_callee (f := 35) rfl ?_); refine goesL_ (some 35) rfl rfl Try.func35 (by kernel_rfl) rfl #[.agg #[.int .i64 t291, .slice Ao10 t292.length co10], .int .i64 t295, .int .i64 t296] rfl lmB ?_; (with_reducible refine (spec_DiagramAnd.calls k t291 _ _ t292 t295 t296 t304 t305 t308 _ ?side1 ?side2 A5.out).mono ?_); (case side1 => refine (Kd.R_reads' (e := 71) (base := w.heap.size) (ok := fun k_ => (True ∧ some k_ ≠ (.slice Ao15 t299.length co15 : Value).ownBlock)) (n := t292.length) (c := co10) ?_).2.2; exact (by (with_reducible repeat (first | apply Kd.R_alloc | apply Kd.R_drewN | apply Kd.R_drew)); exact (Kd.R_mono (Kd.R_far (p := ⟨gb303, 1, none⟩) (Kd.R_far (p := ⟨gb303, 0, none⟩) (Kd.R_types HO294.out BK303.out (by decide)) (fun _ hk => hk.2) (.int .i64 t298)) (fun _ hk => hk.2) (.slice Ao15 t299.length co15)) (fun _ h_ => h_.1)))); (case side2 => exact (Kd.R_reads' HO294.out).2.1); rintro e w17 ⟨v306, rfl, ho0, hb⟩; refine ⟨_, rfl, ?_⟩; have n0_ := Aside0.mk (Kd.R_elder' (by (with_reducible repeat (first | apply Kd.R_alloc | apply Kd.R_drewN | apply Kd.R_drew)); exact (Kd.R_mono (Kd.R_far (p := ⟨gb303, 1, none⟩) (Kd.R_far (p := ⟨gb303, 0, none⟩) (Kd.R_types HO294.out BK303.out (by decide)) (fun _ hk => hk.2) (.int .i64 t298)) (fun _ hk => hk.2) (.slice Ao15 t299.length co15)) (fun _ h_ => h_.1))) (Kd.R_base ho0) hb); have n1_ := Aside0.mk (Kd.R_elder' (by (with_reducible repeat (first | apply Kd.R_alloc | apply Kd.R_drewN | apply Kd.R_drew)); exact (Kd.R_mono (Kd.R_far (p := ⟨gb303, 1, none⟩) (Kd.R_far (p := ⟨gb303, 0, none⟩) (Kd.R_types HO301.out BK303.out (by decide)) (fun _ hk => hk.2) (.int .i64 t298)) (fun _ hk => hk.2) (.slice Ao15 t299.length co15)) (fun _ h_ => h_.1))) (Kd.R_base ho0) hb); have n2_ := Aside0.mk (Kd.R_lower (Kd.R_new' (Kd.R_new' ho0 (Kd.R_lt (by (with_reducible repeat (first | apply Kd.R_alloc | apply Kd.R_drewN | apply Kd.R_drew)); exact (Kd.R_mono (Kd.R_far (p := ⟨gb303, 1, none⟩) (Kd.R_far (p := ⟨gb303, 0, none⟩) (Kd.R_types HO294.out BK303.out (by decide)) (fun _ hk => hk.2) (.int .i64 t298)) (fun _ hk => hk.2) (.slice Ao15 t299.length co15)) (fun _ h_ => h_.1))))) (Kd.R_lt (by (with_reducible repeat (first | apply Kd.R_alloc | apply Kd.R_drewN | apply Kd.R_drew)); exact (Kd.R_mono (Kd.R_far (p := ⟨gb303, 1, none⟩) (Kd.R_far (p := ⟨gb303, 0, none⟩) (Kd.R_types HO301.out BK303.out (by decide)) (fun _ hk => hk.2) (.int .i64 t298)) (fun _ hk => hk.2) (.slice Ao15 t299.length co15)) (fun _ h_ => h_.1))))) (below_size (by repeat (first | (with_reducible first | exact HB.out | apply bwA | apply bwN | apply bwD | refine below_set ?_ GE297.out | refine below_set ?_ GE303.out) | exact HB.out)))); have n3_ := Aside0.mk (blk_below (g := gb297) (o := .cells #[.int .i64 t291, .slice Ao10 t292.length co10] 25 (0, 0)) (by (with_reducible repeat (first | refine blk_drewN ?_ _ | refine blk_drew ?_ | refine blk_alloc ?_ _)); refine blk_far ?_ NB297_303.out _; (with_reducible repeat (first | refine blk_drewN ?_ _ | refine blk_drew ?_ | refine blk_alloc ?_ _)); refine blk_far ?_ NB297_303.out _; (with_reducible repeat (first | refine blk_drewN ?_ _ | refine blk_drew ?_ | refine blk_alloc ?_ _)); exact BK297.out) hb); have n4_ := Aside0.mk (blk_below (g := gb303) (o := .cells #[.int .i64 t298, .slice Ao15 t299.length co15] 25 (0, 0)) (by (with_reducible repeat (first | refine blk_drewN ?_ _ | refine blk_drew ?_ | refine blk_alloc ?_ _)); refine blk_put (cs := #[.int .i64 t298, .slice none 0 0]) ?_ 1 _ rfl; (with_reducible repeat (first | refine blk_drewN ?_ _ | refine blk_drew ?_ | refine blk_alloc ?_ _)); refine blk_put (cs := #[.int .i64 0, .slice none 0 0]) ?_ 0 _ rfl; (with_reducible repeat (first | refine blk_drewN ?_ _ | refine blk_drew ?_ | refine blk_alloc ?_ _)); exact BK303.out) hb); have n5_ := Aside0.mk (below_step (by repeat (first | (with_reducible first | exact HB.out | apply bwA | apply bwN | apply bwD | refine below_set ?_ GE297.out | refine below_set ?_ GE303.out) | exact HB.out)) hb); clear HO294; clear HO301; clear BK297; clear BK303; clear HB; have HO294 := n0_; have HO301 := n1_; have HO307 := n2_; have BK297 := n3_; have BK303 := n4_; have HB := n5_; clear n0_ n1_ n2_ n3_ n4_ n5_; (try clear hb); (try clear hb2); (try clear hk); (try clear hi); (try clear ho0)) | ((with_reducible refine gate_dst (N := 8) rfl ?_); (try (refine gate_guard (by rfl) ?_; dsimp only)); refine box_event ?hg (N := 8) ?hd (cs := #[.int .i64 0, .slice none 0 0]) (t := 25) ?hr ?_; (case hd => rfl); (case hg => rfl); (case hr => first | (go_simp; done) | (go_simp; rfl)); intro gb309 hg w18 hbox hb; have n0_ := Aside0.mk (Kd.R_below (rvR HO294.out) hb); have n1_ := Aside0.mk (Kd.R_below (rvR HO301.out) hb); have n2_ := Aside0.mk (Kd.R_below (rvR HO307.out) hb); have n3_ := Aside0.mk (blk_below (g := gb297) (o := .cells #[.int .i64 t291, .slice Ao10 t292.length co10] 25 (0, 0)) (bvK BK297.out) hb); have n4_ := Aside0.mk (blk_below (g := gb303) (o := .cells #[.int .i64 t298, .slice Ao15 t299.length co15] 25 (0, 0)) (bvK BK303.out) hb); have n5_ := Aside0.mk (below_step (by repeat (first | (with_reducible first | exact HB.out | apply bwA | apply bwN | apply bwD | refine below_set ?_ GE297.out | refine below_set ?_ GE303.out) | exact HB.out)) hb); have n6_ := Aside0.mk (hbox); have n7_ := Aside0.mk ((by rw [hg]; exact (below_size (by repeat (first | (with_reducible first | exact HB.out | apply bwA | apply bwN | apply bwD | refine below_set ?_ GE297.out | refine below_set ?_ GE303.out) | exact HB.out))) : w.heap.size ≤ gb309)); have n8_ := Aside0.mk ((by rw [hg]; exact (below_size (by repeat (first | (with_reducible first | exact HB.out | apply bwA | apply bwN | apply bwD | refine below_set ?_ GE297.out | refine below_set ?_ GE303.out) | exact HB.out))) : w.heap.size ≤ gb309)); have n9_ := Aside0.mk ((by rw [hg]; exact Nat.ne_of_lt (blk_lt (g := gb297) (o := .cells #[.int .i64 t291, .slice Ao10 t292.length co10] 25 (0, 0)) (bvK BK297.out)) : gb297 ≠ gb309)); have n10_ := Aside0.mk ((by rw [hg]; exact Nat.ne_of_gt (blk_lt (g := gb297) (o := .cells #[.int .i64 t291, .slice Ao10 t292.length co10] 25 (0, 0)) (bvK BK297.out)) : gb309 ≠ gb297)); have n11_ := Aside0.mk ((by rw [hg]; exact Nat.ne_of_lt (blk_lt (g := gb303) (o := .cells #[.int .i64 t298, .slice Ao15 t299.length co15] 25 (0, 0)) (bvK BK303.out)) : gb303 ≠ gb309)); have n12_ := Aside0.mk ((by rw [hg]; exact Nat.ne_of_gt (blk_lt (g := gb303) (o := .cells #[.int .i64 t298, .slice Ao15 t299.length co15] 25 (0, 0)) (bvK BK303.out)) : gb309 ≠ gb303)); clear HO294; clear HO301; clear HO307; clear BK297; clear BK303; clear HB; have HO294 := n0_; have HO301 := n1_; have HO307 := n2_; have BK297 := n3_; have BK303 := n4_; have HB := n5_; have BK309 := n6_; have GW309 := n7_; have GE309 := n8_; have NB297_309 := n9_; have NB309_297 := n10_; have NB303_309 := n11_; have NB309_303 := n12_; clear n0_ n1_ n2_ n3_ n4_ n5_ n6_ n7_ n8_ n9_ n10_ n11_ n12_; clear hb hbox hg; have hnb19 := NB309_297.out; have hnc19 := NB297_309.out; have hnb20 := NB309_303.out; have hnc20 := NB303_309.out; have hcz21_0 : w18.cell? ⟨gb309, 0, none⟩ = some (.int .i64 0) := (blk_cell BK309.out 0).trans rfl; have hcz21_1 : w18.cell? ⟨gb309, 1, none⟩ = some (.slice none 0 0) := (blk_cell BK309.out 1).trans rfl; have hfz21_0 := blk_frozen BK309.out 0; have hfz21_1 := blk_frozen BK309.out 1; obtain ⟨Ao22, co22, eo22⟩ := Kd.R_slice HO307.out; subst eo22))
  (try simp only [Act.put, List.setIfInBounds_toArray, List.set_cons_zero, List.set_cons_succ])
  go_cut [53] (fun v53 wc => ∃ (kq : Nat) (x53_5 : Bool), v53 = .bool x53_5 ∧ Aside0 (laws_FnDiagramSame.j0 kq t295 t296 t302 t308 x53_5 t291 t292 t298 t299 t304 t305 = some r) ∧ Aside0 (kq ≤ k) ∧ Aside0 (Kd.R k71 71 wc w.heap.size (fun k_ => some k_ ≠ ((.slice Ao15 t299.length co15) : Value).ownBlock ∧ some k_ ≠ ((.slice Ao22 t305.length co22) : Value).ownBlock) (.slice Ao10 t292.length co10) t292) ∧ Aside0 (Kd.R k71 71 wc w.heap.size (fun k_ => some k_ ≠ ((.slice Ao10 t292.length co10) : Value).ownBlock ∧ some k_ ≠ ((.slice Ao22 t305.length co22) : Value).ownBlock) (.slice Ao15 t299.length co15) t299) ∧ Aside0 (Kd.R k71 71 wc w.heap.size (fun k_ => some k_ ≠ ((.slice Ao10 t292.length co10) : Value).ownBlock ∧ some k_ ≠ ((.slice Ao15 t299.length co15) : Value).ownBlock) (.slice Ao22 t305.length co22) t305) ∧ Aside0 (wc.heap[gb297]? = some (.cells #[.int .i64 t291, (.slice Ao10 t292.length co10)] 25 (0, 0))) ∧ Aside0 (wc.heap[gb303]? = some (.cells #[.int .i64 t298, (.slice Ao15 t299.length co15)] 25 (0, 0))) ∧ Aside0 (wc.heap[gb309]? = some (.cells #[.int .i64 t304, (.slice Ao22 t305.length co22)] 25 (0, 0))) ∧ Aside0 (Below w.heap.size w wc))
  case first =>
   have H := HC6.out
   clear HC6
   by_cases c23 : t302 = t308
   ·rw [if_pos c23] at H
    have c23b0 : (t302 == t308) = true := beq_iff_eq.mpr c23
    have c23b1 : (t302 != t308) = false := bne_eq_false_iff_eq.mpr c23
    clear c23
    (first | rw [c23b0] | (simp only [i64_w, i32_w]; rw [c23b0]) | skip)
    by_cases c24 : (t299.length : Int) = (t305.length : Int)
    ·rw [if_pos c24] at H
     have c24b0 : ((t299.length : Int) == (t305.length : Int)) = true := beq_iff_eq.mpr c24
     have c24b1 : ((t299.length : Int) != (t305.length : Int)) = false := bne_eq_false_iff_eq.mpr c24
     have c24b2 : (t299.length == t305.length) = true := by first | simpa using c24 | (simp at c24 ⊢; omega)
     clear c24
     have H' := Aside0.mk H
     clear H
     have hnb25 := NB303_297.out
     have hnc25 := NB297_303.out
     have hnb26 := NB303_309.out
     have hnc26 := NB309_303.out
     have hcz27_0 : w18.cell? ⟨gb303, 0, none⟩ = some (.int .i64 t298) := (blk_cell BK303.out 0).trans rfl
     have hcz27_1 : w18.cell? ⟨gb303, 1, none⟩ = some (.slice Ao15 t299.length co15) := (blk_cell BK303.out 1).trans rfl
     have hfz27_0 := blk_frozen BK303.out 0
     have hfz27_1 := blk_frozen BK303.out 1
     have hnb28 := NB309_297.out
     have hnc28 := NB297_309.out
     have hcz29_0 : w18.cell? ⟨gb309, 0, none⟩ = some (.int .i64 0) := (blk_cell BK309.out 0).trans rfl
     have hcz29_1 : w18.cell? ⟨gb309, 1, none⟩ = some (.slice none 0 0) := (blk_cell BK309.out 1).trans rfl
     have hfz29_0 := blk_frozen BK309.out 0
     have hfz29_1 := blk_frozen BK309.out 1
     go_wp2
     go_meet
     case rel => exact ⟨_, (decide (t302 < 0)), rsd, H', ⟨by first | omega | exact Nat.le_refl _⟩, ⟨by (with_reducible repeat (first | apply Kd.R_alloc | apply Kd.R_drewN | apply Kd.R_drew)); exact Kd.R_mono (Kd.R_far (p := ⟨gb309, 1, none⟩) (Kd.R_far (p := ⟨gb309, 0, none⟩) (Kd.R_types HO294.out BK309.out (by decide)) (fun _ hk => hk.2) (.int .i64 t304)) (fun _ hk => hk.2) (.slice Ao22 t305.length co22)) (fun _ hk => ⟨hk.1.1.2, hk.1.2⟩)⟩, ⟨by (with_reducible repeat (first | apply Kd.R_alloc | apply Kd.R_drewN | apply Kd.R_drew)); exact Kd.R_mono (Kd.R_far (p := ⟨gb309, 1, none⟩) (Kd.R_far (p := ⟨gb309, 0, none⟩) (Kd.R_types HO301.out BK309.out (by decide)) (fun _ hk => hk.2) (.int .i64 t304)) (fun _ hk => hk.2) (.slice Ao22 t305.length co22)) (fun _ hk => ⟨hk.1.1.2, hk.1.2⟩)⟩, ⟨by (with_reducible repeat (first | apply Kd.R_alloc | apply Kd.R_drewN | apply Kd.R_drew)); exact Kd.R_mono (Kd.R_far (p := ⟨gb309, 1, none⟩) (Kd.R_far (p := ⟨gb309, 0, none⟩) (Kd.R_types HO307.out BK309.out (by decide)) (fun _ hk => hk.2) (.int .i64 t304)) (fun _ hk => hk.2) (.slice Ao22 t305.length co22)) (fun _ hk => ⟨hk.1.1.2, hk.1.2⟩)⟩, ⟨by (with_reducible repeat (first | refine blk_drewN ?_ _ | refine blk_drew ?_ | refine blk_alloc ?_ _)); refine blk_far ?_ NB297_309.out _; (with_reducible repeat (first | refine blk_drewN ?_ _ | refine blk_drew ?_ | refine blk_alloc ?_ _)); refine blk_far ?_ NB297_309.out _; (with_reducible repeat (first | refine blk_drewN ?_ _ | refine blk_drew ?_ | refine blk_alloc ?_ _)); exact BK297.out⟩, ⟨by (with_reducible repeat (first | refine blk_drewN ?_ _ | refine blk_drew ?_ | refine blk_alloc ?_ _)); refine blk_far ?_ NB303_309.out _; (with_reducible repeat (first | refine blk_drewN ?_ _ | refine blk_drew ?_ | refine blk_alloc ?_ _)); refine blk_far ?_ NB303_309.out _; (with_reducible repeat (first | refine blk_drewN ?_ _ | refine blk_drew ?_ | refine blk_alloc ?_ _)); exact BK303.out⟩, ⟨by (with_reducible repeat (first | refine blk_drewN ?_ _ | refine blk_drew ?_ | refine blk_alloc ?_ _)); refine blk_put (cs := #[.int .i64 t304, .slice none 0 0]) ?_ 1 _ rfl; (with_reducible repeat (first | refine blk_drewN ?_ _ | refine blk_drew ?_ | refine blk_alloc ?_ _)); refine blk_put (cs := #[.int .i64 0, .slice none 0 0]) ?_ 0 _ rfl; (with_reducible repeat (first | refine blk_drewN ?_ _ | refine blk_drew ?_ | refine blk_alloc ?_ _)); exact BK309.out⟩, ⟨by repeat (first | (with_reducible first | exact HB.out | apply bwA | apply bwN | apply bwD | refine below_set ?_ GE297.out | refine below_set ?_ GE303.out | refine below_set ?_ GE309.out) | exact HB.out)⟩⟩
    ·rw [if_neg c24] at H
     have c24b0 : ((t299.length : Int) == (t305.length : Int)) = false := beq_eq_false_iff_ne.mpr c24
     have c24b1 : ((t299.length : Int) != (t305.length : Int)) = true := bne_iff_ne.mpr c24
     have c24b2 : (t299.length == t305.length) = false := by first | simpa using c24 | (simp at c24 ⊢; omega)
     have H' := Aside0.mk H
     clear H
     have hnb30 := NB303_297.out
     have hnc30 := NB297_303.out
     have hnb31 := NB303_309.out
     have hnc31 := NB309_303.out
     have hcz32_0 : w18.cell? ⟨gb303, 0, none⟩ = some (.int .i64 t298) := (blk_cell BK303.out 0).trans rfl
     have hcz32_1 : w18.cell? ⟨gb303, 1, none⟩ = some (.slice Ao15 t299.length co15) := (blk_cell BK303.out 1).trans rfl
     have hfz32_0 := blk_frozen BK303.out 0
     have hfz32_1 := blk_frozen BK303.out 1
     have hnb33 := NB309_297.out
     have hnc33 := NB297_309.out
     have hcz34_0 : w18.cell? ⟨gb309, 0, none⟩ = some (.int .i64 0) := (blk_cell BK309.out 0).trans rfl
     have hcz34_1 : w18.cell? ⟨gb309, 1, none⟩ = some (.slice none 0 0) := (blk_cell BK309.out 1).trans rfl
     have hfz34_0 := blk_frozen BK309.out 0
     have hfz34_1 := blk_frozen BK309.out 1
     go_wp2
     go_meet
     case rel => exact ⟨_, (true), rsd, H', ⟨by first | omega | exact Nat.le_refl _⟩, ⟨by (with_reducible repeat (first | apply Kd.R_alloc | apply Kd.R_drewN | apply Kd.R_drew)); exact Kd.R_mono (Kd.R_far (p := ⟨gb309, 1, none⟩) (Kd.R_far (p := ⟨gb309, 0, none⟩) (Kd.R_types HO294.out BK309.out (by decide)) (fun _ hk => hk.2) (.int .i64 t304)) (fun _ hk => hk.2) (.slice Ao22 t305.length co22)) (fun _ hk => ⟨hk.1.1.2, hk.1.2⟩)⟩, ⟨by (with_reducible repeat (first | apply Kd.R_alloc | apply Kd.R_drewN | apply Kd.R_drew)); exact Kd.R_mono (Kd.R_far (p := ⟨gb309, 1, none⟩) (Kd.R_far (p := ⟨gb309, 0, none⟩) (Kd.R_types HO301.out BK309.out (by decide)) (fun _ hk => hk.2) (.int .i64 t304)) (fun _ hk => hk.2) (.slice Ao22 t305.length co22)) (fun _ hk => ⟨hk.1.1.2, hk.1.2⟩)⟩, ⟨by (with_reducible repeat (first | apply Kd.R_alloc | apply Kd.R_drewN | apply Kd.R_drew)); exact Kd.R_mono (Kd.R_far (p := ⟨gb309, 1, none⟩) (Kd.R_far (p := ⟨gb309, 0, none⟩) (Kd.R_types HO307.out BK309.out (by decide)) (fun _ hk => hk.2) (.int .i64 t304)) (fun _ hk => hk.2) (.slice Ao22 t305.length co22)) (fun _ hk => ⟨hk.1.1.2, hk.1.2⟩)⟩, ⟨by (with_reducible repeat (first | refine blk_drewN ?_ _ | refine blk_drew ?_ | refine blk_alloc ?_ _)); refine blk_far ?_ NB297_309.out _; (with_reducible repeat (first | refine blk_drewN ?_ _ | refine blk_drew ?_ | refine blk_alloc ?_ _)); refine blk_far ?_ NB297_309.out _; (with_reducible repeat (first | refine blk_drewN ?_ _ | refine blk_drew ?_ | refine blk_alloc ?_ _)); exact BK297.out⟩, ⟨by (with_reducible repeat (first | refine blk_drewN ?_ _ | refine blk_drew ?_ | refine blk_alloc ?_ _)); refine blk_far ?_ NB303_309.out _; (with_reducible repeat (first | refine blk_drewN ?_ _ | refine blk_drew ?_ | refine blk_alloc ?_ _)); refine blk_far ?_ NB303_309.out _; (with_reducible repeat (first | refine blk_drewN ?_ _ | refine blk_drew ?_ | refine blk_alloc ?_ _)); exact BK303.out⟩, ⟨by (with_reducible repeat (first | refine blk_drewN ?_ _ | refine blk_drew ?_ | refine blk_alloc ?_ _)); refine blk_put (cs := #[.int .i64 t304, .slice none 0 0]) ?_ 1 _ rfl; (with_reducible repeat (first | refine blk_drewN ?_ _ | refine blk_drew ?_ | refine blk_alloc ?_ _)); refine blk_put (cs := #[.int .i64 0, .slice none 0 0]) ?_ 0 _ rfl; (with_reducible repeat (first | refine blk_drewN ?_ _ | refine blk_drew ?_ | refine blk_alloc ?_ _)); exact BK309.out⟩, ⟨by repeat (first | (with_reducible first | exact HB.out | apply bwA | apply bwN | apply bwD | refine below_set ?_ GE297.out | refine below_set ?_ GE303.out | refine below_set ?_ GE309.out) | exact HB.out)⟩⟩
   ·rw [if_neg c23] at H
    have c23b0 : (t302 == t308) = false := beq_eq_false_iff_ne.mpr c23
    have c23b1 : (t302 != t308) = true := bne_iff_ne.mpr c23
    (first | rw [c23b0] | (simp only [i64_w, i32_w]; rw [c23b0]) | skip)
    have H' := Aside0.mk H
    clear H
    go_wp2
    go_meet
    case rel => exact ⟨_, (true), rsd, H', ⟨by first | omega | exact Nat.le_refl _⟩, ⟨by (with_reducible repeat (first | apply Kd.R_alloc | apply Kd.R_drewN | apply Kd.R_drew)); exact Kd.R_mono (Kd.R_far (p := ⟨gb309, 1, none⟩) (Kd.R_far (p := ⟨gb309, 0, none⟩) (Kd.R_types HO294.out BK309.out (by decide)) (fun _ hk => hk.2) (.int .i64 t304)) (fun _ hk => hk.2) (.slice Ao22 t305.length co22)) (fun _ hk => ⟨hk.1.1.2, hk.1.2⟩)⟩, ⟨by (with_reducible repeat (first | apply Kd.R_alloc | apply Kd.R_drewN | apply Kd.R_drew)); exact Kd.R_mono (Kd.R_far (p := ⟨gb309, 1, none⟩) (Kd.R_far (p := ⟨gb309, 0, none⟩) (Kd.R_types HO301.out BK309.out (by decide)) (fun _ hk => hk.2) (.int .i64 t304)) (fun _ hk => hk.2) (.slice Ao22 t305.length co22)) (fun _ hk => ⟨hk.1.1.2, hk.1.2⟩)⟩, ⟨by (with_reducible repeat (first | apply Kd.R_alloc | apply Kd.R_drewN | apply Kd.R_drew)); exact Kd.R_mono (Kd.R_far (p := ⟨gb309, 1, none⟩) (Kd.R_far (p := ⟨gb309, 0, none⟩) (Kd.R_types HO307.out BK309.out (by decide)) (fun _ hk => hk.2) (.int .i64 t304)) (fun _ hk => hk.2) (.slice Ao22 t305.length co22)) (fun _ hk => ⟨hk.1.1.2, hk.1.2⟩)⟩, ⟨by (with_reducible repeat (first | refine blk_drewN ?_ _ | refine blk_drew ?_ | refine blk_alloc ?_ _)); refine blk_far ?_ NB297_309.out _; (with_reducible repeat (first | refine blk_drewN ?_ _ | refine blk_drew ?_ | refine blk_alloc ?_ _)); refine blk_far ?_ NB297_309.out _; (with_reducible repeat (first | refine blk_drewN ?_ _ | refine blk_drew ?_ | refine blk_alloc ?_ _)); exact BK297.out⟩, ⟨by (with_reducible repeat (first | refine blk_drewN ?_ _ | refine blk_drew ?_ | refine blk_alloc ?_ _)); refine blk_far ?_ NB303_309.out _; (with_reducible repeat (first | refine blk_drewN ?_ _ | refine blk_drew ?_ | refine blk_alloc ?_ _)); refine blk_far ?_ NB303_309.out _; (with_reducible repeat (first | refine blk_drewN ?_ _ | refine blk_drew ?_ | refine blk_alloc ?_ _)); exact BK303.out⟩, ⟨by (with_reducible repeat (first | refine blk_drewN ?_ _ | refine blk_drew ?_ | refine blk_alloc ?_ _)); refine blk_put (cs := #[.int .i64 t304, .slice none 0 0]) ?_ 1 _ rfl; (with_reducible repeat (first | refine blk_drewN ?_ _ | refine blk_drew ?_ | refine blk_alloc ?_ _)); refine blk_put (cs := #[.int .i64 0, .slice none 0 0]) ?_ 0 _ rfl; (with_reducible repeat (first | refine blk_drewN ?_ _ | refine blk_drew ?_ | refine blk_alloc ?_ _)); exact BK309.out⟩, ⟨by repeat (first | (with_reducible first | exact HB.out | apply bwA | apply bwN | apply bwD | refine below_set ?_ GE297.out | refine below_set ?_ GE303.out | refine below_set ?_ GE309.out) | exact HB.out)⟩⟩
  case rest =>
   clear HC6
   try clear c1
   try clear c2
   try clear c2b0
   try clear c2b1
   try clear p2
   try clear c3
   try clear c10
   try clear c13
   try clear c19
   try clear c20
   try clear c23
   try clear c23b0
   try clear c23b1
   try clear c24
   try clear c24b0
   try clear c24b1
   try clear c24b2
   try clear c25
   try clear c26
   try clear c27
   try clear c28
   try clear c30
   try clear c31
   try clear c33
   try clear hcz14_0
   try clear hcz14_1
   try clear hcz16_0
   try clear hcz16_1
   try clear hcz21_0
   try clear hcz21_1
   try clear hcz27_0
   try clear hcz27_1
   try clear hcz29_0
   try clear hcz29_1
   try clear hcz32_0
   try clear hcz32_1
   try clear hcz34_0
   try clear hcz34_1
   try clear hcz9_0
   try clear hcz9_1
   try clear hfz14_0
   try clear hfz14_1
   try clear hfz16_0
   try clear hfz16_1
   try clear hfz21_0
   try clear hfz21_1
   try clear hfz27_0
   try clear hfz27_1
   try clear hfz29_0
   try clear hfz29_1
   try clear hfz32_0
   try clear hfz32_1
   try clear hfz34_0
   try clear hfz34_1
   try clear hfz9_0
   try clear hfz9_1
   obtain ⟨kq, x53_5, rfl, HA, HJ5, HO_298001, HO_304001, HO_310001, BK297, BK303, BK309, HB⟩ := hcut
   cases kq with
   | zero => exact absurd HA.out (by simp [laws_FnDiagramSame.j0])
   | succ kj5 =>
    have H := HA.out
    clear HA
    simp only [laws_FnDiagramSame.j0] at H
    by_cases c35 : x53_5 = true
    ·subst c35
     have H1 : (if t302 = t308 then (if (t299.length : Int) = (t305.length : Int) then (some (t302 == (-1))) else (some false)) else (some false)) = some r := by rw [if_pos rfl] at H; exact H
     clear H
     have H := H1
     clear H1
     by_cases c36 : t302 = t308
     ·rw [if_pos c36] at H
      have c36b0 : (t302 == t308) = true := beq_iff_eq.mpr c36
      have c36b1 : (t302 != t308) = false := bne_eq_false_iff_eq.mpr c36
      clear c36
      by_cases c37 : (t299.length : Int) = (t305.length : Int)
      ·rw [if_pos c37] at H
       have c37b0 : ((t299.length : Int) == (t305.length : Int)) = true := beq_iff_eq.mpr c37
       have c37b1 : ((t299.length : Int) != (t305.length : Int)) = false := bne_eq_false_iff_eq.mpr c37
       have c37b2 : (t299.length == t305.length) = true := by first | simpa using c37 | (simp at c37 ⊢; omega)
       clear c37
       obtain rfl := Option.some.inj H
       have hnb38 := NB303_297.out
       have hnc38 := NB297_303.out
       have hnb39 := NB303_309.out
       have hnc39 := NB309_303.out
       have hcz40_0 : wc.cell? ⟨gb303, 0, none⟩ = some (.int .i64 t298) := (blk_cell BK303.out 0).trans rfl
       have hcz40_1 : wc.cell? ⟨gb303, 1, none⟩ = some (.slice Ao15 t299.length co15) := (blk_cell BK303.out 1).trans rfl
       have hfz40_0 := blk_frozen BK303.out 0
       have hfz40_1 := blk_frozen BK303.out 1
       have hnb41 := NB309_297.out
       have hnc41 := NB297_309.out
       have hcz42_0 : wc.cell? ⟨gb309, 0, none⟩ = some (.int .i64 t304) := (blk_cell BK309.out 0).trans rfl
       have hcz42_1 : wc.cell? ⟨gb309, 1, none⟩ = some (.slice Ao22 t305.length co22) := (blk_cell BK309.out 1).trans rfl
       have hfz42_0 := blk_frozen BK309.out 0
       have hfz42_1 := blk_frozen BK309.out 1
       go_wp2
       go_ret
       exact ⟨ers, by repeat (first | (with_reducible first | exact HB.out | apply bwA | apply bwN | apply bwD | refine below_set ?_ GE297.out | refine below_set ?_ GE303.out | refine below_set ?_ GE309.out) | exact HB.out)⟩
      ·rw [if_neg c37] at H
       have c37b0 : ((t299.length : Int) == (t305.length : Int)) = false := beq_eq_false_iff_ne.mpr c37
       have c37b1 : ((t299.length : Int) != (t305.length : Int)) = true := bne_iff_ne.mpr c37
       have c37b2 : (t299.length == t305.length) = false := by first | simpa using c37 | (simp at c37 ⊢; omega)
       obtain rfl := Option.some.inj H
       have hnb43 := NB303_297.out
       have hnc43 := NB297_303.out
       have hnb44 := NB303_309.out
       have hnc44 := NB309_303.out
       have hcz45_0 : wc.cell? ⟨gb303, 0, none⟩ = some (.int .i64 t298) := (blk_cell BK303.out 0).trans rfl
       have hcz45_1 : wc.cell? ⟨gb303, 1, none⟩ = some (.slice Ao15 t299.length co15) := (blk_cell BK303.out 1).trans rfl
       have hfz45_0 := blk_frozen BK303.out 0
       have hfz45_1 := blk_frozen BK303.out 1
       have hnb46 := NB309_297.out
       have hnc46 := NB297_309.out
       have hcz47_0 : wc.cell? ⟨gb309, 0, none⟩ = some (.int .i64 t304) := (blk_cell BK309.out 0).trans rfl
       have hcz47_1 : wc.cell? ⟨gb309, 1, none⟩ = some (.slice Ao22 t305.length co22) := (blk_cell BK309.out 1).trans rfl
       have hfz47_0 := blk_frozen BK309.out 0
       have hfz47_1 := blk_frozen BK309.out 1
       go_wp2
       go_ret
       exact ⟨ers, by repeat (first | (with_reducible first | exact HB.out | apply bwA | apply bwN | apply bwD | refine below_set ?_ GE297.out | refine below_set ?_ GE303.out | refine below_set ?_ GE309.out) | exact HB.out)⟩
     ·rw [if_neg c36] at H
      have c36b0 : (t302 == t308) = false := beq_eq_false_iff_ne.mpr c36
      have c36b1 : (t302 != t308) = true := bne_iff_ne.mpr c36
      obtain rfl := Option.some.inj H
      go_wp2
      go_ret
      exact ⟨ers, by repeat (first | (with_reducible first | exact HB.out | apply bwA | apply bwN | apply bwD | refine below_set ?_ GE297.out | refine below_set ?_ GE303.out | refine below_set ?_ GE309.out) | exact HB.out)⟩
    ·replace c35 := Bool.eq_false_iff.mpr c35
     subst c35
     have H1 : ((impl_DiagramAnd.f kj5 t298 t299 t296 t295).bind fun bt310 => (if 0 ≤ t298 then (laws_FnDiagramSame.l0 kj5 t295 t296 t302 bt310.2.2 (shl .i64 1 t298) 0 t291 t292 t298 t299 bt310.1 bt310.2.1) else (none))) = some r := by rw [if_neg (show ¬ (false = true) by decide)] at H; exact H
     clear H
     have H := H1
     clear H1
     replace H := Option.bind_eq_some_iff.mp H
     obtain ⟨⟨t310, t311, t314⟩, A480, H⟩ := H
     replace H : (if 0 ≤ t298 then (laws_FnDiagramSame.l0 kj5 t295 t296 t302 t314 (shl .i64 1 t298) 0 t291 t292 t298 t299 t310 t311) else (none)) = some r := H
     have A48 := Aside0.mk A480
     clear A480
     by_cases c49 : 0 ≤ t298
     ·rw [if_pos c49] at H
      have c49b0 := eq_true c49
      have c49b1 : decide (0 ≤ t298) = true := decide_eq_true c49
      clear c49
      obtain ⟨ji50, hji50⟩ : ∃ j_ : Int, (shl .i64 1 t298) = j_ := ⟨_, rfl⟩
      replace H : (laws_FnDiagramSame.l0 kj5 t295 t296 t302 t314 ji50 0 t291 t292 t298 t299 t310 t311) = some r := by first | (rw [hji50] at H; exact H) | (simp only [hji50] at H ⊢; exact H)
      (try rw [hji50] at A48)
      have hji50_ : (IntKind.i64.wrap (1 * 2 ^ min t298.toNat 64)) = ji50 := hji50
      have hji50z : t298 ≤ 64 → (IntKind.i64.wrap (1 * 2 ^ t298.toNat)) = ji50 := shl_small hji50
      have hji50u : (IntKind.i64.wrap (2 ^ min t298.toNat 64)) = ji50 := by have h_ := hji50_; rw [Int.one_mul] at h_; exact h_
      have hji50v : t298 ≤ 64 → (IntKind.i64.wrap (2 ^ t298.toNat)) = ji50 := fun hle_ => by have h_ := hji50z hle_; rw [Int.one_mul] at h_; exact h_
      have hji50y : (wrap64 (1 * 2 ^ min t298.toNat 64)) = ji50 := (i64_w _).symm.trans hji50_
      have hji50x : t298 ≤ 64 → (wrap64 (1 * 2 ^ t298.toNat)) = ji50 := fun h_ => (i64_w _).symm.trans (hji50z h_)
      have H' := Aside0.mk H
      clear H
      have hnb51 := NB303_297.out
      have hnc51 := NB297_303.out
      have hnb52 := NB303_309.out
      have hnc52 := NB309_303.out
      have hcz53_0 : wc.cell? ⟨gb303, 0, none⟩ = some (.int .i64 t298) := (blk_cell BK303.out 0).trans rfl
      have hcz53_1 : wc.cell? ⟨gb303, 1, none⟩ = some (.slice Ao15 t299.length co15) := (blk_cell BK303.out 1).trans rfl
      have hfz53_0 := blk_frozen BK303.out 0
      have hfz53_1 := blk_frozen BK303.out 1
      go_wp2_with (first | ((with_reducible refine gate_callee (f := 27) rfl ?_); refine goesL_ (some 74) rfl rfl Try.func27 (by kernel_rfl) rfl #[.agg #[.int .i64 t298, .slice Ao15 t299.length co15], .int .i64 t296, .int .i64 t295] rfl lmB ?_; (with_reducible refine (impl_DiagramAnd.calls kj5 t298 _ _ t299 t296 t295 t310 t311 t314 _ ?side1 ?side2 A48.out).mono ?_); (case side1 => repeat (first | exact (Kd.R_reads' HO_304001.out).2.2 | (with_reducible refine Kd.C_alloc ?_ _) | (with_reducible refine Kd.C_drewN ?_ _) | (with_reducible refine Kd.C_drew ?_))); (case side2 => exact (Kd.R_reads' HO_304001.out).2.1); rintro e w54 ⟨v312, rfl, ho0, hb⟩; refine ⟨_, rfl, ?_⟩; have n0_ := Aside0.mk (Kd.R_elder' (rvR HO_298001.out) (Kd.R_base ho0) hb); have n1_ := Aside0.mk (Kd.R_elder' (rvR HO_304001.out) (Kd.R_base ho0) hb); have n2_ := Aside0.mk (Kd.R_elder' (rvR HO_310001.out) (Kd.R_base ho0) hb); have n3_ := Aside0.mk (Kd.R_lower (Kd.R_new' (Kd.R_new' (Kd.R_new' ho0 (Kd.R_lt (rvR HO_298001.out))) (Kd.R_lt (rvR HO_304001.out))) (Kd.R_lt (rvR HO_310001.out))) (below_size (by repeat (first | (with_reducible first | exact HB.out | apply bwA | apply bwN | apply bwD | refine below_set ?_ GE297.out | refine below_set ?_ GE303.out | refine below_set ?_ GE309.out) | exact HB.out)))); have n4_ := Aside0.mk (blk_below (g := gb297) (o := .cells #[.int .i64 t291, .slice Ao10 t292.length co10] 25 (0, 0)) (bvK BK297.out) hb); have n5_ := Aside0.mk (blk_below (g := gb303) (o := .cells #[.int .i64 t298, .slice Ao15 t299.length co15] 25 (0, 0)) (bvK BK303.out) hb); have n6_ := Aside0.mk (blk_below (g := gb309) (o := .cells #[.int .i64 t304, .slice Ao22 t305.length co22] 25 (0, 0)) (bvK BK309.out) hb); have n7_ := Aside0.mk (below_step (by repeat (first | (with_reducible first | exact HB.out | apply bwA | apply bwN | apply bwD | refine below_set ?_ GE297.out | refine below_set ?_ GE303.out | refine below_set ?_ GE309.out) | exact HB.out)) hb); clear HO_298001; clear HO_304001; clear HO_310001; clear BK297; clear BK303; clear BK309; clear HB; have HO_298001 := n0_; have HO_304001 := n1_; have HO_310001 := n2_; have HO313 := n3_; have BK297 := n4_; have BK303 := n5_; have BK309 := n6_; have HB := n7_; clear n0_ n1_ n2_ n3_ n4_ n5_ n6_ n7_; (try clear hb); (try clear hb2); (try clear hk); (try clear hi); (try clear ho0)) | ((with_reducible refine gate_dst (N := 10) rfl ?_); (try (refine gate_guard (by rfl) ?_; dsimp only)); refine box_event ?hg (N := 10) ?hd (cs := #[.int .i64 0, .slice none 0 0]) (t := 25) ?hr ?_; (case hd => rfl); (case hg => rfl); (case hr => first | (go_simp; done) | (go_simp; rfl)); intro gb315 hg w55 hbox hb; have n0_ := Aside0.mk (Kd.R_below (rvR HO_298001.out) hb); have n1_ := Aside0.mk (Kd.R_below (rvR HO_304001.out) hb); have n2_ := Aside0.mk (Kd.R_below (rvR HO_310001.out) hb); have n3_ := Aside0.mk (Kd.R_below (rvR HO313.out) hb); have n4_ := Aside0.mk (blk_below (g := gb297) (o := .cells #[.int .i64 t291, .slice Ao10 t292.length co10] 25 (0, 0)) (bvK BK297.out) hb); have n5_ := Aside0.mk (blk_below (g := gb303) (o := .cells #[.int .i64 t298, .slice Ao15 t299.length co15] 25 (0, 0)) (bvK BK303.out) hb); have n6_ := Aside0.mk (blk_below (g := gb309) (o := .cells #[.int .i64 t304, .slice Ao22 t305.length co22] 25 (0, 0)) (bvK BK309.out) hb); have n7_ := Aside0.mk (below_step (by repeat (first | (with_reducible first | exact HB.out | apply bwA | apply bwN | apply bwD | refine below_set ?_ GE297.out | refine below_set ?_ GE303.out | refine below_set ?_ GE309.out) | exact HB.out)) hb); have n8_ := Aside0.mk (hbox); have n9_ := Aside0.mk ((by rw [hg]; exact (below_size (by repeat (first | (with_reducible first | exact HB.out | apply bwA | apply bwN | apply bwD | refine below_set ?_ GE297.out | refine below_set ?_ GE303.out | refine below_set ?_ GE309.out) | exact HB.out))) : w.heap.size ≤ gb315)); have n10_ := Aside0.mk ((by rw [hg]; exact (below_size (by repeat (first | (with_reducible first | exact HB.out | apply bwA | apply bwN | apply bwD | refine below_set ?_ GE297.out | refine below_set ?_ GE303.out | refine below_set ?_ GE309.out) | exact HB.out))) : w.heap.size ≤ gb315)); have n11_ := Aside0.mk ((by rw [hg]; exact Nat.ne_of_lt (blk_lt (g := gb297) (o := .cells #[.int .i64 t291, .slice Ao10 t292.length co10] 25 (0, 0)) (bvK BK297.out)) : gb297 ≠ gb315)); have n12_ := Aside0.mk ((by rw [hg]; exact Nat.ne_of_gt (blk_lt (g := gb297) (o := .cells #[.int .i64 t291, .slice Ao10 t292.length co10] 25 (0, 0)) (bvK BK297.out)) : gb315 ≠ gb297)); have n13_ := Aside0.mk ((by rw [hg]; exact Nat.ne_of_lt (blk_lt (g := gb303) (o := .cells #[.int .i64 t298, .slice Ao15 t299.length co15] 25 (0, 0)) (bvK BK303.out)) : gb303 ≠ gb315)); have n14_ := Aside0.mk ((by rw [hg]; exact Nat.ne_of_gt (blk_lt (g := gb303) (o := .cells #[.int .i64 t298, .slice Ao15 t299.length co15] 25 (0, 0)) (bvK BK303.out)) : gb315 ≠ gb303)); have n15_ := Aside0.mk ((by rw [hg]; exact Nat.ne_of_lt (blk_lt (g := gb309) (o := .cells #[.int .i64 t304, .slice Ao22 t305.length co22] 25 (0, 0)) (bvK BK309.out)) : gb309 ≠ gb315)); have n16_ := Aside0.mk ((by rw [hg]; exact Nat.ne_of_gt (blk_lt (g := gb309) (o := .cells #[.int .i64 t304, .slice Ao22 t305.length co22] 25 (0, 0)) (bvK BK309.out)) : gb315 ≠ gb309)); clear HO_298001; clear HO_304001; clear HO_310001; clear HO313; clear BK297; clear BK303; clear BK309; clear HB; have HO_298001 := n0_; have HO_304001 := n1_; have HO_310001 := n2_; have HO313 := n3_; have BK297 := n4_; have BK303 := n5_; have BK309 := n6_; have HB := n7_; have BK315 := n8_; have GW315 := n9_; have GE315 := n10_; have NB297_315 := n11_; have NB315_297 := n12_; have NB303_315 := n13_; have NB315_303 := n14_; have NB309_315 := n15_; have NB315_309 := n16_; clear n0_ n1_ n2_ n3_ n4_ n5_ n6_ n7_ n8_ n9_ n10_ n11_ n12_ n13_ n14_ n15_ n16_; clear hb hbox hg; have hnb56 := NB315_297.out; have hnc56 := NB297_315.out; have hnb57 := NB315_303.out; have hnc57 := NB303_315.out; have hnb58 := NB315_309.out; have hnc58 := NB309_315.out; have hcz59_0 : w55.cell? ⟨gb315, 0, none⟩ = some (.int .i64 0) := (blk_cell BK315.out 0).trans rfl; have hcz59_1 : w55.cell? ⟨gb315, 1, none⟩ = some (.slice none 0 0) := (blk_cell BK315.out 1).trans rfl; have hfz59_0 := blk_frozen BK315.out 0; have hfz59_1 := blk_frozen BK315.out 1; obtain ⟨Ao60, co60, eo60⟩ := Kd.R_slice HO313.out; subst eo60; have hcz61_0 : w55.cell? ⟨gb303, 0, none⟩ = some (.int .i64 t298) := (blk_cell BK303.out 0).trans rfl; have hcz61_1 : w55.cell? ⟨gb303, 1, none⟩ = some (.slice Ao15 t299.length co15) := (blk_cell BK303.out 1).trans rfl; have hfz61_0 := blk_frozen BK303.out 0; have hfz61_1 := blk_frozen BK303.out 1))
      go_loopg [80] kj5 (fun kq v80 w' => ∃ (x80_2 : Int), v80 = .int .i64 x80_2 ∧ Aside0 (laws_FnDiagramSame.l0 kq t295 t296 t302 t314 ji50 x80_2 t291 t292 t298 t299 t310 t311 = some r) ∧ Aside0 (kq ≤ kj5) ∧ Aside0 (Kd.R k71 71 w' w.heap.size (fun k_ => some k_ ≠ ((.slice Ao15 t299.length co15) : Value).ownBlock ∧ some k_ ≠ ((.slice Ao22 t305.length co22) : Value).ownBlock ∧ some k_ ≠ ((.slice Ao60 t311.length co60) : Value).ownBlock) (.slice Ao10 t292.length co10) t292) ∧ Aside0 (Kd.R k71 71 w' w.heap.size (fun k_ => some k_ ≠ ((.slice Ao10 t292.length co10) : Value).ownBlock ∧ some k_ ≠ ((.slice Ao22 t305.length co22) : Value).ownBlock ∧ some k_ ≠ ((.slice Ao60 t311.length co60) : Value).ownBlock) (.slice Ao15 t299.length co15) t299) ∧ Aside0 (Kd.R k71 71 w' w.heap.size (fun k_ => some k_ ≠ ((.slice Ao10 t292.length co10) : Value).ownBlock ∧ some k_ ≠ ((.slice Ao15 t299.length co15) : Value).ownBlock ∧ some k_ ≠ ((.slice Ao60 t311.length co60) : Value).ownBlock) (.slice Ao22 t305.length co22) t305) ∧ Aside0 (Kd.R k71 71 w' w.heap.size (fun k_ => some k_ ≠ ((.slice Ao10 t292.length co10) : Value).ownBlock ∧ some k_ ≠ ((.slice Ao15 t299.length co15) : Value).ownBlock ∧ some k_ ≠ ((.slice Ao22 t305.length co22) : Value).ownBlock) (.slice Ao60 t311.length co60) t311) ∧ Aside0 (w'.heap[gb297]? = some (.cells #[.int .i64 t291, (.slice Ao10 t292.length co10)] 25 (0, 0))) ∧ Aside0 (w'.heap[gb303]? = some (.cells #[.int .i64 t298, (.slice Ao15 t299.length co15)] 25 (0, 0))) ∧ Aside0 (w'.heap[gb309]? = some (.cells #[.int .i64 t304, (.slice Ao22 t305.length co22)] 25 (0, 0))) ∧ Aside0 (w'.heap[gb315]? = some (.cells #[.int .i64 t310, (.slice Ao60 t311.length co60)] 25 (0, 0))) ∧ Aside0 (Below w.heap.size w w'))
      case atStart => exact ⟨(0), rsd, H', ⟨Nat.le_refl _⟩, ⟨by (with_reducible repeat (first | apply Kd.R_alloc | apply Kd.R_drewN | apply Kd.R_drew)); exact Kd.R_mono (Kd.R_far (p := ⟨gb315, 1, none⟩) (Kd.R_far (p := ⟨gb315, 0, none⟩) (Kd.R_types HO_298001.out BK315.out (by decide)) (fun _ hk => hk.2) (.int .i64 t310)) (fun _ hk => hk.2) (.slice Ao60 t311.length co60)) (fun _ hk => ⟨hk.1.1.1, ⟨hk.1.1.2, hk.1.2⟩⟩)⟩, ⟨by (with_reducible repeat (first | apply Kd.R_alloc | apply Kd.R_drewN | apply Kd.R_drew)); exact Kd.R_mono (Kd.R_far (p := ⟨gb315, 1, none⟩) (Kd.R_far (p := ⟨gb315, 0, none⟩) (Kd.R_types HO_304001.out BK315.out (by decide)) (fun _ hk => hk.2) (.int .i64 t310)) (fun _ hk => hk.2) (.slice Ao60 t311.length co60)) (fun _ hk => ⟨hk.1.1.1, ⟨hk.1.1.2, hk.1.2⟩⟩)⟩, ⟨by (with_reducible repeat (first | apply Kd.R_alloc | apply Kd.R_drewN | apply Kd.R_drew)); exact Kd.R_mono (Kd.R_far (p := ⟨gb315, 1, none⟩) (Kd.R_far (p := ⟨gb315, 0, none⟩) (Kd.R_types HO_310001.out BK315.out (by decide)) (fun _ hk => hk.2) (.int .i64 t310)) (fun _ hk => hk.2) (.slice Ao60 t311.length co60)) (fun _ hk => ⟨hk.1.1.1, ⟨hk.1.1.2, hk.1.2⟩⟩)⟩, ⟨by (with_reducible repeat (first | apply Kd.R_alloc | apply Kd.R_drewN | apply Kd.R_drew)); exact Kd.R_mono (Kd.R_far (p := ⟨gb315, 1, none⟩) (Kd.R_far (p := ⟨gb315, 0, none⟩) (Kd.R_types HO313.out BK315.out (by decide)) (fun _ hk => hk.2) (.int .i64 t310)) (fun _ hk => hk.2) (.slice Ao60 t311.length co60)) (fun _ hk => ⟨hk.1.1.1.2, ⟨hk.1.1.2, hk.1.2⟩⟩)⟩, ⟨by (with_reducible repeat (first | refine blk_drewN ?_ _ | refine blk_drew ?_ | refine blk_alloc ?_ _)); refine blk_far ?_ NB297_315.out _; (with_reducible repeat (first | refine blk_drewN ?_ _ | refine blk_drew ?_ | refine blk_alloc ?_ _)); refine blk_far ?_ NB297_315.out _; (with_reducible repeat (first | refine blk_drewN ?_ _ | refine blk_drew ?_ | refine blk_alloc ?_ _)); exact BK297.out⟩, ⟨by (with_reducible repeat (first | refine blk_drewN ?_ _ | refine blk_drew ?_ | refine blk_alloc ?_ _)); refine blk_far ?_ NB303_315.out _; (with_reducible repeat (first | refine blk_drewN ?_ _ | refine blk_drew ?_ | refine blk_alloc ?_ _)); refine blk_far ?_ NB303_315.out _; (with_reducible repeat (first | refine blk_drewN ?_ _ | refine blk_drew ?_ | refine blk_alloc ?_ _)); exact BK303.out⟩, ⟨by (with_reducible repeat (first | refine blk_drewN ?_ _ | refine blk_drew ?_ | refine blk_alloc ?_ _)); refine blk_far ?_ NB309_315.out _; (with_reducible repeat (first | refine blk_drewN ?_ _ | refine blk_drew ?_ | refine blk_alloc ?_ _)); refine blk_far ?_ NB309_315.out _; (with_reducible repeat (first | refine blk_drewN ?_ _ | refine blk_drew ?_ | refine blk_alloc ?_ _)); exact BK309.out⟩, ⟨by (with_reducible repeat (first | refine blk_drewN ?_ _ | refine blk_drew ?_ | refine blk_alloc ?_ _)); refine blk_put (cs := #[.int .i64 t310, .slice none 0 0]) ?_ 1 _ rfl; (with_reducible repeat (first | refine blk_drewN ?_ _ | refine blk_drew ?_ | refine blk_alloc ?_ _)); refine blk_put (cs := #[.int .i64 0, .slice none 0 0]) ?_ 0 _ rfl; (with_reducible repeat (first | refine blk_drewN ?_ _ | refine blk_drew ?_ | refine blk_alloc ?_ _)); exact BK315.out⟩, ⟨by repeat (first | (with_reducible first | exact HB.out | apply bwA | apply bwN | apply bwD | refine below_set ?_ GE297.out | refine below_set ?_ GE303.out | refine below_set ?_ GE309.out | refine below_set ?_ GE315.out) | exact HB.out)⟩⟩
      case round =>
       clear H'
       try clear c1
       try clear c2
       try clear c2b0
       try clear c2b1
       try clear p2
       try clear c3
       try clear c4
       try clear c5
       try clear p6
       try clear c10
       try clear c13
       try clear c19
       try clear c20
       try clear c23
       try clear c23b0
       try clear c23b1
       try clear c24
       try clear c24b0
       try clear c24b1
       try clear c24b2
       try clear c25
       try clear c26
       try clear c27
       try clear c28
       try clear c30
       try clear c31
       try clear c33
       try clear c35
       try clear c36
       try clear c36b0
       try clear c36b1
       try clear c37
       try clear c37b0
       try clear c37b1
       try clear c37b2
       try clear c38
       try clear c39
       try clear c41
       try clear c43
       try clear c44
       try clear c46
       try clear c49
       try clear c49b0
       try clear c49b1
       try clear c51
       try clear c52
       try clear c56
       try clear c57
       try clear c58
       try clear hcz14_0
       try clear hcz14_1
       try clear hcz16_0
       try clear hcz16_1
       try clear hcz21_0
       try clear hcz21_1
       try clear hcz27_0
       try clear hcz27_1
       try clear hcz29_0
       try clear hcz29_1
       try clear hcz32_0
       try clear hcz32_1
       try clear hcz34_0
       try clear hcz34_1
       try clear hcz40_0
       try clear hcz40_1
       try clear hcz42_0
       try clear hcz42_1
       try clear hcz45_0
       try clear hcz45_1
       try clear hcz47_0
       try clear hcz47_1
       try clear hcz53_0
       try clear hcz53_1
       try clear hcz59_0
       try clear hcz59_1
       try clear hcz61_0
       try clear hcz61_1
       try clear hcz9_0
       try clear hcz9_1
       try clear hfz14_0
       try clear hfz14_1
       try clear hfz16_0
       try clear hfz16_1
       try clear hfz21_0
       try clear hfz21_1
       try clear hfz27_0
       try clear hfz27_1
       try clear hfz29_0
       try clear hfz29_1
       try clear hfz32_0
       try clear hfz32_1
       try clear hfz34_0
       try clear hfz34_1
       try clear hfz40_0
       try clear hfz40_1
       try clear hfz42_0
       try clear hfz42_1
       try clear hfz45_0
       try clear hfz45_1
       try clear hfz47_0
       try clear hfz47_1
       try clear hfz53_0
       try clear hfz53_1
       try clear hfz59_0
       try clear hfz59_1
       try clear hfz61_0
       try clear hfz61_1
       try clear hfz9_0
       try clear hfz9_1
       try clear p2
       obtain ⟨x80_2, rfl, HA, HK2, HO_298001, HO_304001, HO_310001, HO_316001, BK297, BK303, BK309, BK315, HB⟩ := hrel
       cases gk with
       | zero => exact absurd HA.out (by simp [laws_FnDiagramSame.l0])
       | succ k2 =>
        have H := HA.out
        clear HA
        simp only [laws_FnDiagramSame.l0] at H
        by_cases c62 : x80_2 < ji50
        ·rw [if_pos c62] at H
         have c62b0 : decide (x80_2 < ji50) = true := decide_eq_true c62
         clear c62
         obtain ⟨y317, hy317⟩ : ∃ y_ : List Int, y_ = (([] : List Int)) := ⟨_, rfl⟩
         replace H : (laws_FnDiagramSame.l1 k2 t295 t296 t302 t314 x80_2 y317 ji50 x80_2 t298 0 t291 t292 t298 t299 t310 t311) = some r := by first | (rw [hy317]; with_reducible exact H) | (have H2_ := (Option.bind_some _ _).symm.trans H; rw [hy317]; with_reducible exact H2_) | (have H2_ := (Option.bind_some _ _).symm.trans H; with_reducible exact H2_) | with_reducible exact H | (rw [hy317]; exact H) | exact H
         have Ny317 := Aside0.mk hy317
         clear hy317
         have H' := Aside0.mk H
         clear H
         go_wp2_with (first | ((with_reducible refine gate_dst (N := 83) rfl ?_); (try (refine gate_guard (by rfl) ?_; dsimp only)); refine Kd.R_lit (Kd.int .i64) _ 3 ?hg (N := 83) ?hd (xs := ([] : List Int)) (inner := []) (ok := fun _ => True) (okp := fun _ => True) ?hr ?hp (fun _ hk => hk) trivial (Below.refl _ _) (Nat.le_refl _) (by simp) ?_; (case hd => rfl); (case hg => rfl); (case hr => first | (go_simp; done) | (go_simp; rfl)); (case hp => exact (Reps.none _ _)); intro v318 w63 ho64 hb hg_ hnew_; clear hg_ hnew_; (first | rw [← Ny317.out] at ho64 | (simp only [Int.reduceToNat] at ho64; rw [← Ny317.out] at ho64)); have n0_ := Aside0.mk (Kd.R_below (rvR HO_298001.out) hb); have n1_ := Aside0.mk (Kd.R_below (rvR HO_304001.out) hb); have n2_ := Aside0.mk (Kd.R_below (rvR HO_310001.out) hb); have n3_ := Aside0.mk (Kd.R_below (rvR HO_316001.out) hb); have n4_ := Aside0.mk (Kd.R_lower ho64 (below_size (by repeat (first | (with_reducible first | exact HB.out | apply bwA | apply bwN | apply bwD | refine below_set ?_ GE297.out | refine below_set ?_ GE303.out | refine below_set ?_ GE309.out | refine below_set ?_ GE315.out) | exact HB.out)))); have n5_ := Aside0.mk (blk_below (g := gb297) (o := .cells #[.int .i64 t291, .slice Ao10 t292.length co10] 25 (0, 0)) (bvK BK297.out) hb); have n6_ := Aside0.mk (blk_below (g := gb303) (o := .cells #[.int .i64 t298, .slice Ao15 t299.length co15] 25 (0, 0)) (bvK BK303.out) hb); have n7_ := Aside0.mk (blk_below (g := gb309) (o := .cells #[.int .i64 t304, .slice Ao22 t305.length co22] 25 (0, 0)) (bvK BK309.out) hb); have n8_ := Aside0.mk (blk_below (g := gb315) (o := .cells #[.int .i64 t310, .slice Ao60 t311.length co60] 25 (0, 0)) (bvK BK315.out) hb); have n9_ := Aside0.mk (below_step (by repeat (first | (with_reducible first | exact HB.out | apply bwA | apply bwN | apply bwD | refine below_set ?_ GE297.out | refine below_set ?_ GE303.out | refine below_set ?_ GE309.out | refine below_set ?_ GE315.out) | exact HB.out)) hb); clear HO_298001; clear HO_304001; clear HO_310001; clear HO_316001; clear BK297; clear BK303; clear BK309; clear BK315; clear HB; have HO_298001 := n0_; have HO_304001 := n1_; have HO_310001 := n2_; have HO_316001 := n3_; have HO319 := n4_; have BK297 := n5_; have BK303 := n6_; have BK309 := n7_; have BK315 := n8_; have HB := n9_; clear n0_ n1_ n2_ n3_ n4_ n5_ n6_ n7_ n8_ n9_; clear hb ho64; have hnb65 := NB303_297.out; have hnc65 := NB297_303.out; have hnb66 := NB303_309.out; have hnc66 := NB309_303.out; have hnb67 := NB303_315.out; have hnc67 := NB315_303.out; have hcz68_0 : w63.cell? ⟨gb303, 0, none⟩ = some (.int .i64 t298) := (blk_cell BK303.out 0).trans rfl; have hcz68_1 : w63.cell? ⟨gb303, 1, none⟩ = some (.slice Ao15 t299.length co15) := (blk_cell BK303.out 1).trans rfl; have hfz68_0 := blk_frozen BK303.out 0; have hfz68_1 := blk_frozen BK303.out 1))
         go_loopg [13, 86] k2 (fun kq v13 v86 w' => ∃ (x13_3 : List Int) (x86_3 : Int), v86 = .int .i64 x86_3 ∧ Aside0 (laws_FnDiagramSame.l1 kq t295 t296 t302 t314 x80_2 x13_3 ji50 x80_2 t298 x86_3 t291 t292 t298 t299 t310 t311 = some r) ∧ Aside0 (kq ≤ k2) ∧ Aside0 (Kd.R (Kd.int .i64) 3 w' w.heap.size (fun _ => True) v13 x13_3) ∧ Aside0 (Kd.R k71 71 w' w.heap.size (fun k_ => some k_ ≠ ((.slice Ao15 t299.length co15) : Value).ownBlock ∧ some k_ ≠ ((.slice Ao22 t305.length co22) : Value).ownBlock ∧ some k_ ≠ ((.slice Ao60 t311.length co60) : Value).ownBlock) (.slice Ao10 t292.length co10) t292) ∧ Aside0 (Kd.R k71 71 w' w.heap.size (fun k_ => some k_ ≠ ((.slice Ao10 t292.length co10) : Value).ownBlock ∧ some k_ ≠ ((.slice Ao22 t305.length co22) : Value).ownBlock ∧ some k_ ≠ ((.slice Ao60 t311.length co60) : Value).ownBlock) (.slice Ao15 t299.length co15) t299) ∧ Aside0 (Kd.R k71 71 w' w.heap.size (fun k_ => some k_ ≠ ((.slice Ao10 t292.length co10) : Value).ownBlock ∧ some k_ ≠ ((.slice Ao15 t299.length co15) : Value).ownBlock ∧ some k_ ≠ ((.slice Ao60 t311.length co60) : Value).ownBlock) (.slice Ao22 t305.length co22) t305) ∧ Aside0 (Kd.R k71 71 w' w.heap.size (fun k_ => some k_ ≠ ((.slice Ao10 t292.length co10) : Value).ownBlock ∧ some k_ ≠ ((.slice Ao15 t299.length co15) : Value).ownBlock ∧ some k_ ≠ ((.slice Ao22 t305.length co22) : Value).ownBlock) (.slice Ao60 t311.length co60) t311) ∧ Aside0 (w'.heap[gb297]? = some (.cells #[.int .i64 t291, (.slice Ao10 t292.length co10)] 25 (0, 0))) ∧ Aside0 (w'.heap[gb303]? = some (.cells #[.int .i64 t298, (.slice Ao15 t299.length co15)] 25 (0, 0))) ∧ Aside0 (w'.heap[gb309]? = some (.cells #[.int .i64 t304, (.slice Ao22 t305.length co22)] 25 (0, 0))) ∧ Aside0 (w'.heap[gb315]? = some (.cells #[.int .i64 t310, (.slice Ao60 t311.length co60)] 25 (0, 0))) ∧ Aside0 (Below w.heap.size w w'))
         case atStart => exact ⟨(y317), (0), rsd, H', ⟨Nat.le_refl _⟩, ⟨rvR HO319.out⟩, ⟨rvR HO_298001.out⟩, ⟨rvR HO_304001.out⟩, ⟨rvR HO_310001.out⟩, ⟨rvR HO_316001.out⟩, ⟨bvK BK297.out⟩, ⟨bvK BK303.out⟩, ⟨bvK BK309.out⟩, ⟨bvK BK315.out⟩, ⟨by repeat (first | (with_reducible first | exact HB.out | apply bwA | apply bwN | apply bwD | refine below_set ?_ GE297.out | refine below_set ?_ GE303.out | refine below_set ?_ GE309.out | refine below_set ?_ GE315.out) | exact HB.out)⟩⟩
         case round =>
          clear H'
          try clear c1
          try clear c2
          try clear c2b0
          try clear c2b1
          try clear p2
          try clear c3
          try clear c4
          try clear c5
          try clear c6
          try clear p6
          try clear c10
          try clear c13
          try clear c19
          try clear c20
          try clear c23
          try clear c23b0
          try clear c23b1
          try clear c24
          try clear c24b0
          try clear c24b1
          try clear c24b2
          try clear c25
          try clear c26
          try clear c27
          try clear c28
          try clear c30
          try clear c31
          try clear c33
          try clear c35
          try clear c36
          try clear c36b0
          try clear c36b1
          try clear c37
          try clear c37b0
          try clear c37b1
          try clear c37b2
          try clear c38
          try clear c39
          try clear c41
          try clear c43
          try clear c44
          try clear c46
          try clear c49
          try clear c49b0
          try clear c49b1
          try clear c51
          try clear c52
          try clear c56
          try clear c57
          try clear c58
          try clear c62
          try clear c62b0
          try clear p64
          try clear c65
          try clear c66
          try clear c67
          try clear hcz14_0
          try clear hcz14_1
          try clear hcz16_0
          try clear hcz16_1
          try clear hcz21_0
          try clear hcz21_1
          try clear hcz27_0
          try clear hcz27_1
          try clear hcz29_0
          try clear hcz29_1
          try clear hcz32_0
          try clear hcz32_1
          try clear hcz34_0
          try clear hcz34_1
          try clear hcz40_0
          try clear hcz40_1
          try clear hcz42_0
          try clear hcz42_1
          try clear hcz45_0
          try clear hcz45_1
          try clear hcz47_0
          try clear hcz47_1
          try clear hcz53_0
          try clear hcz53_1
          try clear hcz59_0
          try clear hcz59_1
          try clear hcz61_0
          try clear hcz61_1
          try clear hcz68_0
          try clear hcz68_1
          try clear hcz9_0
          try clear hcz9_1
          try clear hfz14_0
          try clear hfz14_1
          try clear hfz16_0
          try clear hfz16_1
          try clear hfz21_0
          try clear hfz21_1
          try clear hfz27_0
          try clear hfz27_1
          try clear hfz29_0
          try clear hfz29_1
          try clear hfz32_0
          try clear hfz32_1
          try clear hfz34_0
          try clear hfz34_1
          try clear hfz40_0
          try clear hfz40_1
          try clear hfz42_0
          try clear hfz42_1
          try clear hfz45_0
          try clear hfz45_1
          try clear hfz47_0
          try clear hfz47_1
          try clear hfz53_0
          try clear hfz53_1
          try clear hfz59_0
          try clear hfz59_1
          try clear hfz61_0
          try clear hfz61_1
          try clear hfz68_0
          try clear hfz68_1
          try clear hfz9_0
          try clear hfz9_1
          try clear p2
          try clear p6
          obtain ⟨x13_3, x86_3, rfl, HA, HK3, HO_13, HO_298001, HO_304001, HO_310001, HO_316001, BK297, BK303, BK309, BK315, HB⟩ := hrel
          cases gk with
          | zero => exact absurd HA.out (by simp [laws_FnDiagramSame.l1])
          | succ k3 =>
           have H := HA.out
           clear HA
           simp only [laws_FnDiagramSame.l1] at H
           by_cases c69 : x86_3 < t298
           ·rw [if_pos c69] at H
            have c69b0 : decide (x86_3 < t298) = true := decide_eq_true c69
            clear c69
            by_cases c70 : 0 ≤ x86_3
            ·rw [if_pos c70] at H
             have c70b0 := eq_true c70
             have c70b1 : decide (0 ≤ x86_3) = true := decide_eq_true c70
             clear c70
             obtain ⟨ji71, hji71⟩ : ∃ j_ : Int, (shr .i64 x80_2 x86_3) = j_ := ⟨_, rfl⟩
             replace H : (if x13_3.length < 17592186044416 then (laws_FnDiagramSame.l1 k3 t295 t296 t302 t314 x80_2 (x13_3 ++ [Int.tmod (ji71) 2]) ji50 x80_2 t298 (wrap64 (x86_3 + 1)) t291 t292 t298 t299 t310 t311) else (none)) = some r := by first | (rw [hji71] at H; exact H) | (simp only [hji71] at H ⊢; exact H)
             have hji71_ : (x80_2 / 2 ^ min x86_3.toNat 64) = ji71 := hji71
             have hji71z : x86_3 ≤ 64 → (x80_2 / 2 ^ x86_3.toNat) = ji71 := shr_small hji71
             by_cases c72 : x13_3.length < 17592186044416
             ·rw [if_pos c72] at H
              have LMc72 := Aside0.mk c72
              clear c72
              obtain ⟨y320, hy320⟩ : ∃ y_ : List Int, y_ = (x13_3 ++ [Int.tmod (ji71) 2]) := ⟨_, rfl⟩
              replace H : (laws_FnDiagramSame.l1 k3 t295 t296 t302 t314 x80_2 y320 ji50 x80_2 t298 (wrap64 (x86_3 + 1)) t291 t292 t298 t299 t310 t311) = some r := by first | (rw [hy320]; with_reducible exact H) | (have H2_ := (Option.bind_some _ _).symm.trans H; rw [hy320]; with_reducible exact H2_) | (have H2_ := (Option.bind_some _ _).symm.trans H; with_reducible exact H2_) | with_reducible exact H | (rw [hy320]; exact H) | exact H
              have Ny320 := Aside0.mk hy320
              clear hy320
              have H' := Aside0.mk H
              clear H
              go_wp2_with (first | ((with_reducible refine gate_builtin (b := .append) (xs := #[.tmp 89, .tmp 94]) rfl ?_); (try (refine gate_guard (by rfl) ?_; dsimp only)); at_builtin; refine Kd.R_append (Kd.int .i64) (w0 := w) w.heap.size rfl (.tmp 89) (.tmp 94) 49 3 (.int .i64 0) 8 rfl Try.underlying49 info3 rfl (by decide) (by omega) u13 x13_3 (Int.tmod (ji71) 2) [.int .i64 (Int.tmod (ji71) 2)] (fun _ => True) (fun _ => False) rfl rfl ?aP (fun _ hk => hk.elim) ?aF ?aO ?aB ?aS ?aL ?_; (case aP => exact rfl); (case aB => exact (by repeat (first | (with_reducible first | exact HB.out | apply bwA | apply bwN | apply bwD | refine below_set ?_ GE297.out | refine below_set ?_ GE303.out | refine below_set ?_ GE309.out | refine below_set ?_ GE315.out) | exact HB.out))); (case aF => exact (fun _ _ => trivial)); (case aO => exact (rvR HO_13.out)); (case aS => exact (below_size (by repeat (first | (with_reducible first | exact HB.out | apply bwA | apply bwN | apply bwD | refine below_set ?_ GE297.out | refine below_set ?_ GE303.out | refine below_set ?_ GE309.out | refine below_set ?_ GE315.out) | exact HB.out)))); (case aL => have := LMc72.out; omega); intro v321 w73 ho hb hg hat; rw [← Ny320.out] at ho; have n0_ := Aside0.mk (Kd.R_over' (rvR HO_298001.out) (Kd.R_typed (rvR HO_13.out)) (by decide) hg); have n1_ := Aside0.mk (Kd.R_over' (rvR HO_304001.out) (Kd.R_typed (rvR HO_13.out)) (by decide) hg); have n2_ := Aside0.mk (Kd.R_over' (rvR HO_310001.out) (Kd.R_typed (rvR HO_13.out)) (by decide) hg); have n3_ := Aside0.mk (Kd.R_over' (rvR HO_316001.out) (Kd.R_typed (rvR HO_13.out)) (by decide) hg); have n4_ := Aside0.mk (blk_grown (g := gb297) (o := .cells #[.int .i64 t291, .slice Ao10 t292.length co10] 25 (0, 0)) (bvK BK297.out) hg (Kd.R_ne HO_13.out BK297.out (by decide))); have n5_ := Aside0.mk (blk_grown (g := gb303) (o := .cells #[.int .i64 t298, .slice Ao15 t299.length co15] 25 (0, 0)) (bvK BK303.out) hg (Kd.R_ne HO_13.out BK303.out (by decide))); have n6_ := Aside0.mk (blk_grown (g := gb309) (o := .cells #[.int .i64 t304, .slice Ao22 t305.length co22] 25 (0, 0)) (bvK BK309.out) hg (Kd.R_ne HO_13.out BK309.out (by decide))); have n7_ := Aside0.mk (blk_grown (g := gb315) (o := .cells #[.int .i64 t310, .slice Ao60 t311.length co60] 25 (0, 0)) (bvK BK315.out) hg (Kd.R_ne HO_13.out BK315.out (by decide))); have n8_ := Aside0.mk (hb); have n9_ := Aside0.mk (ho); clear HO_298001; clear HO_304001; clear HO_310001; clear HO_316001; clear BK297; clear BK303; clear BK309; clear BK315; clear HB; clear HO_13; have HO_298001 := n0_; have HO_304001 := n1_; have HO_310001 := n2_; have HO_316001 := n3_; have BK297 := n4_; have BK303 := n5_; have BK309 := n6_; have BK315 := n7_; have HB := n8_; have HO322 := n9_; clear n0_ n1_ n2_ n3_ n4_ n5_ n6_ n7_ n8_ n9_; clear ho hb hg hat))
              go_roundg k3
              case measure => have := HJ5.out; have := HK2.out; have := HK3.out; omega
              case rel => exact ⟨(y320), (wrap64 (x86_3 + 1)), rsd, H', ⟨by have := HJ5.out; have := HK2.out; have := HK3.out; omega⟩, ⟨rvR HO322.out⟩, ⟨rvR HO_298001.out⟩, ⟨rvR HO_304001.out⟩, ⟨rvR HO_310001.out⟩, ⟨rvR HO_316001.out⟩, ⟨bvK BK297.out⟩, ⟨bvK BK303.out⟩, ⟨bvK BK309.out⟩, ⟨bvK BK315.out⟩, ⟨by repeat (first | (with_reducible first | exact HB.out | apply bwA | apply bwN | apply bwD | refine below_set ?_ GE297.out | refine below_set ?_ GE303.out | refine below_set ?_ GE309.out | refine below_set ?_ GE315.out) | exact HB.out)⟩⟩
             ·rw [if_neg c72] at H
              exact absurd H (by simp)
            ·rw [if_neg c70] at H
             exact absurd H (by simp)
           ·rw [if_neg c69] at H
            have c69b0 : decide (x86_3 < t298) = false := decide_eq_false c69
            clear c69
            replace H := Option.bind_eq_some_iff.mp H
            obtain ⟨t323, A740, H⟩ := H
            replace H : ((impl_DiagramValue.f k3 t291 t292 t295 x13_3).bind fun t324 => ((impl_DiagramValue.f k3 t291 t292 t296 x13_3).bind fun t325 => (if t323 = (wrap64 (t324 * t325)) then (laws_FnDiagramSame.l0 k3 t295 t296 t302 t314 ji50 (wrap64 (x80_2 + 1)) t291 t292 t298 t299 t310 t311) else (some false)))) = some r := H
            have A74 := Aside0.mk A740
            clear A740
            replace H := Option.bind_eq_some_iff.mp H
            obtain ⟨t324, A750, H⟩ := H
            replace H : ((impl_DiagramValue.f k3 t291 t292 t296 x13_3).bind fun t325 => (if t323 = (wrap64 (t324 * t325)) then (laws_FnDiagramSame.l0 k3 t295 t296 t302 t314 ji50 (wrap64 (x80_2 + 1)) t291 t292 t298 t299 t310 t311) else (some false))) = some r := H
            have A75 := Aside0.mk A750
            clear A750
            replace H := Option.bind_eq_some_iff.mp H
            obtain ⟨t325, A760, H⟩ := H
            replace H : (if t323 = (wrap64 (t324 * t325)) then (laws_FnDiagramSame.l0 k3 t295 t296 t302 t314 ji50 (wrap64 (x80_2 + 1)) t291 t292 t298 t299 t310 t311) else (some false)) = some r := H
            have A76 := Aside0.mk A760
            clear A760
            by_cases c77 : t323 = (wrap64 (t324 * t325))
            ·rw [if_pos c77] at H
             have c77b0 : (t323 == (wrap64 (t324 * t325))) = true := beq_iff_eq.mpr c77
             have c77b1 : (t323 != (wrap64 (t324 * t325))) = false := bne_eq_false_iff_eq.mpr c77
             clear c77
             have H' := Aside0.mk H
             clear H
             try go_wp2
             have n0_ := Aside0.mk (Kd.R_drew HO_13.out)
             have n1_ := Aside0.mk (Kd.R_drew HO_298001.out)
             have n2_ := Aside0.mk (Kd.R_drew HO_304001.out)
             have n3_ := Aside0.mk (Kd.R_drew HO_310001.out)
             have n4_ := Aside0.mk (Kd.R_drew HO_316001.out)
             have n5_ := Aside0.mk (blk_drew BK297.out)
             have n6_ := Aside0.mk (blk_drew BK303.out)
             have n7_ := Aside0.mk (blk_drew BK309.out)
             have n8_ := Aside0.mk (blk_drew BK315.out)
             have n9_ := Aside0.mk (below_drew1 HB.out)
             clear HO_13
             clear HO_298001
             clear HO_304001
             clear HO_310001
             clear HO_316001
             clear BK297
             clear BK303
             clear BK309
             clear BK315
             clear HB
             have HO_13 := n0_
             have HO_298001 := n1_
             have HO_304001 := n2_
             have HO_310001 := n3_
             have HO_316001 := n4_
             have BK297 := n5_
             have BK303 := n6_
             have BK309 := n7_
             have BK315 := n8_
             have HB := n9_
             clear n0_ n1_ n2_ n3_ n4_ n5_ n6_ n7_ n8_ n9_
             obtain ⟨Ao79, co79, eo79⟩ := Kd.R_slice HO_13.out
             (first | subst eo79 | (injection eo79 with f1_ f2_ f3_; have f4_ := f1_.symm; have f5_ := f3_.symm; clear f1_ f2_ f3_; subst f4_; subst f5_))
             refine start_ (n := 14) (S := fun w' => w'.cell? ⟨gb303, 0, none⟩ = some (.int .i64 t298) ∧ w'.cell? ⟨gb303, 1, none⟩ = some (.slice Ao15 t299.length co15) ∧ w'.cell? ⟨gb297, 0, none⟩ = some (.int .i64 t291) ∧ w'.cell? ⟨gb297, 1, none⟩ = some (.slice Ao10 t292.length co10)) (ds := []) (Pt.bm 14 0) (by kernel_rfl) rfl rfl ⟨(blk_cell BK303.out 0).trans rfl, (blk_cell BK303.out 1).trans rfl, (blk_cell BK297.out 0).trans rfl, (blk_cell BK297.out 1).trans rfl⟩ (fun hHeld => ?_); refine with_tabW laws_FnDiagramSame.tab18 laws_FnDiagramSame.bits18 (fun HT_ HW_ => ?_)
             generalize wr.drew = w78 at HO_13 HO_298001 HO_304001 HO_310001 HO_316001 BK297 BK303 BK309 BK315 HB hHeld ⊢
             refine Pt.pu 1 (some 98) (Pt.bm 14 2) (any_of HT_.out (by kernel_rfl)) ?_
             refine Pt.pu 2 (some 99) (Pt.bm 14 6) (any_of HT_.out (by kernel_rfl)) ?_
             refine Pt.pu 5 (some 102) (Pt.bm 14 38) (any_of HT_.out (by kernel_rfl)) ?_
             refine Pt.pu 6 (some 103) (Pt.bm 14 102) (any_of HT_.out (by kernel_rfl)) ?_
             refine Pt.pu 9 (some 106) (Pt.bm 14 614) (any_of HT_.out (by kernel_rfl)) ?_
             refine Pt.pu 10 (some 107) (Pt.bm 14 1638) (any_of HT_.out (by kernel_rfl)) ?_
             refine Pt.tk 0 (some 97) (Pt.bm 14 1639) rfl rfl (take_ofW HT_.out HW_.out (by kernel_rfl)) hHeld (Or.inl ⟨by rfl, by rintro w' ⟨s0, s1, s2, s3⟩; go_simp; with_reducible rfl⟩) ?_
             refine Pt.tk 4 (some 101) (Pt.bm 14 1655) rfl rfl (take_ofW HT_.out HW_.out (by kernel_rfl)) hHeld (Or.inl ⟨by rfl, by rintro w' ⟨s0, s1, s2, s3⟩; go_simp; with_reducible rfl⟩) ?_
             refine Pt.tk 8 (some 105) (Pt.bm 14 1911) rfl rfl (take_ofW HT_.out HW_.out (by kernel_rfl)) hHeld (Or.inl ⟨by rfl, by rintro w' ⟨s0, s1, s2, s3⟩; go_simp; with_reducible rfl⟩) ?_
             refine one_ (i := 3) (N := some 100) (Pt.bm 14 1919) rfl rfl (one_of HT_.out (by kernel_rfl)) (by decide) (fun K hK => ?_)
             refine goes_ Try.func34 (by kernel_rfl) rfl #[.agg #[.int .i64 t298, .slice Ao15 t299.length co15], .int .i64 t302, .slice Ao79 x13_3.length co79] (by rfl) rfl rfl lmB ?_
             with_reducible refine (impl_DiagramValue.calls k3 t298 _ _ t299 t302 _ _ x13_3 t323 _ ?side1 ?side2 ?side3 ?side4 A74.out).mono ?_
             (case side1 => repeat (first | exact (Kd.R_reads' HO_304001.out).2.2 | (with_reducible refine Kd.C_alloc ?_ _) | (with_reducible refine Kd.C_drewN ?_ _) | (with_reducible refine Kd.C_drew ?_)))
             (case side2 => exact (Kd.R_reads' HO_304001.out).2.1)
             (case side3 => repeat (first | exact (Kd.R_reads' HO_13.out).2.2 | (with_reducible refine Kd.C_alloc ?_ _) | (with_reducible refine Kd.C_drewN ?_ _) | (with_reducible refine Kd.C_drew ?_)))
             (case side4 => exact (Kd.R_reads' HO_13.out).2.1)
             rintro e w80 ⟨rfl, hb⟩
             refine ⟨_, rfl, ?_⟩
             have n0_ := Aside0.mk (Kd.R_below (rvR HO_13.out) hb)
             have n1_ := Aside0.mk (Kd.R_below (rvR HO_298001.out) hb)
             have n2_ := Aside0.mk (Kd.R_below (rvR HO_304001.out) hb)
             have n3_ := Aside0.mk (Kd.R_below (rvR HO_310001.out) hb)
             have n4_ := Aside0.mk (Kd.R_below (rvR HO_316001.out) hb)
             have n5_ := Aside0.mk (blk_below (g := gb297) (o := .cells #[.int .i64 t291, .slice Ao10 t292.length co10] 25 (0, 0)) (bvK BK297.out) hb)
             have n6_ := Aside0.mk (blk_below (g := gb303) (o := .cells #[.int .i64 t298, .slice Ao15 t299.length co15] 25 (0, 0)) (bvK BK303.out) hb)
             have n7_ := Aside0.mk (blk_below (g := gb309) (o := .cells #[.int .i64 t304, .slice Ao22 t305.length co22] 25 (0, 0)) (bvK BK309.out) hb)
             have n8_ := Aside0.mk (blk_below (g := gb315) (o := .cells #[.int .i64 t310, .slice Ao60 t311.length co60] 25 (0, 0)) (bvK BK315.out) hb)
             have n9_ := Aside0.mk (below_step (by repeat (first | (with_reducible first | exact HB.out | apply bwA | apply bwN | apply bwD | refine below_set ?_ GE297.out | refine below_set ?_ GE303.out | refine below_set ?_ GE309.out | refine below_set ?_ GE315.out) | exact HB.out)) hb)
             clear HO_13
             clear HO_298001
             clear HO_304001
             clear HO_310001
             clear HO_316001
             clear BK297
             clear BK303
             clear BK309
             clear BK315
             clear HB
             have HO_13 := n0_
             have HO_298001 := n1_
             have HO_304001 := n2_
             have HO_310001 := n3_
             have HO_316001 := n4_
             have BK297 := n5_
             have BK303 := n6_
             have BK309 := n7_
             have BK315 := n8_
             have HB := n9_
             clear n0_ n1_ n2_ n3_ n4_ n5_ n6_ n7_ n8_ n9_
             (try clear hb)
             (try clear hb2)
             (try clear hk)
             (try clear hi)
             refine hK.out _ _ ⟨(blk_cell BK303.out 0).trans rfl, (blk_cell BK303.out 1).trans rfl, (blk_cell BK297.out 0).trans rfl, (blk_cell BK297.out 1).trans rfl⟩ (fun hHeld => ?_)
             clear hK K
             refine norm_ (a' := ?_) ?_ ?_
             rotate_left
             ·show Act.put _ (some 100) _ = _
              simp only [Act.put, List.setIfInBounds_toArray, List.set_cons_zero, List.set_cons_succ, i64_w, i32_w]
              rfl
             refine one_ (i := 7) (N := some 104) (Pt.bm 14 2047) rfl rfl (one_of HT_.out (by kernel_rfl)) (by decide) (fun K hK => ?_)
             refine goes_ Try.func34 (by kernel_rfl) rfl #[.agg #[.int .i64 t291, .slice Ao10 t292.length co10], .int .i64 t295, .slice Ao79 x13_3.length co79] (by rfl) rfl rfl lmB ?_
             with_reducible refine (impl_DiagramValue.calls k3 t291 _ _ t292 t295 _ _ x13_3 t324 _ ?side1 ?side2 ?side3 ?side4 A75.out).mono ?_
             (case side1 => repeat (first | exact (Kd.R_reads' HO_298001.out).2.2 | (with_reducible refine Kd.C_alloc ?_ _) | (with_reducible refine Kd.C_drewN ?_ _) | (with_reducible refine Kd.C_drew ?_)))
             (case side2 => exact (Kd.R_reads' HO_298001.out).2.1)
             (case side3 => repeat (first | exact (Kd.R_reads' HO_13.out).2.2 | (with_reducible refine Kd.C_alloc ?_ _) | (with_reducible refine Kd.C_drewN ?_ _) | (with_reducible refine Kd.C_drew ?_)))
             (case side4 => exact (Kd.R_reads' HO_13.out).2.1)
             rintro e w81 ⟨rfl, hb⟩
             refine ⟨_, rfl, ?_⟩
             have n0_ := Aside0.mk (Kd.R_below (rvR HO_13.out) hb)
             have n1_ := Aside0.mk (Kd.R_below (rvR HO_298001.out) hb)
             have n2_ := Aside0.mk (Kd.R_below (rvR HO_304001.out) hb)
             have n3_ := Aside0.mk (Kd.R_below (rvR HO_310001.out) hb)
             have n4_ := Aside0.mk (Kd.R_below (rvR HO_316001.out) hb)
             have n5_ := Aside0.mk (blk_below (g := gb297) (o := .cells #[.int .i64 t291, .slice Ao10 t292.length co10] 25 (0, 0)) (bvK BK297.out) hb)
             have n6_ := Aside0.mk (blk_below (g := gb303) (o := .cells #[.int .i64 t298, .slice Ao15 t299.length co15] 25 (0, 0)) (bvK BK303.out) hb)
             have n7_ := Aside0.mk (blk_below (g := gb309) (o := .cells #[.int .i64 t304, .slice Ao22 t305.length co22] 25 (0, 0)) (bvK BK309.out) hb)
             have n8_ := Aside0.mk (blk_below (g := gb315) (o := .cells #[.int .i64 t310, .slice Ao60 t311.length co60] 25 (0, 0)) (bvK BK315.out) hb)
             have n9_ := Aside0.mk (below_step (by repeat (first | (with_reducible first | exact HB.out | apply bwA | apply bwN | apply bwD | refine below_set ?_ GE297.out | refine below_set ?_ GE303.out | refine below_set ?_ GE309.out | refine below_set ?_ GE315.out) | exact HB.out)) hb)
             clear HO_13
             clear HO_298001
             clear HO_304001
             clear HO_310001
             clear HO_316001
             clear BK297
             clear BK303
             clear BK309
             clear BK315
             clear HB
             have HO_13 := n0_
             have HO_298001 := n1_
             have HO_304001 := n2_
             have HO_310001 := n3_
             have HO_316001 := n4_
             have BK297 := n5_
             have BK303 := n6_
             have BK309 := n7_
             have BK315 := n8_
             have HB := n9_
             clear n0_ n1_ n2_ n3_ n4_ n5_ n6_ n7_ n8_ n9_
             (try clear hb)
             (try clear hb2)
             (try clear hk)
             (try clear hi)
             refine hK.out _ _ ⟨(blk_cell BK303.out 0).trans rfl, (blk_cell BK303.out 1).trans rfl, (blk_cell BK297.out 0).trans rfl, (blk_cell BK297.out 1).trans rfl⟩ (fun hHeld => ?_)
             clear hK K
             refine norm_ (a' := ?_) ?_ ?_
             rotate_left
             ·show Act.put _ (some 104) _ = _
              simp only [Act.put, List.setIfInBounds_toArray, List.set_cons_zero, List.set_cons_succ, i64_w, i32_w]
              rfl
             refine one_ (i := 11) (N := some 108) (Pt.bm 14 4095) rfl rfl (one_of HT_.out (by kernel_rfl)) (by decide) (fun K hK => ?_)
             refine goes_ Try.func34 (by kernel_rfl) rfl #[.agg #[.int .i64 t291, .slice Ao10 t292.length co10], .int .i64 t296, .slice Ao79 x13_3.length co79] (by rfl) rfl rfl lmB ?_
             with_reducible refine (impl_DiagramValue.calls k3 t291 _ _ t292 t296 _ _ x13_3 t325 _ ?side1 ?side2 ?side3 ?side4 A76.out).mono ?_
             (case side1 => repeat (first | exact (Kd.R_reads' HO_298001.out).2.2 | (with_reducible refine Kd.C_alloc ?_ _) | (with_reducible refine Kd.C_drewN ?_ _) | (with_reducible refine Kd.C_drew ?_)))
             (case side2 => exact (Kd.R_reads' HO_298001.out).2.1)
             (case side3 => repeat (first | exact (Kd.R_reads' HO_13.out).2.2 | (with_reducible refine Kd.C_alloc ?_ _) | (with_reducible refine Kd.C_drewN ?_ _) | (with_reducible refine Kd.C_drew ?_)))
             (case side4 => exact (Kd.R_reads' HO_13.out).2.1)
             rintro e w82 ⟨rfl, hb⟩
             refine ⟨_, rfl, ?_⟩
             have n0_ := Aside0.mk (Kd.R_below (rvR HO_13.out) hb)
             have n1_ := Aside0.mk (Kd.R_below (rvR HO_298001.out) hb)
             have n2_ := Aside0.mk (Kd.R_below (rvR HO_304001.out) hb)
             have n3_ := Aside0.mk (Kd.R_below (rvR HO_310001.out) hb)
             have n4_ := Aside0.mk (Kd.R_below (rvR HO_316001.out) hb)
             have n5_ := Aside0.mk (blk_below (g := gb297) (o := .cells #[.int .i64 t291, .slice Ao10 t292.length co10] 25 (0, 0)) (bvK BK297.out) hb)
             have n6_ := Aside0.mk (blk_below (g := gb303) (o := .cells #[.int .i64 t298, .slice Ao15 t299.length co15] 25 (0, 0)) (bvK BK303.out) hb)
             have n7_ := Aside0.mk (blk_below (g := gb309) (o := .cells #[.int .i64 t304, .slice Ao22 t305.length co22] 25 (0, 0)) (bvK BK309.out) hb)
             have n8_ := Aside0.mk (blk_below (g := gb315) (o := .cells #[.int .i64 t310, .slice Ao60 t311.length co60] 25 (0, 0)) (bvK BK315.out) hb)
             have n9_ := Aside0.mk (below_step (by repeat (first | (with_reducible first | exact HB.out | apply bwA | apply bwN | apply bwD | refine below_set ?_ GE297.out | refine below_set ?_ GE303.out | refine below_set ?_ GE309.out | refine below_set ?_ GE315.out) | exact HB.out)) hb)
             clear HO_13
             clear HO_298001
             clear HO_304001
             clear HO_310001
             clear HO_316001
             clear BK297
             clear BK303
             clear BK309
             clear BK315
             clear HB
             have HO_13 := n0_
             have HO_298001 := n1_
             have HO_304001 := n2_
             have HO_310001 := n3_
             have HO_316001 := n4_
             have BK297 := n5_
             have BK303 := n6_
             have BK309 := n7_
             have BK315 := n8_
             have HB := n9_
             clear n0_ n1_ n2_ n3_ n4_ n5_ n6_ n7_ n8_ n9_
             (try clear hb)
             (try clear hb2)
             (try clear hk)
             (try clear hi)
             refine hK.out _ _ ⟨(blk_cell BK303.out 0).trans rfl, (blk_cell BK303.out 1).trans rfl, (blk_cell BK297.out 0).trans rfl, (blk_cell BK297.out 1).trans rfl⟩ (fun hHeld => ?_)
             clear hK K
             refine norm_ (a' := ?_) ?_ ?_
             rotate_left
             ·show Act.put _ (some 108) _ = _
              simp only [Act.put, List.setIfInBounds_toArray, List.set_cons_zero, List.set_cons_succ, i64_w, i32_w]
              rfl
             refine Pt.pu 12 (some 109) (Pt.bm 14 8191) (any_of HT_.out (by kernel_rfl)) ?_
             refine Pt.pu 13 (some 110) (Pt.bm 14 16383) (any_of HT_.out (by kernel_rfl)) ?_
             refine done_ (done_of HT_.out (by kernel_rfl)) ?_
             try go_wp2
             go_roundg k3
             case measure => have := HJ5.out; have := HK2.out; have := HK3.out; omega
             case rel => exact ⟨(wrap64 (x80_2 + 1)), rsd, H', ⟨by have := HJ5.out; have := HK2.out; have := HK3.out; omega⟩, ⟨rvR HO_298001.out⟩, ⟨rvR HO_304001.out⟩, ⟨rvR HO_310001.out⟩, ⟨rvR HO_316001.out⟩, ⟨bvK BK297.out⟩, ⟨bvK BK303.out⟩, ⟨bvK BK309.out⟩, ⟨bvK BK315.out⟩, ⟨by repeat (first | (with_reducible first | exact HB.out | apply bwA | apply bwN | apply bwD | refine below_set ?_ GE297.out | refine below_set ?_ GE303.out | refine below_set ?_ GE309.out | refine below_set ?_ GE315.out) | exact HB.out)⟩⟩
            ·rw [if_neg c77] at H
             have c77b0 : (t323 == (wrap64 (t324 * t325))) = false := beq_eq_false_iff_ne.mpr c77
             have c77b1 : (t323 != (wrap64 (t324 * t325))) = true := bne_iff_ne.mpr c77
             obtain rfl := Option.some.inj H
             try go_wp2
             have n0_ := Aside0.mk (Kd.R_drew HO_13.out)
             have n1_ := Aside0.mk (Kd.R_drew HO_298001.out)
             have n2_ := Aside0.mk (Kd.R_drew HO_304001.out)
             have n3_ := Aside0.mk (Kd.R_drew HO_310001.out)
             have n4_ := Aside0.mk (Kd.R_drew HO_316001.out)
             have n5_ := Aside0.mk (blk_drew BK297.out)
             have n6_ := Aside0.mk (blk_drew BK303.out)
             have n7_ := Aside0.mk (blk_drew BK309.out)
             have n8_ := Aside0.mk (blk_drew BK315.out)
             have n9_ := Aside0.mk (below_drew1 HB.out)
             clear HO_13
             clear HO_298001
             clear HO_304001
             clear HO_310001
             clear HO_316001
             clear BK297
             clear BK303
             clear BK309
             clear BK315
             clear HB
             have HO_13 := n0_
             have HO_298001 := n1_
             have HO_304001 := n2_
             have HO_310001 := n3_
             have HO_316001 := n4_
             have BK297 := n5_
             have BK303 := n6_
             have BK309 := n7_
             have BK315 := n8_
             have HB := n9_
             clear n0_ n1_ n2_ n3_ n4_ n5_ n6_ n7_ n8_ n9_
             obtain ⟨Ao84, co84, eo84⟩ := Kd.R_slice HO_13.out
             (first | subst eo84 | (injection eo84 with f1_ f2_ f3_; have f4_ := f1_.symm; have f5_ := f3_.symm; clear f1_ f2_ f3_; subst f4_; subst f5_))
             refine start_ (n := 14) (S := fun w' => w'.cell? ⟨gb303, 0, none⟩ = some (.int .i64 t298) ∧ w'.cell? ⟨gb303, 1, none⟩ = some (.slice Ao15 t299.length co15) ∧ w'.cell? ⟨gb297, 0, none⟩ = some (.int .i64 t291) ∧ w'.cell? ⟨gb297, 1, none⟩ = some (.slice Ao10 t292.length co10)) (ds := []) (Pt.bm 14 0) (by kernel_rfl) rfl rfl ⟨(blk_cell BK303.out 0).trans rfl, (blk_cell BK303.out 1).trans rfl, (blk_cell BK297.out 0).trans rfl, (blk_cell BK297.out 1).trans rfl⟩ (fun hHeld => ?_); refine with_tabW laws_FnDiagramSame.tab18 laws_FnDiagramSame.bits18 (fun HT_ HW_ => ?_)
             generalize wr.drew = w83 at HO_13 HO_298001 HO_304001 HO_310001 HO_316001 BK297 BK303 BK309 BK315 HB hHeld ⊢
             refine Pt.pu 1 (some 98) (Pt.bm 14 2) (any_of HT_.out (by kernel_rfl)) ?_
             refine Pt.pu 2 (some 99) (Pt.bm 14 6) (any_of HT_.out (by kernel_rfl)) ?_
             refine Pt.pu 5 (some 102) (Pt.bm 14 38) (any_of HT_.out (by kernel_rfl)) ?_
             refine Pt.pu 6 (some 103) (Pt.bm 14 102) (any_of HT_.out (by kernel_rfl)) ?_
             refine Pt.pu 9 (some 106) (Pt.bm 14 614) (any_of HT_.out (by kernel_rfl)) ?_
             refine Pt.pu 10 (some 107) (Pt.bm 14 1638) (any_of HT_.out (by kernel_rfl)) ?_
             refine Pt.tk 0 (some 97) (Pt.bm 14 1639) rfl rfl (take_ofW HT_.out HW_.out (by kernel_rfl)) hHeld (Or.inl ⟨by rfl, by rintro w' ⟨s0, s1, s2, s3⟩; go_simp; with_reducible rfl⟩) ?_
             refine Pt.tk 4 (some 101) (Pt.bm 14 1655) rfl rfl (take_ofW HT_.out HW_.out (by kernel_rfl)) hHeld (Or.inl ⟨by rfl, by rintro w' ⟨s0, s1, s2, s3⟩; go_simp; with_reducible rfl⟩) ?_
             refine Pt.tk 8 (some 105) (Pt.bm 14 1911) rfl rfl (take_ofW HT_.out HW_.out (by kernel_rfl)) hHeld (Or.inl ⟨by rfl, by rintro w' ⟨s0, s1, s2, s3⟩; go_simp; with_reducible rfl⟩) ?_
             refine one_ (i := 3) (N := some 100) (Pt.bm 14 1919) rfl rfl (one_of HT_.out (by kernel_rfl)) (by decide) (fun K hK => ?_)
             refine goes_ Try.func34 (by kernel_rfl) rfl #[.agg #[.int .i64 t298, .slice Ao15 t299.length co15], .int .i64 t302, .slice Ao84 x13_3.length co84] (by rfl) rfl rfl lmB ?_
             with_reducible refine (impl_DiagramValue.calls k3 t298 _ _ t299 t302 _ _ x13_3 t323 _ ?side1 ?side2 ?side3 ?side4 A74.out).mono ?_
             (case side1 => repeat (first | exact (Kd.R_reads' HO_304001.out).2.2 | (with_reducible refine Kd.C_alloc ?_ _) | (with_reducible refine Kd.C_drewN ?_ _) | (with_reducible refine Kd.C_drew ?_)))
             (case side2 => exact (Kd.R_reads' HO_304001.out).2.1)
             (case side3 => repeat (first | exact (Kd.R_reads' HO_13.out).2.2 | (with_reducible refine Kd.C_alloc ?_ _) | (with_reducible refine Kd.C_drewN ?_ _) | (with_reducible refine Kd.C_drew ?_)))
             (case side4 => exact (Kd.R_reads' HO_13.out).2.1)
             rintro e w85 ⟨rfl, hb⟩
             refine ⟨_, rfl, ?_⟩
             have n0_ := Aside0.mk (Kd.R_below (rvR HO_13.out) hb)
             have n1_ := Aside0.mk (Kd.R_below (rvR HO_298001.out) hb)
             have n2_ := Aside0.mk (Kd.R_below (rvR HO_304001.out) hb)
             have n3_ := Aside0.mk (Kd.R_below (rvR HO_310001.out) hb)
             have n4_ := Aside0.mk (Kd.R_below (rvR HO_316001.out) hb)
             have n5_ := Aside0.mk (blk_below (g := gb297) (o := .cells #[.int .i64 t291, .slice Ao10 t292.length co10] 25 (0, 0)) (bvK BK297.out) hb)
             have n6_ := Aside0.mk (blk_below (g := gb303) (o := .cells #[.int .i64 t298, .slice Ao15 t299.length co15] 25 (0, 0)) (bvK BK303.out) hb)
             have n7_ := Aside0.mk (blk_below (g := gb309) (o := .cells #[.int .i64 t304, .slice Ao22 t305.length co22] 25 (0, 0)) (bvK BK309.out) hb)
             have n8_ := Aside0.mk (blk_below (g := gb315) (o := .cells #[.int .i64 t310, .slice Ao60 t311.length co60] 25 (0, 0)) (bvK BK315.out) hb)
             have n9_ := Aside0.mk (below_step (by repeat (first | (with_reducible first | exact HB.out | apply bwA | apply bwN | apply bwD | refine below_set ?_ GE297.out | refine below_set ?_ GE303.out | refine below_set ?_ GE309.out | refine below_set ?_ GE315.out) | exact HB.out)) hb)
             clear HO_13
             clear HO_298001
             clear HO_304001
             clear HO_310001
             clear HO_316001
             clear BK297
             clear BK303
             clear BK309
             clear BK315
             clear HB
             have HO_13 := n0_
             have HO_298001 := n1_
             have HO_304001 := n2_
             have HO_310001 := n3_
             have HO_316001 := n4_
             have BK297 := n5_
             have BK303 := n6_
             have BK309 := n7_
             have BK315 := n8_
             have HB := n9_
             clear n0_ n1_ n2_ n3_ n4_ n5_ n6_ n7_ n8_ n9_
             (try clear hb)
             (try clear hb2)
             (try clear hk)
             (try clear hi)
             refine hK.out _ _ ⟨(blk_cell BK303.out 0).trans rfl, (blk_cell BK303.out 1).trans rfl, (blk_cell BK297.out 0).trans rfl, (blk_cell BK297.out 1).trans rfl⟩ (fun hHeld => ?_)
             clear hK K
             refine norm_ (a' := ?_) ?_ ?_
             rotate_left
             ·show Act.put _ (some 100) _ = _
              simp only [Act.put, List.setIfInBounds_toArray, List.set_cons_zero, List.set_cons_succ, i64_w, i32_w]
              rfl
             refine one_ (i := 7) (N := some 104) (Pt.bm 14 2047) rfl rfl (one_of HT_.out (by kernel_rfl)) (by decide) (fun K hK => ?_)
             refine goes_ Try.func34 (by kernel_rfl) rfl #[.agg #[.int .i64 t291, .slice Ao10 t292.length co10], .int .i64 t295, .slice Ao84 x13_3.length co84] (by rfl) rfl rfl lmB ?_
             with_reducible refine (impl_DiagramValue.calls k3 t291 _ _ t292 t295 _ _ x13_3 t324 _ ?side1 ?side2 ?side3 ?side4 A75.out).mono ?_
             (case side1 => repeat (first | exact (Kd.R_reads' HO_298001.out).2.2 | (with_reducible refine Kd.C_alloc ?_ _) | (with_reducible refine Kd.C_drewN ?_ _) | (with_reducible refine Kd.C_drew ?_)))
             (case side2 => exact (Kd.R_reads' HO_298001.out).2.1)
             (case side3 => repeat (first | exact (Kd.R_reads' HO_13.out).2.2 | (with_reducible refine Kd.C_alloc ?_ _) | (with_reducible refine Kd.C_drewN ?_ _) | (with_reducible refine Kd.C_drew ?_)))
             (case side4 => exact (Kd.R_reads' HO_13.out).2.1)
             rintro e w86 ⟨rfl, hb⟩
             refine ⟨_, rfl, ?_⟩
             have n0_ := Aside0.mk (Kd.R_below (rvR HO_13.out) hb)
             have n1_ := Aside0.mk (Kd.R_below (rvR HO_298001.out) hb)
             have n2_ := Aside0.mk (Kd.R_below (rvR HO_304001.out) hb)
             have n3_ := Aside0.mk (Kd.R_below (rvR HO_310001.out) hb)
             have n4_ := Aside0.mk (Kd.R_below (rvR HO_316001.out) hb)
             have n5_ := Aside0.mk (blk_below (g := gb297) (o := .cells #[.int .i64 t291, .slice Ao10 t292.length co10] 25 (0, 0)) (bvK BK297.out) hb)
             have n6_ := Aside0.mk (blk_below (g := gb303) (o := .cells #[.int .i64 t298, .slice Ao15 t299.length co15] 25 (0, 0)) (bvK BK303.out) hb)
             have n7_ := Aside0.mk (blk_below (g := gb309) (o := .cells #[.int .i64 t304, .slice Ao22 t305.length co22] 25 (0, 0)) (bvK BK309.out) hb)
             have n8_ := Aside0.mk (blk_below (g := gb315) (o := .cells #[.int .i64 t310, .slice Ao60 t311.length co60] 25 (0, 0)) (bvK BK315.out) hb)
             have n9_ := Aside0.mk (below_step (by repeat (first | (with_reducible first | exact HB.out | apply bwA | apply bwN | apply bwD | refine below_set ?_ GE297.out | refine below_set ?_ GE303.out | refine below_set ?_ GE309.out | refine below_set ?_ GE315.out) | exact HB.out)) hb)
             clear HO_13
             clear HO_298001
             clear HO_304001
             clear HO_310001
             clear HO_316001
             clear BK297
             clear BK303
             clear BK309
             clear BK315
             clear HB
             have HO_13 := n0_
             have HO_298001 := n1_
             have HO_304001 := n2_
             have HO_310001 := n3_
             have HO_316001 := n4_
             have BK297 := n5_
             have BK303 := n6_
             have BK309 := n7_
             have BK315 := n8_
             have HB := n9_
             clear n0_ n1_ n2_ n3_ n4_ n5_ n6_ n7_ n8_ n9_
             (try clear hb)
             (try clear hb2)
             (try clear hk)
             (try clear hi)
             refine hK.out _ _ ⟨(blk_cell BK303.out 0).trans rfl, (blk_cell BK303.out 1).trans rfl, (blk_cell BK297.out 0).trans rfl, (blk_cell BK297.out 1).trans rfl⟩ (fun hHeld => ?_)
             clear hK K
             refine norm_ (a' := ?_) ?_ ?_
             rotate_left
             ·show Act.put _ (some 104) _ = _
              simp only [Act.put, List.setIfInBounds_toArray, List.set_cons_zero, List.set_cons_succ, i64_w, i32_w]
              rfl
             refine one_ (i := 11) (N := some 108) (Pt.bm 14 4095) rfl rfl (one_of HT_.out (by kernel_rfl)) (by decide) (fun K hK => ?_)
             refine goes_ Try.func34 (by kernel_rfl) rfl #[.agg #[.int .i64 t291, .slice Ao10 t292.length co10], .int .i64 t296, .slice Ao84 x13_3.length co84] (by rfl) rfl rfl lmB ?_
             with_reducible refine (impl_DiagramValue.calls k3 t291 _ _ t292 t296 _ _ x13_3 t325 _ ?side1 ?side2 ?side3 ?side4 A76.out).mono ?_
             (case side1 => repeat (first | exact (Kd.R_reads' HO_298001.out).2.2 | (with_reducible refine Kd.C_alloc ?_ _) | (with_reducible refine Kd.C_drewN ?_ _) | (with_reducible refine Kd.C_drew ?_)))
             (case side2 => exact (Kd.R_reads' HO_298001.out).2.1)
             (case side3 => repeat (first | exact (Kd.R_reads' HO_13.out).2.2 | (with_reducible refine Kd.C_alloc ?_ _) | (with_reducible refine Kd.C_drewN ?_ _) | (with_reducible refine Kd.C_drew ?_)))
             (case side4 => exact (Kd.R_reads' HO_13.out).2.1)
             rintro e w87 ⟨rfl, hb⟩
             refine ⟨_, rfl, ?_⟩
             have n0_ := Aside0.mk (Kd.R_below (rvR HO_13.out) hb)
             have n1_ := Aside0.mk (Kd.R_below (rvR HO_298001.out) hb)
             have n2_ := Aside0.mk (Kd.R_below (rvR HO_304001.out) hb)
             have n3_ := Aside0.mk (Kd.R_below (rvR HO_310001.out) hb)
             have n4_ := Aside0.mk (Kd.R_below (rvR HO_316001.out) hb)
             have n5_ := Aside0.mk (blk_below (g := gb297) (o := .cells #[.int .i64 t291, .slice Ao10 t292.length co10] 25 (0, 0)) (bvK BK297.out) hb)
             have n6_ := Aside0.mk (blk_below (g := gb303) (o := .cells #[.int .i64 t298, .slice Ao15 t299.length co15] 25 (0, 0)) (bvK BK303.out) hb)
             have n7_ := Aside0.mk (blk_below (g := gb309) (o := .cells #[.int .i64 t304, .slice Ao22 t305.length co22] 25 (0, 0)) (bvK BK309.out) hb)
             have n8_ := Aside0.mk (blk_below (g := gb315) (o := .cells #[.int .i64 t310, .slice Ao60 t311.length co60] 25 (0, 0)) (bvK BK315.out) hb)
             have n9_ := Aside0.mk (below_step (by repeat (first | (with_reducible first | exact HB.out | apply bwA | apply bwN | apply bwD | refine below_set ?_ GE297.out | refine below_set ?_ GE303.out | refine below_set ?_ GE309.out | refine below_set ?_ GE315.out) | exact HB.out)) hb)
             clear HO_13
             clear HO_298001
             clear HO_304001
             clear HO_310001
             clear HO_316001
             clear BK297
             clear BK303
             clear BK309
             clear BK315
             clear HB
             have HO_13 := n0_
             have HO_298001 := n1_
             have HO_304001 := n2_
             have HO_310001 := n3_
             have HO_316001 := n4_
             have BK297 := n5_
             have BK303 := n6_
             have BK309 := n7_
             have BK315 := n8_
             have HB := n9_
             clear n0_ n1_ n2_ n3_ n4_ n5_ n6_ n7_ n8_ n9_
             (try clear hb)
             (try clear hb2)
             (try clear hk)
             (try clear hi)
             refine hK.out _ _ ⟨(blk_cell BK303.out 0).trans rfl, (blk_cell BK303.out 1).trans rfl, (blk_cell BK297.out 0).trans rfl, (blk_cell BK297.out 1).trans rfl⟩ (fun hHeld => ?_)
             clear hK K
             refine norm_ (a' := ?_) ?_ ?_
             rotate_left
             ·show Act.put _ (some 108) _ = _
              simp only [Act.put, List.setIfInBounds_toArray, List.set_cons_zero, List.set_cons_succ, i64_w, i32_w]
              rfl
             refine Pt.pu 12 (some 109) (Pt.bm 14 8191) (any_of HT_.out (by kernel_rfl)) ?_
             refine Pt.pu 13 (some 110) (Pt.bm 14 16383) (any_of HT_.out (by kernel_rfl)) ?_
             refine done_ (done_of HT_.out (by kernel_rfl)) ?_
             try go_wp2
             go_ret
             exact ⟨by first | rfl | (simp [errW_none, errW_some] <;> rfl) | (simp only [← hji50]; first | rfl | (simp [errW_none, errW_some] <;> rfl)) | (simp [*, errW_none, errW_some] <;> rfl), by repeat (first | (with_reducible first | exact HB.out | apply bwA | apply bwN | apply bwD | refine below_set ?_ GE297.out | refine below_set ?_ GE303.out | refine below_set ?_ GE309.out | refine below_set ?_ GE315.out) | exact HB.out)⟩
        ·rw [if_neg c62] at H
         have c62b0 : decide (x80_2 < ji50) = false := decide_eq_false c62
         clear c62
         by_cases c88 : t314 = t302
         ·rw [if_pos c88] at H
          have c88b0 : (t314 == t302) = true := beq_iff_eq.mpr c88
          have c88b1 : (t314 != t302) = false := bne_eq_false_iff_eq.mpr c88
          clear c88
          by_cases c89 : (t311.length : Int) = (t299.length : Int)
          ·rw [if_pos c89] at H
           have c89b0 : ((t311.length : Int) == (t299.length : Int)) = true := beq_iff_eq.mpr c89
           have c89b1 : ((t311.length : Int) != (t299.length : Int)) = false := bne_eq_false_iff_eq.mpr c89
           have c89b2 : (t311.length == t299.length) = true := by first | simpa using c89 | (simp at c89 ⊢; omega)
           clear c89
           replace H := Option.bind_eq_some_iff.mp H
           obtain ⟨t316, A900, H⟩ := H
           replace H : (some t316) = some r := H
           have A90 := Aside0.mk A900
           clear A900
           obtain rfl := Option.some.inj H
           have hnb91 := NB315_297.out
           have hnc91 := NB297_315.out
           have hnb92 := NB315_303.out
           have hnc92 := NB303_315.out
           have hnb93 := NB315_309.out
           have hnc93 := NB309_315.out
           have hcz94_0 : wr.cell? ⟨gb315, 0, none⟩ = some (.int .i64 t310) := (blk_cell BK315.out 0).trans rfl
           have hcz94_1 : wr.cell? ⟨gb315, 1, none⟩ = some (.slice Ao60 t311.length co60) := (blk_cell BK315.out 1).trans rfl
           have hfz94_0 := blk_frozen BK315.out 0
           have hfz94_1 := blk_frozen BK315.out 1
           have hnb95 := NB303_297.out
           have hnc95 := NB297_303.out
           have hnb96 := NB303_309.out
           have hnc96 := NB309_303.out
           have hcz97_0 : wr.cell? ⟨gb303, 0, none⟩ = some (.int .i64 t298) := (blk_cell BK303.out 0).trans rfl
           have hcz97_1 : wr.cell? ⟨gb303, 1, none⟩ = some (.slice Ao15 t299.length co15) := (blk_cell BK303.out 1).trans rfl
           have hfz97_0 := blk_frozen BK303.out 0
           have hfz97_1 := blk_frozen BK303.out 1
           go_wp2_with (first | (go_at_call 17; (with_reducible refine (impl_DiagramValid.calls t298 _ _ t299 t316 _ ?side1 ?side2 A90.out).mono ?_); (case side1 => repeat (first | exact (Kd.R_reads' HO_304001.out).2.2 | (with_reducible refine Kd.C_alloc ?_ _) | (with_reducible refine Kd.C_drewN ?_ _) | (with_reducible refine Kd.C_drew ?_))); (case side2 => exact (Kd.R_reads' HO_304001.out).2.1); rintro e w98 ⟨rfl, hb⟩; have n0_ := Aside0.mk (Kd.R_below (rvR HO_298001.out) hb); have n1_ := Aside0.mk (Kd.R_below (rvR HO_304001.out) hb); have n2_ := Aside0.mk (Kd.R_below (rvR HO_310001.out) hb); have n3_ := Aside0.mk (Kd.R_below (rvR HO_316001.out) hb); have n4_ := Aside0.mk (blk_below (g := gb297) (o := .cells #[.int .i64 t291, .slice Ao10 t292.length co10] 25 (0, 0)) (bvK BK297.out) hb); have n5_ := Aside0.mk (blk_below (g := gb303) (o := .cells #[.int .i64 t298, .slice Ao15 t299.length co15] 25 (0, 0)) (bvK BK303.out) hb); have n6_ := Aside0.mk (blk_below (g := gb309) (o := .cells #[.int .i64 t304, .slice Ao22 t305.length co22] 25 (0, 0)) (bvK BK309.out) hb); have n7_ := Aside0.mk (blk_below (g := gb315) (o := .cells #[.int .i64 t310, .slice Ao60 t311.length co60] 25 (0, 0)) (bvK BK315.out) hb); have n8_ := Aside0.mk (below_step (by repeat (first | (with_reducible first | exact HB.out | apply bwA | apply bwN | apply bwD | refine below_set ?_ GE297.out | refine below_set ?_ GE303.out | refine below_set ?_ GE309.out | refine below_set ?_ GE315.out) | exact HB.out)) hb); clear HO_298001; clear HO_304001; clear HO_310001; clear HO_316001; clear BK297; clear BK303; clear BK309; clear BK315; clear HB; have HO_298001 := n0_; have HO_304001 := n1_; have HO_310001 := n2_; have HO_316001 := n3_; have BK297 := n4_; have BK303 := n5_; have BK309 := n6_; have BK315 := n7_; have HB := n8_; clear n0_ n1_ n2_ n3_ n4_ n5_ n6_ n7_ n8_; (try clear hb); (try clear hb2); (try clear hk); (try clear hi)))
           go_ret
           exact ⟨by first | rfl | (simp [errW_none, errW_some] <;> rfl) | (simp only [← hji50]; first | rfl | (simp [errW_none, errW_some] <;> rfl)) | (simp [*, errW_none, errW_some] <;> rfl), by repeat (first | (with_reducible first | exact HB.out | apply bwA | apply bwN | apply bwD | refine below_set ?_ GE297.out | refine below_set ?_ GE303.out | refine below_set ?_ GE309.out | refine below_set ?_ GE315.out) | exact HB.out)⟩
          ·rw [if_neg c89] at H
           have c89b0 : ((t311.length : Int) == (t299.length : Int)) = false := beq_eq_false_iff_ne.mpr c89
           have c89b1 : ((t311.length : Int) != (t299.length : Int)) = true := bne_iff_ne.mpr c89
           have c89b2 : (t311.length == t299.length) = false := by first | simpa using c89 | (simp at c89 ⊢; omega)
           obtain rfl := Option.some.inj H
           have hnb99 := NB315_297.out
           have hnc99 := NB297_315.out
           have hnb100 := NB315_303.out
           have hnc100 := NB303_315.out
           have hnb101 := NB315_309.out
           have hnc101 := NB309_315.out
           have hcz102_0 : wr.cell? ⟨gb315, 0, none⟩ = some (.int .i64 t310) := (blk_cell BK315.out 0).trans rfl
           have hcz102_1 : wr.cell? ⟨gb315, 1, none⟩ = some (.slice Ao60 t311.length co60) := (blk_cell BK315.out 1).trans rfl
           have hfz102_0 := blk_frozen BK315.out 0
           have hfz102_1 := blk_frozen BK315.out 1
           have hnb103 := NB303_297.out
           have hnc103 := NB297_303.out
           have hnb104 := NB303_309.out
           have hnc104 := NB309_303.out
           have hcz105_0 : wr.cell? ⟨gb303, 0, none⟩ = some (.int .i64 t298) := (blk_cell BK303.out 0).trans rfl
           have hcz105_1 : wr.cell? ⟨gb303, 1, none⟩ = some (.slice Ao15 t299.length co15) := (blk_cell BK303.out 1).trans rfl
           have hfz105_0 := blk_frozen BK303.out 0
           have hfz105_1 := blk_frozen BK303.out 1
           go_wp2
           go_ret
           exact ⟨by first | rfl | (simp [errW_none, errW_some] <;> rfl) | (simp only [← hji50]; first | rfl | (simp [errW_none, errW_some] <;> rfl)) | (simp [*, errW_none, errW_some] <;> rfl), by repeat (first | (with_reducible first | exact HB.out | apply bwA | apply bwN | apply bwD | refine below_set ?_ GE297.out | refine below_set ?_ GE303.out | refine below_set ?_ GE309.out | refine below_set ?_ GE315.out) | exact HB.out)⟩
         ·rw [if_neg c88] at H
          have c88b0 : (t314 == t302) = false := beq_eq_false_iff_ne.mpr c88
          have c88b1 : (t314 != t302) = true := bne_iff_ne.mpr c88
          obtain rfl := Option.some.inj H
          go_wp2
          go_ret
          exact ⟨by first | rfl | (simp [errW_none, errW_some] <;> rfl) | (simp only [← hji50]; first | rfl | (simp [errW_none, errW_some] <;> rfl)) | (simp [*, errW_none, errW_some] <;> rfl), by repeat (first | (with_reducible first | exact HB.out | apply bwA | apply bwN | apply bwD | refine below_set ?_ GE297.out | refine below_set ?_ GE303.out | refine below_set ?_ GE309.out | refine below_set ?_ GE315.out) | exact HB.out)⟩
     ·rw [if_neg c49] at H
      exact absurd H (by simp)

/-- THE ONE PURE STATEMENT of laws_FnDiagramSame: yours. -/
def laws_FnDiagramSame.Pure : Prop := ∀ (l0 : List Int), l0.length ≤ maxLen → l0.length * 1 ≤ 140737488351232 → (∀ x ∈ l0, (Lit.int .u8 x).wf = true) → ∃ k, laws_FnDiagramSame.f k l0 = some true
theorem laws_FnDiagramSame.walk (P : laws_FnDiagramSame.Pure) (a0 : Option Addr) (len0 cap0 : Nat) (z0 : List Int) (w : World) (w0 : (a0 = none ∧ len0 = 0 ∧ cap0 = 0 ∧ z0 = []) ∨ ∃ x, a0 = some x ∧ len0 ≤ cap0 ∧ cap0 ≤ maxLen ∧ z0.length = cap0 ∧ (∀ i, i < z0.length → w.cell? (x.add i) = some (.int .u8 (z0.getD i 0))) ∧ ∀ n ∈ z0, (Lit.int .u8 n).wf = true) (y0 : len0 * 1 ≤ 140737488351232) :
  Calls Try.prog 10 #[.slice a0 len0 cap0] w fun e w' => e = .returned (.bool true) ∧ Below w.heap.size w w' := by
 obtain ⟨l0, rfl, hr0, hm0, hw0, hc0⟩ := ReadsInt.ofRowC w0
 obtain ⟨k, h⟩ := P l0 hm0 y0 hw0
 refine (laws_FnDiagramSame.calls k _ _ l0 true w (Kd.C_of_reads (d := (0 : Int)) (h1 := fun _ => rfl) hr0) hc0 h).mono ?_
 rintro e w' ⟨rfl, hd⟩
 exact ⟨rfl, hd⟩

end Go.Proofs.Ytpcompnmadpljaa.QFnDiagramSame
