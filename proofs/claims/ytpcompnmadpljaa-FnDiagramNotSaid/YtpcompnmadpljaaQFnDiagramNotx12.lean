-- Written by a program of this session (mk.py). Lean checks it.
import Derived.Test.YtpcompnmadpljaaQFnDiagramNotx0
import Derived.Test.YtpcompnmadpljaaQFnDiagramNotx2
import Derived.Test.YtpcompnmadpljaaQFnDiagramNotx5
import Derived.Test.YtpcompnmadpljaaQFnDiagramNotx7
import Derived.Test.YtpcompnmadpljaaQFnDiagramNotx9
import Derived.Test.YtpcompnmadpljaaQFnDiagramNotx10
import Derived.Test.YtpcompnmadpljaaQFnDiagramNotx11
namespace Go.Proofs.Ytpcompnmadpljaa.QFnDiagramNot
open Go.RowKit Go.Proofs.YtpcompnmadpljaaW.PrintWords Go.Proofs.YtpcompnmadpljaaW.PrintLast Go.Proofs.YtpcompnmadpljaaW.PrintMore
attribute [local go_sem] max2_int min2_int max_two min_two max_three min_three max_four min_four   -- for this text's walks alone
set_option linter.unusedVariables false
set_option linter.unusedSimpArgs false

/-! ### spec_l8Two: function 72 -/
def spec_l8Two.j0 : Nat → Int → Int → Int → Bool → Int → List (S71) → Option (Int × (List (S71)) × Int)
 | 0, _, _, _, _, _, _ => none
 | k + 1, x1, x2, x3, x26, x246000, x246001 => if x26 = true then (some (0, ([] : List (S71)), (-1))) else ((spec_l8Copy.f k x246000 x246001).bind fun bt250 => ((spec_l8Do.f k bt250.1 bt250.2 x1 x2 x3).bind fun bt254 => ((spec_l8Told.f bt254.1 bt254.2.1 bt254.2.2).bind fun bt260 => (some (bt260.1, bt260.2.1, bt260.2.2)))))
def spec_l8Two.f (k : Nat) (a0_0 : Int) (l0_1 : List (S71)) (a1 : Int) (a2 : Int) (a3 : Int) : Option (Int × (List (S71)) × Int) := (spec_DiagramValid.f k a0_0 l0_1).bind fun t247 => (if t247 = true then ((spec_l8Place.f a0_0 l0_1 a2).bind fun t248 => (if t248 = true then ((spec_l8Place.f a0_0 l0_1 a3).bind fun t249 => (spec_l8Two.j0 k a1 a2 a3 (!t249) a0_0 l0_1)) else (spec_l8Two.j0 k a1 a2 a3 true a0_0 l0_1))) else (spec_l8Two.j0 k a1 a2 a3 true a0_0 l0_1))
theorem spec_l8Two.mono_l : ∀ k, (∀ y0 y1 y2 y3 y4 y5, LeO (spec_l8Two.j0 k y0 y1 y2 y3 y4 y5) (spec_l8Two.j0 (k + 1) y0 y1 y2 y3 y4 y5))
 | 0 => fun _ _ _ _ _ _ r h => by simp [spec_l8Two.j0] at h
 | k + 1 => by
  have ih0 := spec_l8Two.mono_l k
  ·intro y0 y1 y2 y3 y4 y5
   unfold spec_l8Two.j0
   repeat' first
   | (with_reducible exact ih0 _ _ _ _ _ _)
   | (with_reducible exact spec_DiagramValid.mono _ _ _)
   | (with_reducible exact spec_l8Copy.mono _ _ _)
   | (with_reducible exact spec_l8Do.mono _ _ _ _ _ _)
   | (with_reducible exact LeO.refl _)
   | (with_reducible exact LeO.none _)
   | (with_reducible refine LeO.ite ?_ ?_)
   | (with_reducible refine LeO.bind ?_ (fun _ => ?_))
theorem spec_l8Two.mono : ∀ a0 a1 a2 a3 a4 k, LeO (spec_l8Two.f k a0 a1 a2 a3 a4) (spec_l8Two.f (k + 1) a0 a1 a2 a3 a4) := by
 intro a0 a1 a2 a3 a4 k
 have ih0 := spec_l8Two.mono_l k
 unfold spec_l8Two.f
 repeat' first
   | (with_reducible exact ih0 _ _ _ _ _ _)
   | (with_reducible exact spec_DiagramValid.mono _ _ _)
   | (with_reducible exact spec_l8Copy.mono _ _ _)
   | (with_reducible exact spec_l8Do.mono _ _ _ _ _ _)
   | (with_reducible exact LeO.refl _)
   | (with_reducible exact LeO.none _)
   | (with_reducible refine LeO.ite ?_ ?_)
   | (with_reducible refine LeO.bind ?_ (fun _ => ?_))
set_option maxHeartbeats 8000000 in
set_option maxRecDepth 100000 in
theorem spec_l8Two.calls (k : Nat) (a0_0 : Int) (A0_1 : Option Addr) (c0_1 : Nat) (l0_1 : List (S71)) (a1 : Int) (a2 : Int) (a3 : Int) (r1 : Int) (r2 : List (S71)) (r3 : Int) (w : World) (hr0_1 : Kd.C k71 w A0_1 l0_1.length l0_1) (hc0_1 : l0_1.length ≤ c0_1) (h : spec_l8Two.f k a0_0 l0_1 a1 a2 a3 = some (r1, r2, r3)) :
  Calls Try.prog 72 #[.agg #[.int .i64 a0_0, .slice A0_1 l0_1.length c0_1], .int .i64 a1, .int .i64 a2, .int .i64 a3] w fun e w' => ∃ v1_ : Value, e = .returned (.tuple #[.agg #[.int .i64 r1, v1_], .int .i64 r3]) ∧ Kd.R k71 71 w' w.heap.size (fun _ => True) v1_ r2 ∧ Below w.heap.size w w' := by
 have hu25 := Try.underlying25
 have HR0_1 := Aside0.mk hr0_1
 have HC0_1 := Aside0.mk hc0_1
 clear hr0_1 hc0_1
 have HB := Aside0.mk (Below.refl w.heap.size w)
 have H : ((spec_DiagramValid.f k a0_0 l0_1).bind fun t247 => (if t247 = true then ((spec_l8Place.f a0_0 l0_1 a2).bind fun t248 => (if t248 = true then ((spec_l8Place.f a0_0 l0_1 a3).bind fun t249 => (spec_l8Two.j0 k a1 a2 a3 (!t249) a0_0 l0_1)) else (spec_l8Two.j0 k a1 a2 a3 true a0_0 l0_1))) else (spec_l8Two.j0 k a1 a2 a3 true a0_0 l0_1))) = some (r1, r2, r3) := h
 clear h
 have HC5 := Aside0.mk H
 clear H
 go_enter Try.func72, Try.ntmps72
 go_upto_region 1 with (first | ((with_reducible refine gate_dst (N := 4) rfl ?_); refine box_event ?hg (N := 4) ?hd (cs := #[.int .i64 a0_0, .slice A0_1 l0_1.length c0_1]) (t := 25) ?hr ?_; (case hd => rfl); (case hg => rfl); (case hr => first | (go_simp; done) | (go_simp; rfl)); intro gb245 hg w6 hbox hb; have n0_ := Aside0.mk (below_step (by repeat (first | (with_reducible first | exact HB.out | apply bwA | apply bwN | apply bwD) | exact HB.out)) hb); have n1_ := Aside0.mk (hbox); have n2_ := Aside0.mk ((by rw [hg]; exact (below_size (by repeat (first | (with_reducible first | exact HB.out | apply bwA | apply bwN | apply bwD) | exact HB.out))) : w.heap.size ≤ gb245)); have n3_ := Aside0.mk ((by rw [hg]; exact (below_size (by repeat (first | (with_reducible first | exact HB.out | apply bwA | apply bwN | apply bwD) | exact HB.out))) : w.heap.size ≤ gb245)); clear HB; have HB := n0_; have BK245 := n1_; have GW245 := n2_; have GE245 := n3_; clear n0_ n1_ n2_ n3_; clear hb hbox hg) | ((with_reducible refine gate_dst (N := 8) rfl ?_); refine box_event ?hg (N := 8) ?hd (cs := #[.int .i64 0, .slice none 0 0]) (t := 25) ?hr ?_; (case hd => rfl); (case hg => rfl); (case hr => first | (go_simp; done) | (go_simp; rfl)); intro gb246 hg w7 hbox hb; have n0_ := Aside0.mk (blk_below (g := gb245) (o := .cells #[.int .i64 a0_0, .slice A0_1 l0_1.length c0_1] 25 (0, 0)) (bvK BK245.out) hb); have n1_ := Aside0.mk (below_step (by repeat (first | (with_reducible first | exact HB.out | apply bwA | apply bwN | apply bwD | refine below_set ?_ GE245.out) | exact HB.out)) hb); have n2_ := Aside0.mk (hbox); have n3_ := Aside0.mk ((by rw [hg]; exact (below_size (by repeat (first | (with_reducible first | exact HB.out | apply bwA | apply bwN | apply bwD | refine below_set ?_ GE245.out) | exact HB.out))) : w.heap.size ≤ gb246)); have n4_ := Aside0.mk ((by rw [hg]; exact (below_size (by repeat (first | (with_reducible first | exact HB.out | apply bwA | apply bwN | apply bwD | refine below_set ?_ GE245.out) | exact HB.out))) : w.heap.size ≤ gb246)); have n5_ := Aside0.mk ((by rw [hg]; exact Nat.ne_of_lt (blk_lt (g := gb245) (o := .cells #[.int .i64 a0_0, .slice A0_1 l0_1.length c0_1] 25 (0, 0)) (bvK BK245.out)) : gb245 ≠ gb246)); have n6_ := Aside0.mk ((by rw [hg]; exact Nat.ne_of_gt (blk_lt (g := gb245) (o := .cells #[.int .i64 a0_0, .slice A0_1 l0_1.length c0_1] 25 (0, 0)) (bvK BK245.out)) : gb246 ≠ gb245)); clear BK245; clear HB; have BK245 := n0_; have HB := n1_; have BK246 := n2_; have GW246 := n3_; have GE246 := n4_; have NB245_246 := n5_; have NB246_245 := n6_; clear n0_ n1_ n2_ n3_ n4_ n5_ n6_; clear hb hbox hg))
 (try simp only [Act.put, List.setIfInBounds_toArray, List.set_cons_zero, List.set_cons_succ])
 go_cut [26] (fun v26 wc => ∃ (kq : Nat) (x26_4 : Bool), v26 = .bool x26_4 ∧ Aside0 (spec_l8Two.j0 kq a1 a2 a3 x26_4 a0_0 l0_1 = some (r1, r2, r3)) ∧ Aside0 (kq ≤ k) ∧ Aside0 (wc.heap[gb245]? = some (.cells #[.int .i64 a0_0, (.slice A0_1 l0_1.length c0_1)] 25 (0, 0))) ∧ Aside0 (wc.heap[gb246]? = some (.cells #[.int .i64 0, (.slice none 0 0)] 25 (0, 0))) ∧ Aside0 (Below w.heap.size w wc))
 case first =>
  have H := HC5.out
  clear HC5
  replace H := Option.bind_eq_some_iff.mp H
  obtain ⟨t247, A80, H⟩ := H
  replace H : (if t247 = true then ((spec_l8Place.f a0_0 l0_1 a2).bind fun t248 => (if t248 = true then ((spec_l8Place.f a0_0 l0_1 a3).bind fun t249 => (spec_l8Two.j0 k a1 a2 a3 (!t249) a0_0 l0_1)) else (spec_l8Two.j0 k a1 a2 a3 true a0_0 l0_1))) else (spec_l8Two.j0 k a1 a2 a3 true a0_0 l0_1)) = some (r1, r2, r3) := H
  have A8 := Aside0.mk A80
  clear A80
  by_cases c9 : t247 = true
  ·subst c9
   have H1 : ((spec_l8Place.f a0_0 l0_1 a2).bind fun t248 => (if t248 = true then ((spec_l8Place.f a0_0 l0_1 a3).bind fun t249 => (spec_l8Two.j0 k a1 a2 a3 (!t249) a0_0 l0_1)) else (spec_l8Two.j0 k a1 a2 a3 true a0_0 l0_1))) = some (r1, r2, r3) := by rw [if_pos rfl] at H; exact H
   clear H
   have H := H1
   clear H1
   replace H := Option.bind_eq_some_iff.mp H
   obtain ⟨t248, A100, H⟩ := H
   replace H : (if t248 = true then ((spec_l8Place.f a0_0 l0_1 a3).bind fun t249 => (spec_l8Two.j0 k a1 a2 a3 (!t249) a0_0 l0_1)) else (spec_l8Two.j0 k a1 a2 a3 true a0_0 l0_1)) = some (r1, r2, r3) := H
   have A10 := Aside0.mk A100
   clear A100
   by_cases c11 : t248 = true
   ·subst c11
    have H1 : ((spec_l8Place.f a0_0 l0_1 a3).bind fun t249 => (spec_l8Two.j0 k a1 a2 a3 (!t249) a0_0 l0_1)) = some (r1, r2, r3) := by rw [if_pos rfl] at H; exact H
    clear H
    have H := H1
    clear H1
    replace H := Option.bind_eq_some_iff.mp H
    obtain ⟨t249, A120, H⟩ := H
    replace H : (spec_l8Two.j0 k a1 a2 a3 (!t249) a0_0 l0_1) = some (r1, r2, r3) := H
    have A12 := Aside0.mk A120
    clear A120
    have H' := Aside0.mk H
    clear H
    have hnb13 := NB245_246.out
    have hnc13 := NB246_245.out
    have hcz14_0 : w7.cell? ⟨gb245, 0, none⟩ = some (.int .i64 a0_0) := (blk_cell BK245.out 0).trans rfl
    have hcz14_1 : w7.cell? ⟨gb245, 1, none⟩ = some (.slice A0_1 l0_1.length c0_1) := (blk_cell BK245.out 1).trans rfl
    have hfz14_0 := blk_frozen BK245.out 0
    have hfz14_1 := blk_frozen BK245.out 1
    go_wp2_with (first | ((with_reducible refine gate_callee (f := 58) rfl ?_); refine goesL_ (some 13) rfl rfl Try.func58 (by kernel_rfl) rfl #[.agg #[.int .i64 a0_0, .slice A0_1 l0_1.length c0_1]] rfl lmB ?_; (with_reducible refine (spec_DiagramValid.calls k a0_0 _ _ l0_1 true _ ?side1 ?side2 A8.out).mono ?_); (case side1 => repeat (first | exact (Kd.C_below HR0_1.out HB.out) | (with_reducible refine Kd.C_alloc ?_ _) | (with_reducible refine Kd.C_drewN ?_ _) | (with_reducible refine Kd.C_drew ?_))); (case side2 => exact HC0_1.out); rintro e w15 ⟨rfl, hb⟩; refine ⟨_, rfl, ?_⟩; have n0_ := Aside0.mk (blk_below (g := gb245) (o := .cells #[.int .i64 a0_0, .slice A0_1 l0_1.length c0_1] 25 (0, 0)) (bvK BK245.out) hb); have n1_ := Aside0.mk (blk_below (g := gb246) (o := .cells #[.int .i64 0, .slice none 0 0] 25 (0, 0)) (bvK BK246.out) hb); have n2_ := Aside0.mk (below_step (by repeat (first | (with_reducible first | exact HB.out | apply bwA | apply bwN | apply bwD | refine below_set ?_ GE245.out | refine below_set ?_ GE246.out) | exact HB.out)) hb); clear BK245; clear BK246; clear HB; have BK245 := n0_; have BK246 := n1_; have HB := n2_; clear n0_ n1_ n2_; (try clear hb); (try clear hb2); (try clear hk); (try clear hi); have hcz16_0 : w15.cell? ⟨gb245, 0, none⟩ = some (.int .i64 a0_0) := (blk_cell BK245.out 0).trans rfl; have hcz16_1 : w15.cell? ⟨gb245, 1, none⟩ = some (.slice A0_1 l0_1.length c0_1) := (blk_cell BK245.out 1).trans rfl; have hfz16_0 := blk_frozen BK245.out 0; have hfz16_1 := blk_frozen BK245.out 1) | (go_at_call 50; (with_reducible refine (spec_l8Place.calls a0_0 _ _ l0_1 a2 true _ ?side1 ?side2 A10.out).mono ?_); (case side1 => repeat (first | exact (Kd.C_below HR0_1.out HB.out) | (with_reducible refine Kd.C_alloc ?_ _) | (with_reducible refine Kd.C_drewN ?_ _) | (with_reducible refine Kd.C_drew ?_))); (case side2 => exact HC0_1.out); rintro e w17 ⟨rfl, hb⟩; have n0_ := Aside0.mk (blk_below (g := gb245) (o := .cells #[.int .i64 a0_0, .slice A0_1 l0_1.length c0_1] 25 (0, 0)) (bvK BK245.out) hb); have n1_ := Aside0.mk (blk_below (g := gb246) (o := .cells #[.int .i64 0, .slice none 0 0] 25 (0, 0)) (bvK BK246.out) hb); have n2_ := Aside0.mk (below_step (by repeat (first | (with_reducible first | exact HB.out | apply bwA | apply bwN | apply bwD | refine below_set ?_ GE245.out | refine below_set ?_ GE246.out) | exact HB.out)) hb); clear BK245; clear BK246; clear HB; have BK245 := n0_; have BK246 := n1_; have HB := n2_; clear n0_ n1_ n2_; (try clear hb); (try clear hb2); (try clear hk); (try clear hi); have hcz18_0 : w17.cell? ⟨gb245, 0, none⟩ = some (.int .i64 a0_0) := (blk_cell BK245.out 0).trans rfl; have hcz18_1 : w17.cell? ⟨gb245, 1, none⟩ = some (.slice A0_1 l0_1.length c0_1) := (blk_cell BK245.out 1).trans rfl; have hfz18_0 := blk_frozen BK245.out 0; have hfz18_1 := blk_frozen BK245.out 1) | (go_at_call 50; (with_reducible refine (spec_l8Place.calls a0_0 _ _ l0_1 a3 t249 _ ?side1 ?side2 A12.out).mono ?_); (case side1 => repeat (first | exact (Kd.C_below HR0_1.out HB.out) | (with_reducible refine Kd.C_alloc ?_ _) | (with_reducible refine Kd.C_drewN ?_ _) | (with_reducible refine Kd.C_drew ?_))); (case side2 => exact HC0_1.out); rintro e w19 ⟨rfl, hb⟩; have n0_ := Aside0.mk (blk_below (g := gb245) (o := .cells #[.int .i64 a0_0, .slice A0_1 l0_1.length c0_1] 25 (0, 0)) (bvK BK245.out) hb); have n1_ := Aside0.mk (blk_below (g := gb246) (o := .cells #[.int .i64 0, .slice none 0 0] 25 (0, 0)) (bvK BK246.out) hb); have n2_ := Aside0.mk (below_step (by repeat (first | (with_reducible first | exact HB.out | apply bwA | apply bwN | apply bwD | refine below_set ?_ GE245.out | refine below_set ?_ GE246.out) | exact HB.out)) hb); clear BK245; clear BK246; clear HB; have BK245 := n0_; have BK246 := n1_; have HB := n2_; clear n0_ n1_ n2_; (try clear hb); (try clear hb2); (try clear hk); (try clear hi)))
    go_meet
    case rel => exact ⟨_, (!t249), rsd, H', ⟨by first | omega | exact Nat.le_refl _⟩, ⟨bvK BK245.out⟩, ⟨bvK BK246.out⟩, ⟨by repeat (first | (with_reducible first | exact HB.out | apply bwA | apply bwN | apply bwD | refine below_set ?_ GE245.out | refine below_set ?_ GE246.out) | exact HB.out)⟩⟩
   ·replace c11 := Bool.eq_false_iff.mpr c11
    subst c11
    have H1 : (spec_l8Two.j0 k a1 a2 a3 true a0_0 l0_1) = some (r1, r2, r3) := by rw [if_neg (show ¬ (false = true) by decide)] at H; exact H
    clear H
    have H := H1
    clear H1
    have H' := Aside0.mk H
    clear H
    have hnb20 := NB245_246.out
    have hnc20 := NB246_245.out
    have hcz21_0 : w7.cell? ⟨gb245, 0, none⟩ = some (.int .i64 a0_0) := (blk_cell BK245.out 0).trans rfl
    have hcz21_1 : w7.cell? ⟨gb245, 1, none⟩ = some (.slice A0_1 l0_1.length c0_1) := (blk_cell BK245.out 1).trans rfl
    have hfz21_0 := blk_frozen BK245.out 0
    have hfz21_1 := blk_frozen BK245.out 1
    go_wp2_with (first | ((with_reducible refine gate_callee (f := 58) rfl ?_); refine goesL_ (some 13) rfl rfl Try.func58 (by kernel_rfl) rfl #[.agg #[.int .i64 a0_0, .slice A0_1 l0_1.length c0_1]] rfl lmB ?_; (with_reducible refine (spec_DiagramValid.calls k a0_0 _ _ l0_1 true _ ?side1 ?side2 A8.out).mono ?_); (case side1 => repeat (first | exact (Kd.C_below HR0_1.out HB.out) | (with_reducible refine Kd.C_alloc ?_ _) | (with_reducible refine Kd.C_drewN ?_ _) | (with_reducible refine Kd.C_drew ?_))); (case side2 => exact HC0_1.out); rintro e w22 ⟨rfl, hb⟩; refine ⟨_, rfl, ?_⟩; have n0_ := Aside0.mk (blk_below (g := gb245) (o := .cells #[.int .i64 a0_0, .slice A0_1 l0_1.length c0_1] 25 (0, 0)) (bvK BK245.out) hb); have n1_ := Aside0.mk (blk_below (g := gb246) (o := .cells #[.int .i64 0, .slice none 0 0] 25 (0, 0)) (bvK BK246.out) hb); have n2_ := Aside0.mk (below_step (by repeat (first | (with_reducible first | exact HB.out | apply bwA | apply bwN | apply bwD | refine below_set ?_ GE245.out | refine below_set ?_ GE246.out) | exact HB.out)) hb); clear BK245; clear BK246; clear HB; have BK245 := n0_; have BK246 := n1_; have HB := n2_; clear n0_ n1_ n2_; (try clear hb); (try clear hb2); (try clear hk); (try clear hi); have hcz23_0 : w22.cell? ⟨gb245, 0, none⟩ = some (.int .i64 a0_0) := (blk_cell BK245.out 0).trans rfl; have hcz23_1 : w22.cell? ⟨gb245, 1, none⟩ = some (.slice A0_1 l0_1.length c0_1) := (blk_cell BK245.out 1).trans rfl; have hfz23_0 := blk_frozen BK245.out 0; have hfz23_1 := blk_frozen BK245.out 1) | (go_at_call 50; (with_reducible refine (spec_l8Place.calls a0_0 _ _ l0_1 a2 false _ ?side1 ?side2 A10.out).mono ?_); (case side1 => repeat (first | exact (Kd.C_below HR0_1.out HB.out) | (with_reducible refine Kd.C_alloc ?_ _) | (with_reducible refine Kd.C_drewN ?_ _) | (with_reducible refine Kd.C_drew ?_))); (case side2 => exact HC0_1.out); rintro e w24 ⟨rfl, hb⟩; have n0_ := Aside0.mk (blk_below (g := gb245) (o := .cells #[.int .i64 a0_0, .slice A0_1 l0_1.length c0_1] 25 (0, 0)) (bvK BK245.out) hb); have n1_ := Aside0.mk (blk_below (g := gb246) (o := .cells #[.int .i64 0, .slice none 0 0] 25 (0, 0)) (bvK BK246.out) hb); have n2_ := Aside0.mk (below_step (by repeat (first | (with_reducible first | exact HB.out | apply bwA | apply bwN | apply bwD | refine below_set ?_ GE245.out | refine below_set ?_ GE246.out) | exact HB.out)) hb); clear BK245; clear BK246; clear HB; have BK245 := n0_; have BK246 := n1_; have HB := n2_; clear n0_ n1_ n2_; (try clear hb); (try clear hb2); (try clear hk); (try clear hi)))
    go_meet
    case rel => exact ⟨_, (true), rsd, H', ⟨by first | omega | exact Nat.le_refl _⟩, ⟨bvK BK245.out⟩, ⟨bvK BK246.out⟩, ⟨by repeat (first | (with_reducible first | exact HB.out | apply bwA | apply bwN | apply bwD | refine below_set ?_ GE245.out | refine below_set ?_ GE246.out) | exact HB.out)⟩⟩
  ·replace c9 := Bool.eq_false_iff.mpr c9
   subst c9
   have H1 : (spec_l8Two.j0 k a1 a2 a3 true a0_0 l0_1) = some (r1, r2, r3) := by rw [if_neg (show ¬ (false = true) by decide)] at H; exact H
   clear H
   have H := H1
   clear H1
   have H' := Aside0.mk H
   clear H
   have hnb25 := NB245_246.out
   have hnc25 := NB246_245.out
   have hcz26_0 : w7.cell? ⟨gb245, 0, none⟩ = some (.int .i64 a0_0) := (blk_cell BK245.out 0).trans rfl
   have hcz26_1 : w7.cell? ⟨gb245, 1, none⟩ = some (.slice A0_1 l0_1.length c0_1) := (blk_cell BK245.out 1).trans rfl
   have hfz26_0 := blk_frozen BK245.out 0
   have hfz26_1 := blk_frozen BK245.out 1
   go_wp2_with (first | ((with_reducible refine gate_callee (f := 58) rfl ?_); refine goesL_ (some 13) rfl rfl Try.func58 (by kernel_rfl) rfl #[.agg #[.int .i64 a0_0, .slice A0_1 l0_1.length c0_1]] rfl lmB ?_; (with_reducible refine (spec_DiagramValid.calls k a0_0 _ _ l0_1 false _ ?side1 ?side2 A8.out).mono ?_); (case side1 => repeat (first | exact (Kd.C_below HR0_1.out HB.out) | (with_reducible refine Kd.C_alloc ?_ _) | (with_reducible refine Kd.C_drewN ?_ _) | (with_reducible refine Kd.C_drew ?_))); (case side2 => exact HC0_1.out); rintro e w27 ⟨rfl, hb⟩; refine ⟨_, rfl, ?_⟩; have n0_ := Aside0.mk (blk_below (g := gb245) (o := .cells #[.int .i64 a0_0, .slice A0_1 l0_1.length c0_1] 25 (0, 0)) (bvK BK245.out) hb); have n1_ := Aside0.mk (blk_below (g := gb246) (o := .cells #[.int .i64 0, .slice none 0 0] 25 (0, 0)) (bvK BK246.out) hb); have n2_ := Aside0.mk (below_step (by repeat (first | (with_reducible first | exact HB.out | apply bwA | apply bwN | apply bwD | refine below_set ?_ GE245.out | refine below_set ?_ GE246.out) | exact HB.out)) hb); clear BK245; clear BK246; clear HB; have BK245 := n0_; have BK246 := n1_; have HB := n2_; clear n0_ n1_ n2_; (try clear hb); (try clear hb2); (try clear hk); (try clear hi)))
   go_meet
   case rel => exact ⟨_, (true), rsd, H', ⟨by first | omega | exact Nat.le_refl _⟩, ⟨bvK BK245.out⟩, ⟨bvK BK246.out⟩, ⟨by repeat (first | (with_reducible first | exact HB.out | apply bwA | apply bwN | apply bwD | refine below_set ?_ GE245.out | refine below_set ?_ GE246.out) | exact HB.out)⟩⟩
 case rest =>
  clear HC5
  try clear c1
  try clear c2
  try clear p2
  try clear c5
  try clear c7
  try clear c9
  try clear c11
  try clear c13
  try clear c20
  try clear c25
  try clear hcz14_0
  try clear hcz14_1
  try clear hcz16_0
  try clear hcz16_1
  try clear hcz18_0
  try clear hcz18_1
  try clear hcz21_0
  try clear hcz21_1
  try clear hcz23_0
  try clear hcz23_1
  try clear hcz26_0
  try clear hcz26_1
  try clear hfz14_0
  try clear hfz14_1
  try clear hfz16_0
  try clear hfz16_1
  try clear hfz18_0
  try clear hfz18_1
  try clear hfz21_0
  try clear hfz21_1
  try clear hfz23_0
  try clear hfz23_1
  try clear hfz26_0
  try clear hfz26_1
  obtain ⟨kq, x26_4, rfl, HA, HJ4, BK245, BK246, HB⟩ := hcut
  cases kq with
  | zero => exact absurd HA.out (by simp [spec_l8Two.j0])
  | succ kj4 =>
   have H := HA.out
   clear HA
   simp only [spec_l8Two.j0] at H
   by_cases c28 : x26_4 = true
   ·subst c28
    have H1 : (some (0, ([] : List (S71)), (-1))) = some (r1, r2, r3) := by rw [if_pos rfl] at H; exact H
    clear H
    have H := H1
    clear H1
    simp only [Option.some.injEq, Prod.mk.injEq] at H
    obtain ⟨rfl, rfl, rfl⟩ := H
    have hnb29 := NB246_245.out
    have hnc29 := NB245_246.out
    have hcz30_0 : wc.cell? ⟨gb246, 0, none⟩ = some (.int .i64 0) := (blk_cell BK246.out 0).trans rfl
    have hcz30_1 : wc.cell? ⟨gb246, 1, none⟩ = some (.slice none 0 0) := (blk_cell BK246.out 1).trans rfl
    have hfz30_0 := blk_frozen BK246.out 0
    have hfz30_1 := blk_frozen BK246.out 1
    go_wp2
    refine bodyPost_ret (results_ct rfl _ _ gb246 25 #[.int .i64 0, .slice none 0 0] (0, 0) _ rfl (by (with_reducible repeat first | apply bkN | apply bkD | apply bkA); refine blk_put (cs := #[.int .i64 0, .slice none 0 0]) ?_ 1 _ rfl; (with_reducible repeat first | apply bkN | apply bkD | apply bkA); refine blk_put (cs := #[.int .i64 0, .slice none 0 0]) ?_ 0 _ rfl; (with_reducible repeat first | apply bkN | apply bkD | apply bkA); exact BK246.out) Try.underlying25 rfl (by kernel_rfl)) rfl ?_
    exact ⟨_, ers, by first | exact Kd.R_nil _ _ _ _ _ | exact Kd.N_nil _ _ _ _ _ | exact Kd.V_nil _ _ _ _ _ | exact Kd.Q_nil _ _ _ _ _ | exact Kd.S_nil _ _ _ _ _, by repeat (first | (with_reducible first | exact HB.out | apply bwA | apply bwN | apply bwD | refine below_set ?_ GE245.out | refine below_set ?_ GE246.out) | exact HB.out)⟩
   ·replace c28 := Bool.eq_false_iff.mpr c28
    subst c28
    have H1 : ((spec_l8Copy.f kj4 a0_0 l0_1).bind fun bt250 => ((spec_l8Do.f kj4 bt250.1 bt250.2 a1 a2 a3).bind fun bt254 => ((spec_l8Told.f bt254.1 bt254.2.1 bt254.2.2).bind fun bt260 => (some (bt260.1, bt260.2.1, bt260.2.2))))) = some (r1, r2, r3) := by rw [if_neg (show ¬ (false = true) by decide)] at H; exact H
    clear H
    have H := H1
    clear H1
    replace H := Option.bind_eq_some_iff.mp H
    obtain ⟨⟨t250, t251⟩, A310, H⟩ := H
    replace H : ((spec_l8Do.f kj4 t250 t251 a1 a2 a3).bind fun bt254 => ((spec_l8Told.f bt254.1 bt254.2.1 bt254.2.2).bind fun bt260 => (some (bt260.1, bt260.2.1, bt260.2.2)))) = some (r1, r2, r3) := H
    have A31 := Aside0.mk A310
    clear A310
    replace H := Option.bind_eq_some_iff.mp H
    obtain ⟨⟨t254, t255, t258⟩, A320, H⟩ := H
    replace H : ((spec_l8Told.f t254 t255 t258).bind fun bt260 => (some (bt260.1, bt260.2.1, bt260.2.2))) = some (r1, r2, r3) := H
    have A32 := Aside0.mk A320
    clear A320
    replace H := Option.bind_eq_some_iff.mp H
    obtain ⟨⟨t260, t261, t264⟩, A330, H⟩ := H
    replace H : (some (t260, t261, t264)) = some (r1, r2, r3) := H
    have A33 := Aside0.mk A330
    clear A330
    simp only [Option.some.injEq, Prod.mk.injEq] at H
    obtain ⟨rfl, rfl, rfl⟩ := H
    have hnb34 := NB245_246.out
    have hnc34 := NB246_245.out
    have hcz35_0 : wc.cell? ⟨gb245, 0, none⟩ = some (.int .i64 a0_0) := (blk_cell BK245.out 0).trans rfl
    have hcz35_1 : wc.cell? ⟨gb245, 1, none⟩ = some (.slice A0_1 l0_1.length c0_1) := (blk_cell BK245.out 1).trans rfl
    have hfz35_0 := blk_frozen BK245.out 0
    have hfz35_1 := blk_frozen BK245.out 1
    go_wp2_with (first | ((with_reducible refine gate_callee (f := 61) rfl ?_); refine goesL_ (some 30) rfl rfl Try.func61 (by kernel_rfl) rfl #[.agg #[.int .i64 a0_0, .slice A0_1 l0_1.length c0_1]] rfl lmB ?_; (with_reducible refine (spec_l8Copy.calls kj4 a0_0 _ _ l0_1 t250 t251 _ ?side1 ?side2 A31.out).mono ?_); (case side1 => repeat (first | exact (Kd.C_below HR0_1.out HB.out) | (with_reducible refine Kd.C_alloc ?_ _) | (with_reducible refine Kd.C_drewN ?_ _) | (with_reducible refine Kd.C_drew ?_))); (case side2 => exact HC0_1.out); rintro e w36 ⟨v252, rfl, ho0, hb⟩; refine ⟨_, rfl, ?_⟩; have n0_ := Aside0.mk (Kd.R_lower ho0 (below_size (by repeat (first | (with_reducible first | exact HB.out | apply bwA | apply bwN | apply bwD | refine below_set ?_ GE245.out | refine below_set ?_ GE246.out) | exact HB.out)))); have n1_ := Aside0.mk (blk_below (g := gb245) (o := .cells #[.int .i64 a0_0, .slice A0_1 l0_1.length c0_1] 25 (0, 0)) (bvK BK245.out) hb); have n2_ := Aside0.mk (blk_below (g := gb246) (o := .cells #[.int .i64 0, .slice none 0 0] 25 (0, 0)) (bvK BK246.out) hb); have n3_ := Aside0.mk (below_step (by repeat (first | (with_reducible first | exact HB.out | apply bwA | apply bwN | apply bwD | refine below_set ?_ GE245.out | refine below_set ?_ GE246.out) | exact HB.out)) hb); clear BK245; clear BK246; clear HB; have HO253 := n0_; have BK245 := n1_; have BK246 := n2_; have HB := n3_; clear n0_ n1_ n2_ n3_; (try clear hb); (try clear hb2); (try clear hk); (try clear hi); (try clear ho0); obtain ⟨Ao37, co37, eo37⟩ := Kd.R_slice HO253.out; subst eo37) | ((with_reducible refine gate_callee (f := 104) rfl ?_); refine goesL_ (some 34) rfl rfl Try.func104 (by kernel_rfl) rfl #[.agg #[.int .i64 t250, .slice Ao37 t251.length co37], .int .i64 a1, .int .i64 a2, .int .i64 a3] rfl lmB ?_; (with_reducible refine (spec_l8Do.calls kj4 t250 (fun k_ => some k_ = (.slice Ao37 t251.length co37 : Value).ownBlock) (.slice Ao37 t251.length co37) t251 a1 a2 a3 t254 t255 t258 w _ ?side1 ?side2 A32.out).mono ?_); (case side1 => repeat (first | (with_reducible first | exact HB.out | apply bwA | apply bwN | apply bwD | refine below_set ?_ GE245.out | refine below_set ?_ GE246.out) | exact HB.out)); (case side2 => exact Kd.R_tight rfl HO253.out); rintro e w38 ⟨v256, rfl, ho0, hb, hkp⟩; refine ⟨_, rfl, ?_⟩; have n0_ := Aside0.mk (blk_kept (bvK BK245.out) hkp (fun hs_ => (fun e_ => (Kd.R_ne HO253.out BK245.out (by decide)) e_) hs_)); have n1_ := Aside0.mk (blk_kept (bvK BK246.out) hkp (fun hs_ => (fun e_ => (Kd.R_ne HO253.out BK246.out (by decide)) e_) hs_)); have n2_ := Aside0.mk (Kd.R_mono (ok' := fun k_ => True) ho0 (fun k_ hk_ => trivial)); have n3_ := Aside0.mk (hb); clear BK245; clear BK246; clear HB; clear HO253; have BK245 := n0_; have BK246 := n1_; have HO257 := n2_; have HB := n3_; clear n0_ n1_ n2_ n3_; (try clear hb); (try clear hkp); (try clear ho0)) | ((with_reducible refine gate_dst (N := 10) rfl ?_); refine box_event ?hg (N := 10) ?hd (cs := #[.int .i64 0, .slice none 0 0]) (t := 25) ?hr ?_; (case hd => rfl); (case hg => rfl); (case hr => first | (go_simp; done) | (go_simp; rfl)); intro gb259 hg w39 hbox hb; have n0_ := Aside0.mk (Kd.R_below (rvR HO257.out) hb); have n1_ := Aside0.mk (blk_below (g := gb245) (o := .cells #[.int .i64 a0_0, .slice A0_1 l0_1.length c0_1] 25 (0, 0)) (bvK BK245.out) hb); have n2_ := Aside0.mk (blk_below (g := gb246) (o := .cells #[.int .i64 0, .slice none 0 0] 25 (0, 0)) (bvK BK246.out) hb); have n3_ := Aside0.mk (below_step (by repeat (first | (with_reducible first | exact HB.out | apply bwA | apply bwN | apply bwD | refine below_set ?_ GE245.out | refine below_set ?_ GE246.out) | exact HB.out)) hb); have n4_ := Aside0.mk (hbox); have n5_ := Aside0.mk ((by rw [hg]; exact (below_size (by repeat (first | (with_reducible first | exact HB.out | apply bwA | apply bwN | apply bwD | refine below_set ?_ GE245.out | refine below_set ?_ GE246.out) | exact HB.out))) : w.heap.size ≤ gb259)); have n6_ := Aside0.mk ((by rw [hg]; exact (below_size (by repeat (first | (with_reducible first | exact HB.out | apply bwA | apply bwN | apply bwD | refine below_set ?_ GE245.out | refine below_set ?_ GE246.out) | exact HB.out))) : w.heap.size ≤ gb259)); have n7_ := Aside0.mk ((by rw [hg]; exact Nat.ne_of_lt (blk_lt (g := gb245) (o := .cells #[.int .i64 a0_0, .slice A0_1 l0_1.length c0_1] 25 (0, 0)) (bvK BK245.out)) : gb245 ≠ gb259)); have n8_ := Aside0.mk ((by rw [hg]; exact Nat.ne_of_gt (blk_lt (g := gb245) (o := .cells #[.int .i64 a0_0, .slice A0_1 l0_1.length c0_1] 25 (0, 0)) (bvK BK245.out)) : gb259 ≠ gb245)); have n9_ := Aside0.mk ((by rw [hg]; exact Nat.ne_of_lt (blk_lt (g := gb246) (o := .cells #[.int .i64 0, .slice none 0 0] 25 (0, 0)) (bvK BK246.out)) : gb246 ≠ gb259)); have n10_ := Aside0.mk ((by rw [hg]; exact Nat.ne_of_gt (blk_lt (g := gb246) (o := .cells #[.int .i64 0, .slice none 0 0] 25 (0, 0)) (bvK BK246.out)) : gb259 ≠ gb246)); clear HO257; clear BK245; clear BK246; clear HB; have HO257 := n0_; have BK245 := n1_; have BK246 := n2_; have HB := n3_; have BK259 := n4_; have GW259 := n5_; have GE259 := n6_; have NB245_259 := n7_; have NB259_245 := n8_; have NB246_259 := n9_; have NB259_246 := n10_; clear n0_ n1_ n2_ n3_ n4_ n5_ n6_ n7_ n8_ n9_ n10_; clear hb hbox hg; have hnb40 := NB259_245.out; have hnc40 := NB245_259.out; have hnb41 := NB259_246.out; have hnc41 := NB246_259.out; have hcz42_0 : w39.cell? ⟨gb259, 0, none⟩ = some (.int .i64 0) := (blk_cell BK259.out 0).trans rfl; have hcz42_1 : w39.cell? ⟨gb259, 1, none⟩ = some (.slice none 0 0) := (blk_cell BK259.out 1).trans rfl; have hfz42_0 := blk_frozen BK259.out 0; have hfz42_1 := blk_frozen BK259.out 1; obtain ⟨Ao43, co43, eo43⟩ := Kd.R_slice HO257.out; subst eo43) | ((with_reducible refine gate_store (t := 25) (p := 10) rfl ?_); refine store_event (t := 25) (p := 10) (v := ?vo_w44) (w1 := ((w39.setCell ⟨gb259, 0, none⟩ (.int .i64 t254)).setCell ⟨gb259, 1, none⟩ (.slice Ao43 t255.length co43))) ?hg ?ho ?hn ?hr ?_; (case ho => rfl); (case hg => rfl); (case hn => rfl); (case hr => first | (go_simp; done) | (go_simp; rfl)); intro w44 hw; have n0_ : Aside0 (Kd.R k71 71 w44 w.heap.size (fun _ => True) (.slice Ao43 t255.length co43) t255) := ⟨(by rw [hw]; exact (by (with_reducible repeat first | apply rvA | apply rvN | apply rvD); exact Kd.R_mono (Kd.R_far (p := ⟨gb259, 1, none⟩) (Kd.R_far (p := ⟨gb259, 0, none⟩) (Kd.R_types HO257.out BK259.out (by decide)) (fun _ hk => hk.2) (.int .i64 t254)) (fun _ hk => hk.2) (.slice Ao43 t255.length co43)) (fun _ hk => trivial)))⟩; have n1_ : Aside0 (w44.heap[gb245]? = some (.cells #[.int .i64 a0_0, .slice A0_1 l0_1.length c0_1] 25 (0, 0))) := ⟨(by rw [hw]; exact (by (with_reducible repeat first | apply bkN | apply bkD | apply bkA); refine blk_far ?_ NB245_259.out _; (with_reducible repeat first | apply bkN | apply bkD | apply bkA); refine blk_far ?_ NB245_259.out _; (with_reducible repeat first | apply bkN | apply bkD | apply bkA); exact BK245.out))⟩; have n2_ : Aside0 (w44.heap[gb246]? = some (.cells #[.int .i64 0, .slice none 0 0] 25 (0, 0))) := ⟨(by rw [hw]; exact (by (with_reducible repeat first | apply bkN | apply bkD | apply bkA); refine blk_far ?_ NB246_259.out _; (with_reducible repeat first | apply bkN | apply bkD | apply bkA); refine blk_far ?_ NB246_259.out _; (with_reducible repeat first | apply bkN | apply bkD | apply bkA); exact BK246.out))⟩; have n3_ : Aside0 (w44.heap[gb259]? = some (.cells #[.int .i64 t254, .slice Ao43 t255.length co43] 25 (0, 0))) := ⟨(by rw [hw]; exact (by (with_reducible repeat first | apply bkN | apply bkD | apply bkA); refine blk_put (cs := #[.int .i64 t254, .slice none 0 0]) ?_ 1 _ rfl; (with_reducible repeat first | apply bkN | apply bkD | apply bkA); refine blk_put (cs := #[.int .i64 0, .slice none 0 0]) ?_ 0 _ rfl; (with_reducible repeat first | apply bkN | apply bkD | apply bkA); exact BK259.out))⟩; have n4_ : Aside0 (Below w.heap.size w w44) := ⟨(by rw [hw]; exact (by repeat (first | (with_reducible first | exact HB.out | apply bwA | apply bwN | apply bwD | refine below_set ?_ GE245.out | refine below_set ?_ GE246.out | refine below_set ?_ GE259.out) | exact HB.out)))⟩; clear hw; clear HO257; clear BK245; clear BK246; clear BK259; clear HB; have HO257 := n0_; have BK245 := n1_; have BK246 := n2_; have BK259 := n3_; have HB := n4_; clear n0_ n1_ n2_ n3_ n4_; have hcz45_0 : w44.cell? ⟨gb259, 0, none⟩ = some (.int .i64 t254) := (blk_cell BK259.out 0).trans rfl; have hcz45_1 : w44.cell? ⟨gb259, 1, none⟩ = some (.slice Ao43 t255.length co43) := (blk_cell BK259.out 1).trans rfl; have hfz45_0 := blk_frozen BK259.out 0; have hfz45_1 := blk_frozen BK259.out 1) | ((with_reducible refine gate_callee (f := 62) rfl ?_); refine goesL_ (some 39) rfl rfl Try.func62 (by kernel_rfl) rfl #[.agg #[.int .i64 t254, .slice Ao43 t255.length co43], .int .i64 t258] rfl lmB ?_; (with_reducible refine (spec_l8Told.calls t254 (fun k_ => some k_ = (.slice Ao43 t255.length co43 : Value).ownBlock) (.slice Ao43 t255.length co43) t255 t258 t260 t261 t264 w _ ?side1 ?side2 A33.out).mono ?_); (case side1 => repeat (first | (with_reducible first | exact HB.out | apply bwA | apply bwN | apply bwD | refine below_set ?_ GE245.out | refine below_set ?_ GE246.out | refine below_set ?_ GE259.out) | exact HB.out)); (case side2 => exact Kd.R_tight rfl HO257.out); rintro e w46 ⟨v262, rfl, ho0, hb, hkp⟩; refine ⟨_, rfl, ?_⟩; have n0_ := Aside0.mk (blk_kept (bvK BK245.out) hkp (fun hs_ => (fun e_ => (Kd.R_ne HO257.out BK245.out (by decide)) e_) hs_)); have n1_ := Aside0.mk (blk_kept (bvK BK246.out) hkp (fun hs_ => (fun e_ => (Kd.R_ne HO257.out BK246.out (by decide)) e_) hs_)); have n2_ := Aside0.mk (blk_kept (bvK BK259.out) hkp (fun hs_ => (fun e_ => (Kd.R_ne HO257.out BK259.out (by decide)) e_) hs_)); have n3_ := Aside0.mk (Kd.R_mono (ok' := fun k_ => True) ho0 (fun k_ hk_ => trivial)); have n4_ := Aside0.mk (hb); clear BK245; clear BK246; clear BK259; clear HB; clear HO257; have BK245 := n0_; have BK246 := n1_; have BK259 := n2_; have HO263 := n3_; have HB := n4_; clear n0_ n1_ n2_ n3_ n4_; (try clear hb); (try clear hkp); (try clear ho0); have hcz47_0 : w46.cell? ⟨gb246, 0, none⟩ = some (.int .i64 0) := (blk_cell BK246.out 0).trans rfl; have hcz47_1 : w46.cell? ⟨gb246, 1, none⟩ = some (.slice none 0 0) := (blk_cell BK246.out 1).trans rfl; have hfz47_0 := blk_frozen BK246.out 0; have hfz47_1 := blk_frozen BK246.out 1; obtain ⟨Ao48, co48, eo48⟩ := Kd.R_slice HO263.out; subst eo48))
    refine bodyPost_ret (results_ct rfl _ _ gb246 25 #[.int .i64 t260, .slice Ao48 t261.length co48] (0, 0) _ rfl (by (with_reducible repeat first | apply bkN | apply bkD | apply bkA); refine blk_put (cs := #[.int .i64 t260, .slice none 0 0]) ?_ 1 _ rfl; (with_reducible repeat first | apply bkN | apply bkD | apply bkA); refine blk_put (cs := #[.int .i64 0, .slice none 0 0]) ?_ 0 _ rfl; (with_reducible repeat first | apply bkN | apply bkD | apply bkA); exact BK246.out) Try.underlying25 rfl (by kernel_rfl)) rfl ?_
    exact ⟨_, ers, by (with_reducible repeat first | apply rvA | apply rvN | apply rvD); exact Kd.R_mono (Kd.R_far (p := ⟨gb246, 1, none⟩) (Kd.R_far (p := ⟨gb246, 0, none⟩) (Kd.R_types HO263.out BK246.out (by decide)) (fun _ hk => hk.2) (.int .i64 t260)) (fun _ hk => hk.2) (.slice Ao48 t261.length co48)) (fun _ hk => trivial), by repeat (first | (with_reducible first | exact HB.out | apply bwA | apply bwN | apply bwD | refine below_set ?_ GE245.out | refine below_set ?_ GE246.out | refine below_set ?_ GE259.out) | exact HB.out)⟩

/-! ### spec_DiagramNot: function 26 -/
def spec_DiagramNot.f (k : Nat) (a0_0 : Int) (l0_1 : List (S71)) (a1 : Int) : Option (Int × (List (S71)) × Int) := (spec_l8Two.f k a0_0 l0_1 2 a1 1).bind fun bt267 => (some (bt267.1, bt267.2.1, bt267.2.2))
theorem spec_DiagramNot.mono : ∀ a0 a1 a2 k, LeO (spec_DiagramNot.f k a0 a1 a2) (spec_DiagramNot.f (k + 1) a0 a1 a2) := by
 intro a0 a1 a2 k
 unfold spec_DiagramNot.f
 repeat' first
   | (with_reducible exact spec_l8Two.mono _ _ _ _ _ _)
   | (with_reducible exact LeO.refl _)
   | (with_reducible exact LeO.none _)
   | (with_reducible refine LeO.ite ?_ ?_)
   | (with_reducible refine LeO.bind ?_ (fun _ => ?_))
set_option maxHeartbeats 8000000 in
set_option maxRecDepth 100000 in
theorem spec_DiagramNot.calls (k : Nat) (a0_0 : Int) (A0_1 : Option Addr) (c0_1 : Nat) (l0_1 : List (S71)) (a1 : Int) (r1 : Int) (r2 : List (S71)) (r3 : Int) (w : World) (hr0_1 : Kd.C k71 w A0_1 l0_1.length l0_1) (hc0_1 : l0_1.length ≤ c0_1) (h : spec_DiagramNot.f k a0_0 l0_1 a1 = some (r1, r2, r3)) :
  Calls Try.prog 26 #[.agg #[.int .i64 a0_0, .slice A0_1 l0_1.length c0_1], .int .i64 a1] w fun e w' => ∃ v1_ : Value, e = .returned (.tuple #[.agg #[.int .i64 r1, v1_], .int .i64 r3]) ∧ Kd.R k71 71 w' w.heap.size (fun _ => True) v1_ r2 ∧ Below w.heap.size w w' := by
 have hu25 := Try.underlying25
 have HR0_1 := Aside0.mk hr0_1
 have HC0_1 := Aside0.mk hc0_1
 clear hr0_1 hc0_1
 have HB := Aside0.mk (Below.refl w.heap.size w)
 have H : ((spec_l8Two.f k a0_0 l0_1 2 a1 1).bind fun bt267 => (some (bt267.1, bt267.2.1, bt267.2.2))) = some (r1, r2, r3) := h
 clear h
 replace H := Option.bind_eq_some_iff.mp H
 obtain ⟨⟨t267, t268, t271⟩, A30, H⟩ := H
 replace H : (some (t267, t268, t271)) = some (r1, r2, r3) := H
 have A3 := Aside0.mk A30
 clear A30
 simp only [Option.some.injEq, Prod.mk.injEq] at H
 obtain ⟨rfl, rfl, rfl⟩ := H
 go_enter Try.func26, Try.ntmps26
 go_wp2_with (first | ((with_reducible refine gate_dst (N := 2) rfl ?_); refine box_event ?hg (N := 2) ?hd (cs := #[.int .i64 a0_0, .slice A0_1 l0_1.length c0_1]) (t := 25) ?hr ?_; (case hd => rfl); (case hg => rfl); (case hr => first | (go_simp; done) | (go_simp; rfl)); intro gb265 hg w4 hbox hb; have n0_ := Aside0.mk (below_step (by repeat (first | (with_reducible first | exact HB.out | apply bwA | apply bwN | apply bwD) | exact HB.out)) hb); have n1_ := Aside0.mk (hbox); have n2_ := Aside0.mk ((by rw [hg]; exact (below_size (by repeat (first | (with_reducible first | exact HB.out | apply bwA | apply bwN | apply bwD) | exact HB.out))) : w.heap.size ≤ gb265)); have n3_ := Aside0.mk ((by rw [hg]; exact (below_size (by repeat (first | (with_reducible first | exact HB.out | apply bwA | apply bwN | apply bwD) | exact HB.out))) : w.heap.size ≤ gb265)); clear HB; have HB := n0_; have BK265 := n1_; have GW265 := n2_; have GE265 := n3_; clear n0_ n1_ n2_ n3_; clear hb hbox hg) | ((with_reducible refine gate_dst (N := 4) rfl ?_); refine box_event ?hg (N := 4) ?hd (cs := #[.int .i64 0, .slice none 0 0]) (t := 25) ?hr ?_; (case hd => rfl); (case hg => rfl); (case hr => first | (go_simp; done) | (go_simp; rfl)); intro gb266 hg w5 hbox hb; have n0_ := Aside0.mk (blk_below (g := gb265) (o := .cells #[.int .i64 a0_0, .slice A0_1 l0_1.length c0_1] 25 (0, 0)) (bvK BK265.out) hb); have n1_ := Aside0.mk (below_step (by repeat (first | (with_reducible first | exact HB.out | apply bwA | apply bwN | apply bwD | refine below_set ?_ GE265.out) | exact HB.out)) hb); have n2_ := Aside0.mk (hbox); have n3_ := Aside0.mk ((by rw [hg]; exact (below_size (by repeat (first | (with_reducible first | exact HB.out | apply bwA | apply bwN | apply bwD | refine below_set ?_ GE265.out) | exact HB.out))) : w.heap.size ≤ gb266)); have n4_ := Aside0.mk ((by rw [hg]; exact (below_size (by repeat (first | (with_reducible first | exact HB.out | apply bwA | apply bwN | apply bwD | refine below_set ?_ GE265.out) | exact HB.out))) : w.heap.size ≤ gb266)); have n5_ := Aside0.mk ((by rw [hg]; exact Nat.ne_of_lt (blk_lt (g := gb265) (o := .cells #[.int .i64 a0_0, .slice A0_1 l0_1.length c0_1] 25 (0, 0)) (bvK BK265.out)) : gb265 ≠ gb266)); have n6_ := Aside0.mk ((by rw [hg]; exact Nat.ne_of_gt (blk_lt (g := gb265) (o := .cells #[.int .i64 a0_0, .slice A0_1 l0_1.length c0_1] 25 (0, 0)) (bvK BK265.out)) : gb266 ≠ gb265)); clear BK265; clear HB; have BK265 := n0_; have HB := n1_; have BK266 := n2_; have GW266 := n3_; have GE266 := n4_; have NB265_266 := n5_; have NB266_265 := n6_; clear n0_ n1_ n2_ n3_ n4_ n5_ n6_; clear hb hbox hg; have hnb6 := NB265_266.out; have hnc6 := NB266_265.out; have hcz7_0 : w5.cell? ⟨gb265, 0, none⟩ = some (.int .i64 a0_0) := (blk_cell BK265.out 0).trans rfl; have hcz7_1 : w5.cell? ⟨gb265, 1, none⟩ = some (.slice A0_1 l0_1.length c0_1) := (blk_cell BK265.out 1).trans rfl; have hfz7_0 := blk_frozen BK265.out 0; have hfz7_1 := blk_frozen BK265.out 1) | ((with_reducible refine gate_callee (f := 72) rfl ?_); refine goesL_ (some 8) rfl rfl Try.func72 (by kernel_rfl) rfl #[.agg #[.int .i64 a0_0, .slice A0_1 l0_1.length c0_1], .int .i64 2, .int .i64 a1, .int .i64 1] rfl lmB ?_; (with_reducible refine (spec_l8Two.calls k a0_0 _ _ l0_1 2 a1 1 t267 t268 t271 _ ?side1 ?side2 A3.out).mono ?_); (case side1 => repeat (first | exact (Kd.C_below HR0_1.out HB.out) | (with_reducible refine Kd.C_alloc ?_ _) | (with_reducible refine Kd.C_drewN ?_ _) | (with_reducible refine Kd.C_drew ?_))); (case side2 => exact HC0_1.out); rintro e w8 ⟨v269, rfl, ho0, hb⟩; refine ⟨_, rfl, ?_⟩; have n0_ := Aside0.mk (Kd.R_lower ho0 (below_size (by repeat (first | (with_reducible first | exact HB.out | apply bwA | apply bwN | apply bwD | refine below_set ?_ GE265.out | refine below_set ?_ GE266.out) | exact HB.out)))); have n1_ := Aside0.mk (blk_below (g := gb265) (o := .cells #[.int .i64 a0_0, .slice A0_1 l0_1.length c0_1] 25 (0, 0)) (bvK BK265.out) hb); have n2_ := Aside0.mk (blk_below (g := gb266) (o := .cells #[.int .i64 0, .slice none 0 0] 25 (0, 0)) (bvK BK266.out) hb); have n3_ := Aside0.mk (below_step (by repeat (first | (with_reducible first | exact HB.out | apply bwA | apply bwN | apply bwD | refine below_set ?_ GE265.out | refine below_set ?_ GE266.out) | exact HB.out)) hb); clear BK265; clear BK266; clear HB; have HO270 := n0_; have BK265 := n1_; have BK266 := n2_; have HB := n3_; clear n0_ n1_ n2_ n3_; (try clear hb); (try clear hb2); (try clear hk); (try clear hi); (try clear ho0); have hcz9_0 : w8.cell? ⟨gb266, 0, none⟩ = some (.int .i64 0) := (blk_cell BK266.out 0).trans rfl; have hcz9_1 : w8.cell? ⟨gb266, 1, none⟩ = some (.slice none 0 0) := (blk_cell BK266.out 1).trans rfl; have hfz9_0 := blk_frozen BK266.out 0; have hfz9_1 := blk_frozen BK266.out 1; obtain ⟨Ao10, co10, eo10⟩ := Kd.R_slice HO270.out; subst eo10))
 refine bodyPost_ret (results_ct rfl _ _ gb266 25 #[.int .i64 t267, .slice Ao10 t268.length co10] (0, 0) _ rfl (by (with_reducible repeat first | apply bkN | apply bkD | apply bkA); refine blk_put (cs := #[.int .i64 t267, .slice none 0 0]) ?_ 1 _ rfl; (with_reducible repeat first | apply bkN | apply bkD | apply bkA); refine blk_put (cs := #[.int .i64 0, .slice none 0 0]) ?_ 0 _ rfl; (with_reducible repeat first | apply bkN | apply bkD | apply bkA); exact BK266.out) Try.underlying25 rfl (by kernel_rfl)) rfl ?_
 exact ⟨_, ers, by (with_reducible repeat first | apply rvA | apply rvN | apply rvD); exact Kd.R_mono (Kd.R_far (p := ⟨gb266, 1, none⟩) (Kd.R_far (p := ⟨gb266, 0, none⟩) (Kd.R_types HO270.out BK266.out (by decide)) (fun _ hk => hk.2) (.int .i64 t267)) (fun _ hk => hk.2) (.slice Ao10 t268.length co10)) (fun _ hk => trivial), by repeat (first | (with_reducible first | exact HB.out | apply bwA | apply bwN | apply bwD | refine below_set ?_ GE265.out | refine below_set ?_ GE266.out) | exact HB.out)⟩

/-! ### impl_DiagramAnd: function 27 -/
def impl_DiagramAnd.f (k : Nat) (a0_0 : Int) (l0_1 : List (S71)) (a1 : Int) (a2 : Int) : Option (Int × (List (S71)) × Int) := (impl_applied.f k a0_0 l0_1 1 a1 a2).bind fun bt274 => (some (bt274.1, bt274.2.1, bt274.2.2))
theorem impl_DiagramAnd.mono : ∀ a0 a1 a2 a3 k, LeO (impl_DiagramAnd.f k a0 a1 a2 a3) (impl_DiagramAnd.f (k + 1) a0 a1 a2 a3) := by
 intro a0 a1 a2 a3 k
 unfold impl_DiagramAnd.f
 repeat' first
   | (with_reducible exact impl_applied.mono _ _ _ _ _ _)
   | (with_reducible exact LeO.refl _)
   | (with_reducible exact LeO.none _)
   | (with_reducible refine LeO.ite ?_ ?_)
   | (with_reducible refine LeO.bind ?_ (fun _ => ?_))
set_option maxHeartbeats 8000000 in
set_option maxRecDepth 100000 in
theorem impl_DiagramAnd.calls (k : Nat) (a0_0 : Int) (A0_1 : Option Addr) (c0_1 : Nat) (l0_1 : List (S71)) (a1 : Int) (a2 : Int) (r1 : Int) (r2 : List (S71)) (r3 : Int) (w : World) (hr0_1 : Kd.C k71 w A0_1 l0_1.length l0_1) (hc0_1 : l0_1.length ≤ c0_1) (h : impl_DiagramAnd.f k a0_0 l0_1 a1 a2 = some (r1, r2, r3)) :
  Calls Try.prog 27 #[.agg #[.int .i64 a0_0, .slice A0_1 l0_1.length c0_1], .int .i64 a1, .int .i64 a2] w fun e w' => ∃ v1_ : Value, e = .returned (.tuple #[.agg #[.int .i64 r1, v1_], .int .i64 r3]) ∧ Kd.R k71 71 w' w.heap.size (fun _ => True) v1_ r2 ∧ Below w.heap.size w w' := by
 have hu25 := Try.underlying25
 have HR0_1 := Aside0.mk hr0_1
 have HC0_1 := Aside0.mk hc0_1
 clear hr0_1 hc0_1
 have HB := Aside0.mk (Below.refl w.heap.size w)
 have H : ((impl_applied.f k a0_0 l0_1 1 a1 a2).bind fun bt274 => (some (bt274.1, bt274.2.1, bt274.2.2))) = some (r1, r2, r3) := h
 clear h
 replace H := Option.bind_eq_some_iff.mp H
 obtain ⟨⟨t274, t275, t278⟩, A40, H⟩ := H
 replace H : (some (t274, t275, t278)) = some (r1, r2, r3) := H
 have A4 := Aside0.mk A40
 clear A40
 simp only [Option.some.injEq, Prod.mk.injEq] at H
 obtain ⟨rfl, rfl, rfl⟩ := H
 go_enter Try.func27, Try.ntmps27
 go_wp2_with (first | ((with_reducible refine gate_dst (N := 3) rfl ?_); refine box_event ?hg (N := 3) ?hd (cs := #[.int .i64 a0_0, .slice A0_1 l0_1.length c0_1]) (t := 25) ?hr ?_; (case hd => rfl); (case hg => rfl); (case hr => first | (go_simp; done) | (go_simp; rfl)); intro gb272 hg w5 hbox hb; have n0_ := Aside0.mk (below_step (by repeat (first | (with_reducible first | exact HB.out | apply bwA | apply bwN | apply bwD) | exact HB.out)) hb); have n1_ := Aside0.mk (hbox); have n2_ := Aside0.mk ((by rw [hg]; exact (below_size (by repeat (first | (with_reducible first | exact HB.out | apply bwA | apply bwN | apply bwD) | exact HB.out))) : w.heap.size ≤ gb272)); have n3_ := Aside0.mk ((by rw [hg]; exact (below_size (by repeat (first | (with_reducible first | exact HB.out | apply bwA | apply bwN | apply bwD) | exact HB.out))) : w.heap.size ≤ gb272)); clear HB; have HB := n0_; have BK272 := n1_; have GW272 := n2_; have GE272 := n3_; clear n0_ n1_ n2_ n3_; clear hb hbox hg) | ((with_reducible refine gate_dst (N := 6) rfl ?_); refine box_event ?hg (N := 6) ?hd (cs := #[.int .i64 0, .slice none 0 0]) (t := 25) ?hr ?_; (case hd => rfl); (case hg => rfl); (case hr => first | (go_simp; done) | (go_simp; rfl)); intro gb273 hg w6 hbox hb; have n0_ := Aside0.mk (blk_below (g := gb272) (o := .cells #[.int .i64 a0_0, .slice A0_1 l0_1.length c0_1] 25 (0, 0)) (bvK BK272.out) hb); have n1_ := Aside0.mk (below_step (by repeat (first | (with_reducible first | exact HB.out | apply bwA | apply bwN | apply bwD | refine below_set ?_ GE272.out) | exact HB.out)) hb); have n2_ := Aside0.mk (hbox); have n3_ := Aside0.mk ((by rw [hg]; exact (below_size (by repeat (first | (with_reducible first | exact HB.out | apply bwA | apply bwN | apply bwD | refine below_set ?_ GE272.out) | exact HB.out))) : w.heap.size ≤ gb273)); have n4_ := Aside0.mk ((by rw [hg]; exact (below_size (by repeat (first | (with_reducible first | exact HB.out | apply bwA | apply bwN | apply bwD | refine below_set ?_ GE272.out) | exact HB.out))) : w.heap.size ≤ gb273)); have n5_ := Aside0.mk ((by rw [hg]; exact Nat.ne_of_lt (blk_lt (g := gb272) (o := .cells #[.int .i64 a0_0, .slice A0_1 l0_1.length c0_1] 25 (0, 0)) (bvK BK272.out)) : gb272 ≠ gb273)); have n6_ := Aside0.mk ((by rw [hg]; exact Nat.ne_of_gt (blk_lt (g := gb272) (o := .cells #[.int .i64 a0_0, .slice A0_1 l0_1.length c0_1] 25 (0, 0)) (bvK BK272.out)) : gb273 ≠ gb272)); clear BK272; clear HB; have BK272 := n0_; have HB := n1_; have BK273 := n2_; have GW273 := n3_; have GE273 := n4_; have NB272_273 := n5_; have NB273_272 := n6_; clear n0_ n1_ n2_ n3_ n4_ n5_ n6_; clear hb hbox hg; have hnb7 := NB272_273.out; have hnc7 := NB273_272.out; have hcz8_0 : w6.cell? ⟨gb272, 0, none⟩ = some (.int .i64 a0_0) := (blk_cell BK272.out 0).trans rfl; have hcz8_1 : w6.cell? ⟨gb272, 1, none⟩ = some (.slice A0_1 l0_1.length c0_1) := (blk_cell BK272.out 1).trans rfl; have hfz8_0 := blk_frozen BK272.out 0; have hfz8_1 := blk_frozen BK272.out 1) | ((with_reducible refine gate_callee (f := 71) rfl ?_); refine goesL_ (some 11) rfl rfl Try.func71 (by kernel_rfl) rfl #[.agg #[.int .i64 a0_0, .slice A0_1 l0_1.length c0_1], .int .i64 1, .int .i64 a1, .int .i64 a2] rfl lmB ?_; (with_reducible refine (impl_applied.calls k a0_0 _ _ l0_1 1 a1 a2 t274 t275 t278 _ ?side1 ?side2 A4.out).mono ?_); (case side1 => repeat (first | exact (Kd.C_below HR0_1.out HB.out) | (with_reducible refine Kd.C_alloc ?_ _) | (with_reducible refine Kd.C_drewN ?_ _) | (with_reducible refine Kd.C_drew ?_))); (case side2 => exact HC0_1.out); rintro e w9 ⟨v276, rfl, ho0, hb⟩; refine ⟨_, rfl, ?_⟩; have n0_ := Aside0.mk (Kd.R_lower ho0 (below_size (by repeat (first | (with_reducible first | exact HB.out | apply bwA | apply bwN | apply bwD | refine below_set ?_ GE272.out | refine below_set ?_ GE273.out) | exact HB.out)))); have n1_ := Aside0.mk (blk_below (g := gb272) (o := .cells #[.int .i64 a0_0, .slice A0_1 l0_1.length c0_1] 25 (0, 0)) (bvK BK272.out) hb); have n2_ := Aside0.mk (blk_below (g := gb273) (o := .cells #[.int .i64 0, .slice none 0 0] 25 (0, 0)) (bvK BK273.out) hb); have n3_ := Aside0.mk (below_step (by repeat (first | (with_reducible first | exact HB.out | apply bwA | apply bwN | apply bwD | refine below_set ?_ GE272.out | refine below_set ?_ GE273.out) | exact HB.out)) hb); clear BK272; clear BK273; clear HB; have HO277 := n0_; have BK272 := n1_; have BK273 := n2_; have HB := n3_; clear n0_ n1_ n2_ n3_; (try clear hb); (try clear hb2); (try clear hk); (try clear hi); (try clear ho0); have hcz10_0 : w9.cell? ⟨gb273, 0, none⟩ = some (.int .i64 0) := (blk_cell BK273.out 0).trans rfl; have hcz10_1 : w9.cell? ⟨gb273, 1, none⟩ = some (.slice none 0 0) := (blk_cell BK273.out 1).trans rfl; have hfz10_0 := blk_frozen BK273.out 0; have hfz10_1 := blk_frozen BK273.out 1; obtain ⟨Ao11, co11, eo11⟩ := Kd.R_slice HO277.out; subst eo11))
 refine bodyPost_ret (results_ct rfl _ _ gb273 25 #[.int .i64 t274, .slice Ao11 t275.length co11] (0, 0) _ rfl (by (with_reducible repeat first | apply bkN | apply bkD | apply bkA); refine blk_put (cs := #[.int .i64 t274, .slice none 0 0]) ?_ 1 _ rfl; (with_reducible repeat first | apply bkN | apply bkD | apply bkA); refine blk_put (cs := #[.int .i64 0, .slice none 0 0]) ?_ 0 _ rfl; (with_reducible repeat first | apply bkN | apply bkD | apply bkA); exact BK273.out) Try.underlying25 rfl (by kernel_rfl)) rfl ?_
 exact ⟨_, ers, by (with_reducible repeat first | apply rvA | apply rvN | apply rvD); exact Kd.R_mono (Kd.R_far (p := ⟨gb273, 1, none⟩) (Kd.R_far (p := ⟨gb273, 0, none⟩) (Kd.R_types HO277.out BK273.out (by decide)) (fun _ hk => hk.2) (.int .i64 t274)) (fun _ hk => hk.2) (.slice Ao11 t275.length co11)) (fun _ hk => trivial), by repeat (first | (with_reducible first | exact HB.out | apply bwA | apply bwN | apply bwD | refine below_set ?_ GE272.out | refine below_set ?_ GE273.out) | exact HB.out)⟩

/-! ### impl_DiagramOr: function 28 -/
def impl_DiagramOr.f (k : Nat) (a0_0 : Int) (l0_1 : List (S71)) (a1 : Int) (a2 : Int) : Option (Int × (List (S71)) × Int) := (impl_applied.f k a0_0 l0_1 2 a1 a2).bind fun bt281 => (some (bt281.1, bt281.2.1, bt281.2.2))
theorem impl_DiagramOr.mono : ∀ a0 a1 a2 a3 k, LeO (impl_DiagramOr.f k a0 a1 a2 a3) (impl_DiagramOr.f (k + 1) a0 a1 a2 a3) := by
 intro a0 a1 a2 a3 k
 unfold impl_DiagramOr.f
 repeat' first
   | (with_reducible exact impl_applied.mono _ _ _ _ _ _)
   | (with_reducible exact LeO.refl _)
   | (with_reducible exact LeO.none _)
   | (with_reducible refine LeO.ite ?_ ?_)
   | (with_reducible refine LeO.bind ?_ (fun _ => ?_))
set_option maxHeartbeats 8000000 in
set_option maxRecDepth 100000 in
theorem impl_DiagramOr.calls (k : Nat) (a0_0 : Int) (A0_1 : Option Addr) (c0_1 : Nat) (l0_1 : List (S71)) (a1 : Int) (a2 : Int) (r1 : Int) (r2 : List (S71)) (r3 : Int) (w : World) (hr0_1 : Kd.C k71 w A0_1 l0_1.length l0_1) (hc0_1 : l0_1.length ≤ c0_1) (h : impl_DiagramOr.f k a0_0 l0_1 a1 a2 = some (r1, r2, r3)) :
  Calls Try.prog 28 #[.agg #[.int .i64 a0_0, .slice A0_1 l0_1.length c0_1], .int .i64 a1, .int .i64 a2] w fun e w' => ∃ v1_ : Value, e = .returned (.tuple #[.agg #[.int .i64 r1, v1_], .int .i64 r3]) ∧ Kd.R k71 71 w' w.heap.size (fun _ => True) v1_ r2 ∧ Below w.heap.size w w' := by
 have hu25 := Try.underlying25
 have HR0_1 := Aside0.mk hr0_1
 have HC0_1 := Aside0.mk hc0_1
 clear hr0_1 hc0_1
 have HB := Aside0.mk (Below.refl w.heap.size w)
 have H : ((impl_applied.f k a0_0 l0_1 2 a1 a2).bind fun bt281 => (some (bt281.1, bt281.2.1, bt281.2.2))) = some (r1, r2, r3) := h
 clear h
 replace H := Option.bind_eq_some_iff.mp H
 obtain ⟨⟨t281, t282, t285⟩, A40, H⟩ := H
 replace H : (some (t281, t282, t285)) = some (r1, r2, r3) := H
 have A4 := Aside0.mk A40
 clear A40
 simp only [Option.some.injEq, Prod.mk.injEq] at H
 obtain ⟨rfl, rfl, rfl⟩ := H
 go_enter Try.func28, Try.ntmps28
 go_wp2_with (first | ((with_reducible refine gate_dst (N := 3) rfl ?_); refine box_event ?hg (N := 3) ?hd (cs := #[.int .i64 a0_0, .slice A0_1 l0_1.length c0_1]) (t := 25) ?hr ?_; (case hd => rfl); (case hg => rfl); (case hr => first | (go_simp; done) | (go_simp; rfl)); intro gb279 hg w5 hbox hb; have n0_ := Aside0.mk (below_step (by repeat (first | (with_reducible first | exact HB.out | apply bwA | apply bwN | apply bwD) | exact HB.out)) hb); have n1_ := Aside0.mk (hbox); have n2_ := Aside0.mk ((by rw [hg]; exact (below_size (by repeat (first | (with_reducible first | exact HB.out | apply bwA | apply bwN | apply bwD) | exact HB.out))) : w.heap.size ≤ gb279)); have n3_ := Aside0.mk ((by rw [hg]; exact (below_size (by repeat (first | (with_reducible first | exact HB.out | apply bwA | apply bwN | apply bwD) | exact HB.out))) : w.heap.size ≤ gb279)); clear HB; have HB := n0_; have BK279 := n1_; have GW279 := n2_; have GE279 := n3_; clear n0_ n1_ n2_ n3_; clear hb hbox hg) | ((with_reducible refine gate_dst (N := 6) rfl ?_); refine box_event ?hg (N := 6) ?hd (cs := #[.int .i64 0, .slice none 0 0]) (t := 25) ?hr ?_; (case hd => rfl); (case hg => rfl); (case hr => first | (go_simp; done) | (go_simp; rfl)); intro gb280 hg w6 hbox hb; have n0_ := Aside0.mk (blk_below (g := gb279) (o := .cells #[.int .i64 a0_0, .slice A0_1 l0_1.length c0_1] 25 (0, 0)) (bvK BK279.out) hb); have n1_ := Aside0.mk (below_step (by repeat (first | (with_reducible first | exact HB.out | apply bwA | apply bwN | apply bwD | refine below_set ?_ GE279.out) | exact HB.out)) hb); have n2_ := Aside0.mk (hbox); have n3_ := Aside0.mk ((by rw [hg]; exact (below_size (by repeat (first | (with_reducible first | exact HB.out | apply bwA | apply bwN | apply bwD | refine below_set ?_ GE279.out) | exact HB.out))) : w.heap.size ≤ gb280)); have n4_ := Aside0.mk ((by rw [hg]; exact (below_size (by repeat (first | (with_reducible first | exact HB.out | apply bwA | apply bwN | apply bwD | refine below_set ?_ GE279.out) | exact HB.out))) : w.heap.size ≤ gb280)); have n5_ := Aside0.mk ((by rw [hg]; exact Nat.ne_of_lt (blk_lt (g := gb279) (o := .cells #[.int .i64 a0_0, .slice A0_1 l0_1.length c0_1] 25 (0, 0)) (bvK BK279.out)) : gb279 ≠ gb280)); have n6_ := Aside0.mk ((by rw [hg]; exact Nat.ne_of_gt (blk_lt (g := gb279) (o := .cells #[.int .i64 a0_0, .slice A0_1 l0_1.length c0_1] 25 (0, 0)) (bvK BK279.out)) : gb280 ≠ gb279)); clear BK279; clear HB; have BK279 := n0_; have HB := n1_; have BK280 := n2_; have GW280 := n3_; have GE280 := n4_; have NB279_280 := n5_; have NB280_279 := n6_; clear n0_ n1_ n2_ n3_ n4_ n5_ n6_; clear hb hbox hg; have hnb7 := NB279_280.out; have hnc7 := NB280_279.out; have hcz8_0 : w6.cell? ⟨gb279, 0, none⟩ = some (.int .i64 a0_0) := (blk_cell BK279.out 0).trans rfl; have hcz8_1 : w6.cell? ⟨gb279, 1, none⟩ = some (.slice A0_1 l0_1.length c0_1) := (blk_cell BK279.out 1).trans rfl; have hfz8_0 := blk_frozen BK279.out 0; have hfz8_1 := blk_frozen BK279.out 1) | ((with_reducible refine gate_callee (f := 71) rfl ?_); refine goesL_ (some 11) rfl rfl Try.func71 (by kernel_rfl) rfl #[.agg #[.int .i64 a0_0, .slice A0_1 l0_1.length c0_1], .int .i64 2, .int .i64 a1, .int .i64 a2] rfl lmB ?_; (with_reducible refine (impl_applied.calls k a0_0 _ _ l0_1 2 a1 a2 t281 t282 t285 _ ?side1 ?side2 A4.out).mono ?_); (case side1 => repeat (first | exact (Kd.C_below HR0_1.out HB.out) | (with_reducible refine Kd.C_alloc ?_ _) | (with_reducible refine Kd.C_drewN ?_ _) | (with_reducible refine Kd.C_drew ?_))); (case side2 => exact HC0_1.out); rintro e w9 ⟨v283, rfl, ho0, hb⟩; refine ⟨_, rfl, ?_⟩; have n0_ := Aside0.mk (Kd.R_lower ho0 (below_size (by repeat (first | (with_reducible first | exact HB.out | apply bwA | apply bwN | apply bwD | refine below_set ?_ GE279.out | refine below_set ?_ GE280.out) | exact HB.out)))); have n1_ := Aside0.mk (blk_below (g := gb279) (o := .cells #[.int .i64 a0_0, .slice A0_1 l0_1.length c0_1] 25 (0, 0)) (bvK BK279.out) hb); have n2_ := Aside0.mk (blk_below (g := gb280) (o := .cells #[.int .i64 0, .slice none 0 0] 25 (0, 0)) (bvK BK280.out) hb); have n3_ := Aside0.mk (below_step (by repeat (first | (with_reducible first | exact HB.out | apply bwA | apply bwN | apply bwD | refine below_set ?_ GE279.out | refine below_set ?_ GE280.out) | exact HB.out)) hb); clear BK279; clear BK280; clear HB; have HO284 := n0_; have BK279 := n1_; have BK280 := n2_; have HB := n3_; clear n0_ n1_ n2_ n3_; (try clear hb); (try clear hb2); (try clear hk); (try clear hi); (try clear ho0); have hcz10_0 : w9.cell? ⟨gb280, 0, none⟩ = some (.int .i64 0) := (blk_cell BK280.out 0).trans rfl; have hcz10_1 : w9.cell? ⟨gb280, 1, none⟩ = some (.slice none 0 0) := (blk_cell BK280.out 1).trans rfl; have hfz10_0 := blk_frozen BK280.out 0; have hfz10_1 := blk_frozen BK280.out 1; obtain ⟨Ao11, co11, eo11⟩ := Kd.R_slice HO284.out; subst eo11))
 refine bodyPost_ret (results_ct rfl _ _ gb280 25 #[.int .i64 t281, .slice Ao11 t282.length co11] (0, 0) _ rfl (by (with_reducible repeat first | apply bkN | apply bkD | apply bkA); refine blk_put (cs := #[.int .i64 t281, .slice none 0 0]) ?_ 1 _ rfl; (with_reducible repeat first | apply bkN | apply bkD | apply bkA); refine blk_put (cs := #[.int .i64 0, .slice none 0 0]) ?_ 0 _ rfl; (with_reducible repeat first | apply bkN | apply bkD | apply bkA); exact BK280.out) Try.underlying25 rfl (by kernel_rfl)) rfl ?_
 exact ⟨_, ers, by (with_reducible repeat first | apply rvA | apply rvN | apply rvD); exact Kd.R_mono (Kd.R_far (p := ⟨gb280, 1, none⟩) (Kd.R_far (p := ⟨gb280, 0, none⟩) (Kd.R_types HO284.out BK280.out (by decide)) (fun _ hk => hk.2) (.int .i64 t281)) (fun _ hk => hk.2) (.slice Ao11 t282.length co11)) (fun _ hk => trivial), by repeat (first | (with_reducible first | exact HB.out | apply bwA | apply bwN | apply bwD | refine below_set ?_ GE279.out | refine below_set ?_ GE280.out) | exact HB.out)⟩

/-! ### impl_Diagram_count: function 73 -/
theorem keyInt : Mp.Key Try.prog 3 (Value.int .i64) KeyI where
 law := Maps.int_keyed Try.underlying3
 reads := fun x hx => by
  have hu := Try.underlying3
  exact ⟨.int .i64 x, by simp [keyOf, mapKey, hu, hx.wf]⟩
 inj := fun x y _ _ h => by
  simp at h
  exact h
def impl_Diagram_count.cl : Nat → Int → List S71 → Int → (Int → Option Int) → Option ((Int → Option Int) × Int)
 | 0, _, _, _, _ => none
 | k + 1, vars, L, n, m => if n < 2 then (if 0 ≤ vars ∧ vars ≤ 64 then some (m, shl .i64 n vars) else none)
  else if KeyI n then
   match m n with
   | some r => some (m, r)
   | none => if 0 ≤ wrap64 (n - 2) then if wrap64 (n - 2) < (L.length : Int) then
     (impl_Diagram_count.cl k vars L (rd_T71 L (wrap64 (n - 2))).f1 m).bind fun p1 => (impl_Diagram_count.cl k vars L (rd_T71 L (wrap64 (n - 2))).f2 p1.1).bind fun p2 =>
     some ((fun y => if y = n then some (wrap64 ((wrap64 (p1.2 + p2.2)).tdiv 2)) else p2.1 y), wrap64 ((wrap64 (p1.2 + p2.2)).tdiv 2)) else none else none
  else none
theorem impl_Diagram_count.cl_le : ∀ (k : Nat) (vars : Int) (L : List S71) (n : Int) (m : Int → Option Int), LeO (impl_Diagram_count.cl k vars L n m) (impl_Diagram_count.cl (k + 1) vars L n m)
 | 0 => fun _ _ _ _ r h => by simp [impl_Diagram_count.cl] at h
 | k + 1 => fun vars L n m => by
  have ih := impl_Diagram_count.cl_le k
  rw [impl_Diagram_count.cl, impl_Diagram_count.cl]
  refine LeO.ite (LeO.refl _) (LeO.ite ?_ (LeO.refl _))
  cases m n with
  | some r => exact LeO.refl _
  | none => exact LeO.ite (LeO.ite (LeO.bind (ih _ _ _ _) (fun _ => LeO.bind (ih _ _ _ _) (fun _ => LeO.refl _))) (LeO.refl _)) (LeO.refl _)
def impl_Diagram_count.f (k : Nat) (a0_0 : Int) (l0_1 : List S71) (a1 : Int) : Option Int := (impl_Diagram_count.cl k a0_0 l0_1 a1 (fun _ => none)).bind fun p => some p.2
theorem impl_Diagram_count.mono : ∀ a0_0 l0_1 a1 k, LeO (impl_Diagram_count.f k a0_0 l0_1 a1) (impl_Diagram_count.f (k + 1) a0_0 l0_1 a1) := fun a0_0 l0_1 a1 k => LeO.bind (impl_Diagram_count.cl_le k _ _ _ _) (fun _ => LeO.refl _)
def impl_Diagram_count.T7 : Bool × List (List Nat × List Nat) := (true, [([], []), ([], []), ([], []), ([], []), ([3], [3]), ([2, 4], [2, 4]), ([], []), ([], []), ([7], [7]), ([6, 8, 5], [6, 8]), ([5, 9], [5, 9]), ([10], [10]), ([0, 1, 11, 9, 0, 1, 2, 3, 4, 5, 6, 7, 8, 9, 10, 11], [0, 1, 11])])
def impl_Diagram_count.B7 : List Nat := [0, 0, 0, 0, 8, 28, 0, 0, 128, 508, 1020, 2044, 4095]
theorem impl_Diagram_count.tab7 : rtab .any (opsOf Try.f105 7) = impl_Diagram_count.T7 := by kernel_rfl
theorem impl_Diagram_count.bits7 : waitsOk impl_Diagram_count.T7.2 impl_Diagram_count.B7 = true := by kernel_rfl
set_option maxHeartbeats 16000000 in
set_option maxRecDepth 100000 in
theorem impl_Diagram_count.cl_calls (eg : ∀ args w, (callFunc 105 args).run Try.prog w = .ok (.enter 105 args) w) : ∀ (k : Nat) (vars : Int) (L : List S71) (n : Int) (m m' : Int → Option Int) (r : Int) (A : Option Addr) (c : Nat) (gd gm gf mb : Nat) (w0 w : World) (_ : Below w0.heap.size w0 w)
  (_ : w.heap[gd]? = some (.cells #[.int .i64 vars, .slice A L.length c] 25 (0, 0))) (_ : w.heap[gm]? = some (.cells #[.map (some mb)] 83 (0, 0))) (_ : w.heap[gf]? = some (.cells #[.func (.func 105) #[] #[.pointer (some ⟨gd, 0, none⟩), .pointer (some ⟨gm, 0, none⟩), .pointer (some ⟨gf, 0, none⟩)]] 69 (0, 0))) (_ : Mp.Is (Value.int .i64) KeyI (Value.int .i64) w mb m) (_ : w0.heap.size ≤ mb) (_ : ∀ W, Kept w W (fun k_ => k_ = mb) → Kd.C k71 W A L.length L) (_ : L.length ≤ c) (_ : impl_Diagram_count.cl k vars L n m = some (m', r)),
  Calls Try.prog 105 (#[.int .i64 n] ++ #[.pointer (some ⟨gd, 0, none⟩), .pointer (some ⟨gm, 0, none⟩), .pointer (some ⟨gf, 0, none⟩)]) w fun e w' => e = .returned (.int .i64 r) ∧ Mp.Is (Value.int .i64) KeyI (Value.int .i64) w' mb m' ∧ Below w0.heap.size w0 w' ∧ Kept w w' (fun k_ => k_ = mb)
 | 0 => fun _ _ _ _ _ _ _ _ _ _ _ _ _ _ _ _ _ _ _ _ _ _ h => by simp [impl_Diagram_count.cl] at h
 | k + 1 => fun vars L n m m' r A c gd gm gf mb w0 w hB hgd hgm hgf hM hmb hC hc h => by
  show Calls Try.prog 105 #[.int .i64 n, .pointer (some ⟨gd, 0, none⟩), .pointer (some ⟨gm, 0, none⟩), .pointer (some ⟨gf, 0, none⟩)] w _
  have IH := Aside0.mk (impl_Diagram_count.cl_calls eg k)
  have hu25 := Try.underlying25
  have hu71 := Try.underlying71
  have HB := Aside0.mk hB
  have HM := Aside0.mk hM
  have MB := Aside0.mk hmb
  have HC := Aside0.mk hC
  have HL := Aside0.mk hc
  have BGD := Aside0.mk hgd
  have BGM := Aside0.mk hgm
  have BGF := Aside0.mk hgf
  have NE : Aside0 (gd ≠ mb ∧ gm ≠ mb ∧ gf ≠ mb) := by
   obtain ⟨es, ck, hb, _⟩ := hM
   refine ⟨?_, ?_, ?_⟩
   ·rintro rfl
    rw [hb] at hgd
    cases hgd
   ·rintro rfl
    rw [hb] at hgm
    cases hgm
   ·rintro rfl
    rw [hb] at hgf
    cases hgf
  have d0 : w.cell? ⟨gd, 0, none⟩ = some (.int .i64 vars) := (blk_cell hgd 0).trans rfl
  have d1 : w.cell? ⟨gd, 1, none⟩ = some (.slice A L.length c) := (blk_cell hgd 1).trans rfl
  have m0 : w.cell? ⟨gm, 0, none⟩ = some (.map (some mb)) := (blk_cell hgm 0).trans rfl
  rw [impl_Diagram_count.cl] at h
  clear hB hgd hgm hgf hM hmb hC hc
  by_cases c1 : n < 2
  ·rw [if_pos c1] at h
   by_cases c2 : 0 ≤ vars ∧ vars ≤ 64
   ·rw [if_pos c2] at h
    simp only [Option.some.injEq, Prod.mk.injEq] at h
    obtain ⟨rfl, hj⟩ := h
    have e1 : decide (n < 2) = true := decide_eq_true c1
    have h64 := c2.2
    have z0 := c2.1
    have zb0 := eq_true z0
    have zb1 : decide (0 ≤ vars) = true := decide_eq_true z0
    have zj_ : (IntKind.i64.wrap (n * 2 ^ min vars.toNat 64)) = r := hj
    have zjz : (IntKind.i64.wrap (n * 2 ^ vars.toNat)) = r := shl_small hj h64
    have zjy : (wrap64 (n * 2 ^ min vars.toNat 64)) = r := (i64_w _).symm.trans zj_
    have zjx : (wrap64 (n * 2 ^ vars.toNat)) = r := (i64_w _).symm.trans zjz
    clear c1 c2 hj
    go_enter Try.func105, Try.ntmps105
    go_wp2
    go_ret
    exact ⟨by first | rfl | (simp [*]; done), HM.out, HB.out, Kept.refl _ _⟩
   ·rw [if_neg c2] at h
    cases h
  rw [if_neg c1] at h
  have e1 : decide (n < 2) = false := decide_eq_false c1
  clear c1
  by_cases c3 : KeyI n
  ·rw [if_pos c3] at h
   have C3 := Aside0.mk c3
   clear c3
   cases hs : m n with
   | some q =>
    rw [hs] at h
    simp only [Option.some.injEq, Prod.mk.injEq] at h
    obtain ⟨rfl, rfl⟩ := h
    go_enter Try.func105, Try.ntmps105
    go_wp2_with ((with_reducible refine gate_ (op := .lookup 83 (.tmp 16) (.tmp 17) true) rfl ?_); refine Mp.look_some rfl (.tmp 16) (.tmp 17) rfl rfl HM.out keyInt Try.underlying83 zero_int n rfl C3.out hs ?_)
    go_ret
    exact ⟨rfl, HM.out, HB.out, Kept.refl _ _⟩
   | none =>
    rw [hs] at h
    simp only at h
    obtain ⟨j, hj⟩ : ∃ j, wrap64 (n - 2) = j := ⟨_, rfl⟩
    have hjw : (IntKind.i64.wrap (n - 2)) = j := (i64_w _).trans hj
    rw [hj] at h
    by_cases c4 : 0 ≤ j
    ·rw [if_pos c4] at h
     by_cases c5 : j < (L.length : Int)
     ·rw [if_pos c5] at h
      obtain ⟨ad, rfl, hx0, hx1, hx2⟩ := at_T71 (HC.out w (Kept.refl _ _)) j c4 c5
      have c4b : decide (0 ≤ j) = true := decide_eq_true c4
      have c5b : decide (j < (L.length : Int)) = true := decide_eq_true c5
      generalize rd_T71 L j = x at h hx0 hx1 hx2
      obtain ⟨⟨m1, r1⟩, hp1, h2⟩ := Option.bind_eq_some_iff.mp h
      obtain ⟨⟨m2, r2⟩, hp2, h3⟩ := Option.bind_eq_some_iff.mp h2
      simp only [Option.some.injEq, Prod.mk.injEq] at h3 hp2
      obtain ⟨hm3, hr3⟩ := h3
      have P1 := Aside0.mk hp1
      have P2 := Aside0.mk hp2
      obtain ⟨sm, hsm⟩ : ∃ sm, wrap64 (r1 + r2) = sm := ⟨_, rfl⟩
      rw [hsm] at hm3 hr3
      rw [hr3] at hm3
      have M3 := Aside0.mk hm3
      have R3 := Aside0.mk hr3
      have SM := Aside0.mk hsm
      clear h h2 hp1 hp2 hm3 hr3 hsm hj
      go_enter Try.func105, Try.ntmps105
      go_upto_region 7 with (first | ((with_reducible refine gate_ (op := .lookup 83 (.tmp 16) (.tmp 17) true) rfl ?_); refine Mp.look_none rfl (.tmp 16) (.tmp 17) rfl rfl HM.out keyInt Try.underlying83 zero_int n rfl C3.out hs ?_) | ((with_reducible refine gate_dst (N := 8) rfl ?_); refine box_event ?hg (N := 8) ?hd (cs := #[.int .i64 0, .int .i64 0, .int .i64 0]) (t := 71) ?hr ?_; (case hd => rfl); (case hg => rfl); (case hr => first | (go_simp; done) | (go_simp; rfl)); intro gb hgb w7 hbox hb; have BX0 := Aside0.mk hbox; have HB7 := Aside0.mk hb; have hz0 : w7.cell? ⟨gb, 0, none⟩ = some (.int .i64 0) := (blk_cell BX0.out 0).trans rfl; have hz1 : w7.cell? ⟨gb, 1, none⟩ = some (.int .i64 0) := (blk_cell BX0.out 1).trans rfl; have hz2 : w7.cell? ⟨gb, 2, none⟩ = some (.int .i64 0) := (blk_cell BX0.out 2).trans rfl; have hy0 := blk_frozen BX0.out 0; have hy1 := blk_frozen BX0.out 1; have hy2 := blk_frozen BX0.out 2; have HGB := Aside0.mk (show w.heap.size ≤ gb from Nat.le_of_eq hgb.symm); clear hgb hbox hb))
      have n0_ := Aside0.mk (below_set (below_set (below_set HB7.out HGB.out (j := 0) (v := .int .i64 x.f0)) HGB.out (j := 1) (v := .int .i64 x.f1)) HGB.out (j := 2) (v := .int .i64 x.f2))
      have BX8 := Aside0.mk (blk_put (blk_put (blk_put BX0.out 0 (.int .i64 x.f0) rfl) 1 (.int .i64 x.f1) rfl) 2 (.int .i64 x.f2) rfl)
      generalize (((w7.setCell ⟨gb, 0, none⟩ (.int .i64 x.f0)).setCell ⟨gb, 1, none⟩ (.int .i64 x.f1)).setCell ⟨gb, 2, none⟩ (.int .i64 x.f2)) = w8 at n0_ BX8 ⊢
      have NG : Aside0 (gb ≠ mb) := ⟨fun e_ => by have := HM.out.lt; have := HGB.out; omega⟩
      clear hz0 hz1 hz2 hy0 hy1 hy2 BX0 HB7 hx0 hx1 hx2
      refine start_ (n := 13) (S := fun w' => True) (ds := []) (Pt.bm 13 0) (by kernel_rfl) rfl rfl trivial (fun hHeld => ?_)
      refine with_tabW impl_Diagram_count.tab7 impl_Diagram_count.bits7 (fun HT_ HW_ => ?_)
      have n1_ := Aside0.mk (blk_drew BX8.out)
      have n2_ := Aside0.mk (Kept.of_below n0_.out (fun k_ => k_ = mb)).drew
      have n3_ := Aside0.mk (below_drew (below_then HB.out HB.out.size n0_.out))
      have n4_ := Aside0.mk ((HM.out.below n0_.out).drew)
      clear hHeld n0_ BX8
      generalize w8.drew = wS at n1_ n2_ n3_ n4_ ⊢
      refine Pt.pu 1 (some 30) (Pt.bm 13 2) (by kernel_rfl) ?_
      refine Pt.pu 3 (some 32) (v := .pointer (some ⟨gb, 1, none⟩)) (Pt.bm 13 10) (by kernel_rfl) ?_ (hy := by refine Or.inl ⟨by rfl, ?_⟩; intro w'; first | (go_simp; done) | (go_simp; rfl))
      refine Pt.pu 7 (some 36) (v := .pointer (some ⟨gb, 2, none⟩)) (Pt.bm 13 138) (by kernel_rfl) ?_ (hy := by refine Or.inl ⟨by rfl, ?_⟩; intro w'; first | (go_simp; done) | (go_simp; rfl))
      refine inv_at [0, 2, 4, 5, 6, 8, 9, 10, 11, 12] (fun a0_ b_ a' w' => a' = putSel a0_ b_ [(0, 29, .map (some mb)), (2, 31, .func (.func 105) #[] #[.pointer (some ⟨gd, 0, none⟩), .pointer (some ⟨gm, 0, none⟩), .pointer (some ⟨gf, 0, none⟩)]), (4, 33, .int .i64 x.f1), (5, 34, .int .i64 r1), (6, 35, .func (.func 105) #[] #[.pointer (some ⟨gd, 0, none⟩), .pointer (some ⟨gm, 0, none⟩), .pointer (some ⟨gf, 0, none⟩)]), (8, 37, .int .i64 x.f2), (9, 38, .int .i64 r2), (10, 39, .int .i64 sm), (11, 40, .int .i64 r)] ∧ w'.heap[gb]? = some (.cells #[.int .i64 x.f0, .int .i64 x.f1, .int .i64 x.f2] 71 (0, 0)) ∧ Kept w w' (fun k_ => k_ = mb) ∧ Below w0.heap.size w0 w' ∧ (b_ 5 = false → Mp.Is (Value.int .i64) KeyI (Value.int .i64) w' mb m) ∧ (b_ 5 = true → b_ 9 = false → Mp.Is (Value.int .i64) KeyI (Value.int .i64) w' mb m1) ∧ (b_ 9 = true → b_ 12 = false → Mp.Is (Value.int .i64) KeyI (Value.int .i64) w' mb m2) ∧ (b_ 12 = true → Mp.Is (Value.int .i64) KeyI (Value.int .i64) w' mb m')) HT_.out HW_.out (by kernel_rfl) (by kernel_rfl) ?_ ?_ ?_
      ·exact ⟨by simp only [putSel, Bool.false_eq_true, if_false], n1_.out, n2_.out, n3_.out, fun _ => n4_.out, fun h_ => absurd h_ (by decide), fun h_ => absurd h_ (by decide), fun h_ => absurd h_ (by decide)⟩
      ·clear n1_ n2_ n3_ n4_
       refine steps_cons ?_ ?_
       ·rintro b_ a' w' ⟨ha, Q_X, Q_K, Q_B, Q_0, Q_1, Q_2, Q_3⟩ hb_ hon hoff
        refine ⟨_, rfl, fun K hK => ?_⟩
        have e2 : a'.tmps[2]? = some (.pointer (some ⟨gm, 0, none⟩)) := by rw [ha]; exact (putSel_off rfl).trans rfl
        replace ha := Aside0.mk ha
        have BM1 := blk_kept BGM.out Q_K NE.out.2.1
        have hc0_ : w'.cell? ⟨gm, 0, none⟩ = some (.map (some mb)) := (blk_cell BM1 0).trans rfl
        refine value_ (w1 := w') (v := .map (some mb)) (by rfl) rfl ?_ ?_
        ·go_simp
         (try simp only [i64_w])
         try rfl
        exact hK.out _ _ ⟨(by rw [ha.out]; exact putSel_upk 0 hb_ rfl rfl rfl), Q_X, Q_K, Q_B, Q_0, Q_1, Q_2, Q_3⟩
       refine steps_cons ?_ ?_
       ·rintro b_ a' w' ⟨ha, Q_X, Q_K, Q_B, Q_0, Q_1, Q_2, Q_3⟩ hb_ hon hoff
        refine ⟨_, rfl, fun K hK => ?_⟩
        have e3 : a'.tmps[3]? = some (.pointer (some ⟨gf, 0, none⟩)) := by rw [ha]; exact (putSel_off rfl).trans rfl
        replace ha := Aside0.mk ha
        have BF1 := blk_kept BGF.out Q_K NE.out.2.2
        have hc0_ : w'.cell? ⟨gf, 0, none⟩ = some (.func (.func 105) #[] #[.pointer (some ⟨gd, 0, none⟩), .pointer (some ⟨gm, 0, none⟩), .pointer (some ⟨gf, 0, none⟩)]) := (blk_cell BF1 0).trans rfl
        refine value_ (w1 := w') (v := .func (.func 105) #[] #[.pointer (some ⟨gd, 0, none⟩), .pointer (some ⟨gm, 0, none⟩), .pointer (some ⟨gf, 0, none⟩)]) (by rfl) rfl ?_ ?_
        ·go_simp
         (try simp only [i64_w])
         try rfl
        exact hK.out _ _ ⟨(by rw [ha.out]; exact putSel_upk 1 hb_ rfl rfl rfl), Q_X, Q_K, Q_B, Q_0, Q_1, Q_2, Q_3⟩
       refine steps_cons ?_ ?_
       ·rintro b_ a' w' ⟨ha, Q_X, Q_K, Q_B, Q_0, Q_1, Q_2, Q_3⟩ hb_ hon hoff
        refine ⟨_, rfl, fun K hK => ?_⟩
        have e32 : a'.tmps[32]? = some (.pointer (some ⟨gb, 1, none⟩)) := by rw [ha]; exact (putSel_off rfl).trans rfl
        replace ha := Aside0.mk ha
        have hc0_ : w'.cell? ⟨gb, 1, none⟩ = some (.int .i64 x.f1) := (blk_cell Q_X 1).trans rfl
        refine value_ (w1 := w') (v := .int .i64 x.f1) (by rfl) rfl ?_ ?_
        ·go_simp
         (try simp only [i64_w])
         try rfl
        exact hK.out _ _ ⟨(by rw [ha.out]; exact putSel_upk 2 hb_ rfl rfl rfl), Q_X, Q_K, Q_B, Q_0, Q_1, Q_2, Q_3⟩
       refine steps_cons ?_ ?_
       ·rintro b_ a' w' ⟨ha, Q_X, Q_K, Q_B, Q_0, Q_1, Q_2, Q_3⟩ hb_ hon hoff
        refine ⟨_, rfl, fun K hK => ?_⟩
        have e31 : a'.tmps[31]? = some (.func (.func 105) #[] #[.pointer (some ⟨gd, 0, none⟩), .pointer (some ⟨gm, 0, none⟩), .pointer (some ⟨gf, 0, none⟩)]) := by rw [ha]; exact putSel_on (e := (2, 31, .func (.func 105) #[] #[.pointer (some ⟨gd, 0, none⟩), .pointer (some ⟨gm, 0, none⟩), .pointer (some ⟨gf, 0, none⟩)])) 1 rfl rfl (hon 2 (by kernel_rfl)) rfl
        have e33 : a'.tmps[33]? = some (.int .i64 x.f1) := by rw [ha]; exact putSel_on (e := (4, 33, .int .i64 x.f1)) 2 rfl rfl (hon 4 (by kernel_rfl)) rfl
        replace ha := Aside0.mk ha
        have QM_ := Q_0 hb_
        refine Pv.goesV 105 #[.pointer (some ⟨gd, 0, none⟩), .pointer (some ⟨gm, 0, none⟩), .pointer (some ⟨gf, 0, none⟩)] eg #[.int .i64 x.f1] (by rfl) rfl rfl (by first | (simp only [Act.eval, Array.getD_eq_getD_getElem?, Option.getD_some, e31]; done) | (simp only [Act.eval, Array.getD_eq_getD_getElem?, Option.getD_some, e31]; rfl)) (by first | (simp only [List.map_toArray, List.map_cons, List.map_nil, Act.eval, Array.getD_eq_getD_getElem?, Option.getD_some, e33]; done) | (simp only [List.map_toArray, List.map_cons, List.map_nil, Act.eval, Array.getD_eq_getD_getElem?, Option.getD_some, e33]; rfl)) ?_
        with_reducible refine (IH.out vars L x.f1 m m1 r1 (some ad) c gd gm gf mb w0 _ Q_B (blk_kept BGD.out Q_K NE.out.1) (blk_kept BGM.out Q_K NE.out.2.1) (blk_kept BGF.out Q_K NE.out.2.2) QM_ MB.out (fun W_ hk_ => HC.out W_ (Q_K.then_ hk_ (fun _ h_ => .inl h_))) HL.out P1.out).mono ?_
        rintro e w10 ⟨rfl, q1_, q2_, q3_⟩
        exact ⟨_, rfl, hK.out _ _ ⟨(by rw [ha.out]; exact putSel_upk 3 hb_ rfl rfl rfl), blk_kept Q_X q3_ NG.out, Q_K.then_ q3_ (fun _ h_ => .inl h_), q2_, fun h_ => absurd ((up_self b_ 5).symm.trans h_) (by decide), fun _ _ => q1_, fun h_ _ => absurd ((hoff 9 (by kernel_rfl)).symm.trans h_) (by decide), fun h_ => absurd ((hoff 12 (by kernel_rfl)).symm.trans h_) (by decide)⟩⟩
       refine steps_cons ?_ ?_
       ·rintro b_ a' w' ⟨ha, Q_X, Q_K, Q_B, Q_0, Q_1, Q_2, Q_3⟩ hb_ hon hoff
        refine ⟨_, rfl, fun K hK => ?_⟩
        have e3 : a'.tmps[3]? = some (.pointer (some ⟨gf, 0, none⟩)) := by rw [ha]; exact (putSel_off rfl).trans rfl
        replace ha := Aside0.mk ha
        have BF1 := blk_kept BGF.out Q_K NE.out.2.2
        have hc0_ : w'.cell? ⟨gf, 0, none⟩ = some (.func (.func 105) #[] #[.pointer (some ⟨gd, 0, none⟩), .pointer (some ⟨gm, 0, none⟩), .pointer (some ⟨gf, 0, none⟩)]) := (blk_cell BF1 0).trans rfl
        refine value_ (w1 := w') (v := .func (.func 105) #[] #[.pointer (some ⟨gd, 0, none⟩), .pointer (some ⟨gm, 0, none⟩), .pointer (some ⟨gf, 0, none⟩)]) (by rfl) rfl ?_ ?_
        ·go_simp
         (try simp only [i64_w])
         try rfl
        exact hK.out _ _ ⟨(by rw [ha.out]; exact putSel_upk 4 hb_ rfl rfl rfl), Q_X, Q_K, Q_B, Q_0, Q_1, Q_2, Q_3⟩
       refine steps_cons ?_ ?_
       ·rintro b_ a' w' ⟨ha, Q_X, Q_K, Q_B, Q_0, Q_1, Q_2, Q_3⟩ hb_ hon hoff
        refine ⟨_, rfl, fun K hK => ?_⟩
        have e36 : a'.tmps[36]? = some (.pointer (some ⟨gb, 2, none⟩)) := by rw [ha]; exact (putSel_off rfl).trans rfl
        replace ha := Aside0.mk ha
        have hc0_ : w'.cell? ⟨gb, 2, none⟩ = some (.int .i64 x.f2) := (blk_cell Q_X 2).trans rfl
        refine value_ (w1 := w') (v := .int .i64 x.f2) (by rfl) rfl ?_ ?_
        ·go_simp
         (try simp only [i64_w])
         try rfl
        exact hK.out _ _ ⟨(by rw [ha.out]; exact putSel_upk 5 hb_ rfl rfl rfl), Q_X, Q_K, Q_B, Q_0, Q_1, Q_2, Q_3⟩
       refine steps_cons ?_ ?_
       ·rintro b_ a' w' ⟨ha, Q_X, Q_K, Q_B, Q_0, Q_1, Q_2, Q_3⟩ hb_ hon hoff
        refine ⟨_, rfl, fun K hK => ?_⟩
        have e35 : a'.tmps[35]? = some (.func (.func 105) #[] #[.pointer (some ⟨gd, 0, none⟩), .pointer (some ⟨gm, 0, none⟩), .pointer (some ⟨gf, 0, none⟩)]) := by rw [ha]; exact putSel_on (e := (6, 35, .func (.func 105) #[] #[.pointer (some ⟨gd, 0, none⟩), .pointer (some ⟨gm, 0, none⟩), .pointer (some ⟨gf, 0, none⟩)])) 4 rfl rfl (hon 6 (by kernel_rfl)) rfl
        have e37 : a'.tmps[37]? = some (.int .i64 x.f2) := by rw [ha]; exact putSel_on (e := (8, 37, .int .i64 x.f2)) 5 rfl rfl (hon 8 (by kernel_rfl)) rfl
        replace ha := Aside0.mk ha
        have QM_ := Q_1 (hon 5 (by kernel_rfl)) hb_
        refine Pv.goesV 105 #[.pointer (some ⟨gd, 0, none⟩), .pointer (some ⟨gm, 0, none⟩), .pointer (some ⟨gf, 0, none⟩)] eg #[.int .i64 x.f2] (by rfl) rfl rfl (by first | (simp only [Act.eval, Array.getD_eq_getD_getElem?, Option.getD_some, e35]; done) | (simp only [Act.eval, Array.getD_eq_getD_getElem?, Option.getD_some, e35]; rfl)) (by first | (simp only [List.map_toArray, List.map_cons, List.map_nil, Act.eval, Array.getD_eq_getD_getElem?, Option.getD_some, e37]; done) | (simp only [List.map_toArray, List.map_cons, List.map_nil, Act.eval, Array.getD_eq_getD_getElem?, Option.getD_some, e37]; rfl)) ?_
        with_reducible refine (IH.out vars L x.f2 m1 m2 r2 (some ad) c gd gm gf mb w0 _ Q_B (blk_kept BGD.out Q_K NE.out.1) (blk_kept BGM.out Q_K NE.out.2.1) (blk_kept BGF.out Q_K NE.out.2.2) QM_ MB.out (fun W_ hk_ => HC.out W_ (Q_K.then_ hk_ (fun _ h_ => .inl h_))) HL.out P2.out).mono ?_
        rintro e w10 ⟨rfl, q1_, q2_, q3_⟩
        exact ⟨_, rfl, hK.out _ _ ⟨(by rw [ha.out]; exact putSel_upk 6 hb_ rfl rfl rfl), blk_kept Q_X q3_ NG.out, Q_K.then_ q3_ (fun _ h_ => .inl h_), q2_, fun h_ => absurd ((hon 5 (by kernel_rfl)).symm.trans h_) (by decide), fun _ h_ => absurd ((up_self b_ 9).symm.trans h_) (by decide), fun _ _ => q1_, fun h_ => absurd ((hoff 12 (by kernel_rfl)).symm.trans h_) (by decide)⟩⟩
       refine steps_cons ?_ ?_
       ·rintro b_ a' w' ⟨ha, Q_X, Q_K, Q_B, Q_0, Q_1, Q_2, Q_3⟩ hb_ hon hoff
        refine ⟨_, rfl, fun K hK => ?_⟩
        have e34 : a'.tmps[34]? = some (.int .i64 r1) := by rw [ha]; exact putSel_on (e := (5, 34, .int .i64 r1)) 3 rfl rfl (hon 5 (by kernel_rfl)) rfl
        have e38 : a'.tmps[38]? = some (.int .i64 r2) := by rw [ha]; exact putSel_on (e := (9, 38, .int .i64 r2)) 6 rfl rfl (hon 9 (by kernel_rfl)) rfl
        replace ha := Aside0.mk ha
        have hw_ : (IntKind.i64.wrap (r1 + r2)) = sm := (i64_w _).trans SM.out
        have hw2_ := SM.out
        refine value_ (w1 := w') (v := .int .i64 sm) (by rfl) rfl ?_ ?_
        ·go_simp
         (try simp only [i64_w])
         (try rw [hw2_])
         try rfl
        exact hK.out _ _ ⟨(by rw [ha.out]; exact putSel_upk 7 hb_ rfl rfl rfl), Q_X, Q_K, Q_B, Q_0, Q_1, Q_2, Q_3⟩
       refine steps_cons ?_ ?_
       ·rintro b_ a' w' ⟨ha, Q_X, Q_K, Q_B, Q_0, Q_1, Q_2, Q_3⟩ hb_ hon hoff
        refine ⟨_, rfl, fun K hK => ?_⟩
        have e39 : a'.tmps[39]? = some (.int .i64 sm) := by rw [ha]; exact putSel_on (e := (10, 39, .int .i64 sm)) 7 rfl rfl (hon 10 (by kernel_rfl)) rfl
        replace ha := Aside0.mk ha
        have hw_ : (IntKind.i64.wrap (sm.tdiv 2)) = r := (i64_w _).trans R3.out
        have hw2_ := R3.out
        refine value_ (w1 := w') (v := .int .i64 r) (by rfl) rfl ?_ ?_
        ·go_simp
         (try simp only [i64_w])
         (try rw [hw2_])
         try rfl
        exact hK.out _ _ ⟨(by rw [ha.out]; exact putSel_upk 8 hb_ rfl rfl rfl), Q_X, Q_K, Q_B, Q_0, Q_1, Q_2, Q_3⟩
       refine steps_cons ?_ ?_
       ·rintro b_ a' w' ⟨ha, Q_X, Q_K, Q_B, Q_0, Q_1, Q_2, Q_3⟩ hb_ hon hoff
        refine ⟨_, rfl, fun K hK => ?_⟩
        have e29 : a'.tmps[29]? = some (.map (some mb)) := by rw [ha]; exact putSel_on (e := (0, 29, .map (some mb))) 0 rfl rfl (hon 0 (by kernel_rfl)) rfl
        have e40 : a'.tmps[40]? = some (.int .i64 r) := by rw [ha]; exact putSel_on (e := (11, 40, .int .i64 r)) 8 rfl rfl (hon 11 (by kernel_rfl)) rfl
        have e30 : a'.tmps[30]? = some (.int .i64 n) := by rw [ha]; exact (putSel_off rfl).trans rfl
        have h9 := hon 9 (by kernel_rfl)
        replace ha := Aside0.mk ha
        obtain ⟨w1, hrun, r1_, r2_, r3_⟩ := (Q_2 h9 hb_).store (P := Try.prog) keyInt Try.underlying83 C3.out r
        rw [M3.out] at r1_
        refine skip_ (w1 := w1) (by rfl) rfl ?_ ?_
        ·have q1_ : a'.eval (.tmp 29) = .map (some mb) := by simp only [Act.eval, Array.getD_eq_getD_getElem?, e29]; rfl
         have q2_ : a'.eval (.tmp 30) = .int .i64 n := by simp only [Act.eval, Array.getD_eq_getD_getElem?, e30]; rfl
         have q3_ : a'.eval (.tmp 40) = .int .i64 r := by simp only [Act.eval, Array.getD_eq_getD_getElem?, e40]; rfl
         simp [execOp, q1_, q2_, q3_, hrun, Result.andThen]
        exact hK.out _ _ ⟨(by rw [ha.out]; exact putSel_none (v := undef) rfl), (r2_.block gb (blk_lt Q_X) (fun e_ => NG.out (by cases e_; rfl))).trans Q_X, Kept.of_grown r2_ Q_K (fun k_ e_ => by cases e_; exact .inl rfl), Q_B.grown r2_ Q_B.size (fun k_ e_ => by cases e_; exact MB.out), fun h_ => absurd ((hon 5 (by kernel_rfl)).symm.trans h_) (by decide), fun _ h_ => absurd (h9.symm.trans h_) (by decide), fun _ h_ => absurd ((up_self b_ 12).symm.trans h_) (by decide), fun _ => r1_⟩
       exact steps_nil
      rintro b_ a' w9 hall ⟨ha, Q_X, Q_K, Q_B, Q_0, Q_1, Q_2, Q_3⟩
      have hb0_ := hall 0 (by kernel_rfl)
      have hb2_ := hall 2 (by kernel_rfl)
      have hb4_ := hall 4 (by kernel_rfl)
      have hb5_ := hall 5 (by kernel_rfl)
      have hb6_ := hall 6 (by kernel_rfl)
      have hb8_ := hall 8 (by kernel_rfl)
      have hb9_ := hall 9 (by kernel_rfl)
      have hb10_ := hall 10 (by kernel_rfl)
      have hb11_ := hall 11 (by kernel_rfl)
      have hb12_ := hall 12 (by kernel_rfl)
      subst ha
      simp only [putSel, hb0_, hb2_, hb4_, hb5_, hb6_, hb8_, hb9_, hb10_, hb11_, if_true, Act.put, List.setIfInBounds_toArray, List.set_cons_zero, List.set_cons_succ]
      have M9 := Aside0.mk (Q_3 hb12_)
      have K9 := Aside0.mk Q_K
      have B9 := Aside0.mk Q_B
      have m90 : w9.cell? ⟨gm, 0, none⟩ = some (.map (some mb)) := (blk_cell (blk_kept BGM.out K9.out NE.out.2.1) 0).trans rfl
      have s9 : m' n = some r := by rw [← M3.out]; simp
      clear hall hb0_ hb2_ hb4_ hb5_ hb6_ hb8_ hb9_ hb10_ hb11_ hb12_ Q_X Q_K Q_B Q_0 Q_1 Q_2 Q_3 n1_ n2_ n3_ n4_ m0
      go_wp2_with ((with_reducible refine gate_ (op := .lookup 83 (.tmp 41) (.tmp 42) false) rfl ?_); refine Mp.at_some rfl (.tmp 41) (.tmp 42) rfl rfl M9.out keyInt Try.underlying83 zero_int n rfl C3.out s9 ?_)
      go_ret
      exact ⟨rfl, M9.out, B9.out, K9.out⟩
     ·rw [if_neg c5] at h
      cases h
    ·rw [if_neg c4] at h
     cases h
  ·rw [if_neg c3] at h
   cases h
set_option maxHeartbeats 8000000 in
set_option maxRecDepth 100000 in
theorem impl_Diagram_count.calls (k : Nat) (a0_0 : Int) (A0_1 : Option Addr) (c0_1 : Nat) (l0_1 : List S71) (a1 : Int) (r : Int) (w : World) (hr : Kd.C k71 w A0_1 l0_1.length l0_1) (hc : l0_1.length ≤ c0_1) (h : impl_Diagram_count.f k a0_0 l0_1 a1 = some r) :
  Calls Try.prog 73 #[.agg #[.int .i64 a0_0, .slice A0_1 l0_1.length c0_1], .int .i64 a1] w fun e w' => e = .returned (.int .i64 r) ∧ Below w.heap.size w w' := by
 have eg : ∀ args w, (callFunc 105 args).run Try.prog w = .ok (.enter 105 args) w := enters_of Try.func105 (by kernel_rfl) rfl
 have hu25 := Try.underlying25
 obtain ⟨⟨m', r'⟩, hp, h2⟩ := Option.bind_eq_some_iff.mp h
 simp only [Option.some.injEq] at h2
 subst h2
 have HR := Aside0.mk hr
 have HC := Aside0.mk hc
 have P1 := Aside0.mk hp
 clear hr hc h hp
 go_enter Try.func73, Try.ntmps73
 go_wp2_with (first | ((with_reducible refine gate_dst (N := 2) rfl ?_); refine box_event ?hg (N := 2) ?hd (cs := #[.int .i64 a0_0, .slice A0_1 l0_1.length c0_1]) (t := 25) ?hr ?_; (case hd => rfl); (case hg => rfl); (case hr => first | (go_simp; done) | (go_simp; rfl)); intro gd hg_ w1 hbox hb; have BD1 := Aside0.mk hbox; have HB1 := Aside0.mk hb; clear hg_ hbox hb) | ((with_reducible refine gate_ (op := .makeMap 83 none) rfl ?_); refine Mp.made_event rfl (N := 7) rfl 83 rfl (Value.int .i64) KeyI (Value.int .i64) ?_; intro mb hmb w2 hM_ hb; have HMB := Aside0.mk (show w.heap.size ≤ mb by rw [hmb]; exact HB1.out.size); have HM2 := Aside0.mk hM_; have BD2 := Aside0.mk (blk_below BD1.out hb); have HB2 := Aside0.mk (below_step HB1.out hb); clear hmb hM_ hb) | ((with_reducible refine gate_dst (N := 5) rfl ?_); refine box_event ?hg (N := 5) ?hd (cs := #[.map none]) (t := 83) ?hr ?_; (case hd => rfl); (case hg => rfl); (case hr => first | (go_simp; done) | (go_simp; rfl)); intro gm hg_ w3 hbox hb; have HGM := Aside0.mk (show w.heap.size ≤ gm ∧ gm ≠ mb ∧ gm ≠ gd from ⟨by rw [hg_]; exact HB2.out.size, fun e_ => by have := HM2.out.lt; omega, fun e_ => by have := blk_lt BD2.out; omega⟩); have BM3 := Aside0.mk hbox; have BD3 := Aside0.mk (blk_below BD2.out hb); have HM3 := Aside0.mk (HM2.out.below hb); have HB3 := Aside0.mk (below_step HB2.out hb); have hz0 : w3.cell? ⟨gm, 0, none⟩ = some (.map none) := (blk_cell BM3.out 0).trans rfl; have hy0 := blk_frozen BM3.out 0; clear hg_ hbox hb) | ((with_reducible refine gate_dst (N := 6) rfl ?_); refine box_event ?hg (N := 6) ?hd (cs := #[.nilFunc]) (t := 69) ?hr ?_; (case hd => rfl); (case hg => rfl); (case hr => first | (go_simp; done) | (go_simp; rfl)); intro gf hg_ w4 hbox hb; have BF4 := Aside0.mk hbox; have BM4 := Aside0.mk (blk_below (blk_put BM3.out 0 (.map (some mb)) rfl) hb); have BD4 := Aside0.mk (blk_below (blk_far (p := ⟨gm, 0, none⟩) BD3.out HGM.out.2.2.symm (.map (some mb))) hb); have HM4 := Aside0.mk ((HM3.out.far (p := ⟨gm, 0, none⟩) HGM.out.2.1.symm (.map (some mb))).below hb); have HB4 := Aside0.mk (below_step (below_set HB3.out HGM.out.1 (j := 0) (v := .map (some mb))) hb); have LM_ := (HM3.out.far (p := ⟨gm, 0, none⟩) HGM.out.2.1.symm (.map (some mb))).lt; have LD_ := blk_lt (blk_far (p := ⟨gm, 0, none⟩) BD3.out HGM.out.2.2.symm (.map (some mb))); have LG_ := blk_lt (blk_put BM3.out 0 (.map (some mb)) rfl); have HGF := Aside0.mk (show w.heap.size ≤ gf ∧ gf ≠ mb ∧ gf ≠ gd ∧ gf ≠ gm from ⟨by rw [hg_]; exact (below_set HB3.out HGM.out.1 (j := 0) (v := .map (some mb))).size, by rw [hg_]; exact Nat.ne_of_gt LM_, by rw [hg_]; exact Nat.ne_of_gt LD_, by rw [hg_]; exact Nat.ne_of_gt LG_⟩); have hz1 : w4.cell? ⟨gf, 0, none⟩ = some .nilFunc := (blk_cell BF4.out 0).trans rfl; have hy1 := blk_frozen BF4.out 0; clear hg_ hbox hb LM_ LD_ LG_) | (go_at_fn 105; have QB := below_set HB4.out HGF.out.1 (j := 0) (v := .func (.func 105) #[] #[.pointer (some ⟨gd, 0, none⟩), .pointer (some ⟨gm, 0, none⟩), .pointer (some ⟨gf, 0, none⟩)]); have QC := (fun W_ hk_ => Kd.C_kept_came (Kd.heap_iso _ (Kd.heap_pair (Kd.heap_int .i64) (Kd.heap_pair (Kd.heap_int .i64) (Kd.heap_int .i64)))) HR.out QB (fun k_ (e_ : k_ = mb) => by rw [e_]; exact HMB.out) W_ hk_); refine (impl_Diagram_count.cl_calls eg k a0_0 l0_1 a1 (fun _ => none) m' r' A0_1 c0_1 gd gm gf mb w _ QB (blk_far (p := ⟨gf, 0, none⟩) BD4.out HGF.out.2.2.1.symm _) (blk_far (p := ⟨gf, 0, none⟩) BM4.out HGF.out.2.2.2.symm _) (blk_put BF4.out 0 _ rfl) (HM4.out.far (p := ⟨gf, 0, none⟩) HGF.out.2.1.symm _) HMB.out QC HC.out P1.out).mono ?_; rintro e w9 ⟨rfl, hm_, hb_, hk_⟩; have HB9 := Aside0.mk hb_; clear hm_ hb_ hk_ QB QC))
 go_ret
 exact ⟨rfl, HB9.out⟩

/-! ### impl_DiagramCount: function 29 -/
def impl_DiagramCount.f (k : Nat) (a0_0 : Int) (l0_1 : List (S71)) (a1 : Int) : Option (Int) := (impl_DiagramValid.f a0_0 l0_1).bind fun t287 => (if t287 = true then ((impl_Diagram_isPlace.f a0_0 l0_1 a1).bind fun t288 => (if t288 = true then ((impl_Diagram_count.f k a0_0 l0_1 a1).bind fun t289 => (some t289)) else (some (-1)))) else (some (-1)))
theorem impl_DiagramCount.mono : ∀ a0 a1 a2 k, LeO (impl_DiagramCount.f k a0 a1 a2) (impl_DiagramCount.f (k + 1) a0 a1 a2) := by
 intro a0 a1 a2 k
 unfold impl_DiagramCount.f
 repeat' first
   | (with_reducible exact impl_Diagram_count.mono _ _ _ _)
   | (with_reducible exact LeO.refl _)
   | (with_reducible exact LeO.none _)
   | (with_reducible refine LeO.ite ?_ ?_)
   | (with_reducible refine LeO.bind ?_ (fun _ => ?_))
set_option maxHeartbeats 8000000 in
set_option maxRecDepth 100000 in
theorem impl_DiagramCount.calls (k : Nat) (a0_0 : Int) (A0_1 : Option Addr) (c0_1 : Nat) (l0_1 : List (S71)) (a1 : Int) (r : Int) (w : World) (hr0_1 : Kd.C k71 w A0_1 l0_1.length l0_1) (hc0_1 : l0_1.length ≤ c0_1) (h : impl_DiagramCount.f k a0_0 l0_1 a1 = some r) :
  Calls Try.prog 29 #[.agg #[.int .i64 a0_0, .slice A0_1 l0_1.length c0_1], .int .i64 a1] w fun e w' => e = .returned (.int .i64 r) ∧ Below w.heap.size w w' := by
 have hu25 := Try.underlying25
 have HR0_1 := Aside0.mk hr0_1
 have HC0_1 := Aside0.mk hc0_1
 clear hr0_1 hc0_1
 have HB := Aside0.mk (Below.refl w.heap.size w)
 have H : ((impl_DiagramValid.f a0_0 l0_1).bind fun t287 => (if t287 = true then ((impl_Diagram_isPlace.f a0_0 l0_1 a1).bind fun t288 => (if t288 = true then ((impl_Diagram_count.f k a0_0 l0_1 a1).bind fun t289 => (some t289)) else (some (-1)))) else (some (-1)))) = some r := h
 clear h
 replace H := Option.bind_eq_some_iff.mp H
 obtain ⟨t287, A30, H⟩ := H
 replace H : (if t287 = true then ((impl_Diagram_isPlace.f a0_0 l0_1 a1).bind fun t288 => (if t288 = true then ((impl_Diagram_count.f k a0_0 l0_1 a1).bind fun t289 => (some t289)) else (some (-1)))) else (some (-1))) = some r := H
 have A3 := Aside0.mk A30
 clear A30
 by_cases c4 : t287 = true
 ·subst c4
  have H1 : ((impl_Diagram_isPlace.f a0_0 l0_1 a1).bind fun t288 => (if t288 = true then ((impl_Diagram_count.f k a0_0 l0_1 a1).bind fun t289 => (some t289)) else (some (-1)))) = some r := by rw [if_pos rfl] at H; exact H
  clear H
  have H := H1
  clear H1
  replace H := Option.bind_eq_some_iff.mp H
  obtain ⟨t288, A50, H⟩ := H
  replace H : (if t288 = true then ((impl_Diagram_count.f k a0_0 l0_1 a1).bind fun t289 => (some t289)) else (some (-1))) = some r := H
  have A5 := Aside0.mk A50
  clear A50
  by_cases c6 : t288 = true
  ·subst c6
   have H1 : ((impl_Diagram_count.f k a0_0 l0_1 a1).bind fun t289 => (some t289)) = some r := by rw [if_pos rfl] at H; exact H
   clear H
   have H := H1
   clear H1
   replace H := Option.bind_eq_some_iff.mp H
   obtain ⟨t289, A70, H⟩ := H
   replace H : (some t289) = some r := H
   have A7 := Aside0.mk A70
   clear A70
   obtain rfl := Option.some.inj H
   go_enter Try.func29, Try.ntmps29
   go_wp2_with (first | ((with_reducible refine gate_dst (N := 2) rfl ?_); refine box_event ?hg (N := 2) ?hd (cs := #[.int .i64 a0_0, .slice A0_1 l0_1.length c0_1]) (t := 25) ?hr ?_; (case hd => rfl); (case hg => rfl); (case hr => first | (go_simp; done) | (go_simp; rfl)); intro gb286 hg w8 hbox hb; have n0_ := Aside0.mk (below_step (by repeat (first | (with_reducible first | exact HB.out | apply bwA | apply bwN | apply bwD) | exact HB.out)) hb); have n1_ := Aside0.mk (hbox); have n2_ := Aside0.mk ((by rw [hg]; exact (below_size (by repeat (first | (with_reducible first | exact HB.out | apply bwA | apply bwN | apply bwD) | exact HB.out))) : w.heap.size ≤ gb286)); have n3_ := Aside0.mk ((by rw [hg]; exact (below_size (by repeat (first | (with_reducible first | exact HB.out | apply bwA | apply bwN | apply bwD) | exact HB.out))) : w.heap.size ≤ gb286)); clear HB; have HB := n0_; have BK286 := n1_; have GW286 := n2_; have GE286 := n3_; clear n0_ n1_ n2_ n3_; clear hb hbox hg; have hcz9_0 : w8.cell? ⟨gb286, 0, none⟩ = some (.int .i64 a0_0) := (blk_cell BK286.out 0).trans rfl; have hcz9_1 : w8.cell? ⟨gb286, 1, none⟩ = some (.slice A0_1 l0_1.length c0_1) := (blk_cell BK286.out 1).trans rfl; have hfz9_0 := blk_frozen BK286.out 0; have hfz9_1 := blk_frozen BK286.out 1) | ((with_reducible refine gate_callee (f := 17) rfl ?_); refine goesL_ (some 6) rfl rfl Try.func17 (by kernel_rfl) rfl #[.agg #[.int .i64 a0_0, .slice A0_1 l0_1.length c0_1]] rfl lmB ?_; (with_reducible refine (impl_DiagramValid.calls a0_0 _ _ l0_1 true _ ?side1 ?side2 A3.out).mono ?_); (case side1 => repeat (first | exact (Kd.C_below HR0_1.out HB.out) | (with_reducible refine Kd.C_alloc ?_ _) | (with_reducible refine Kd.C_drewN ?_ _) | (with_reducible refine Kd.C_drew ?_))); (case side2 => exact HC0_1.out); rintro e w10 ⟨rfl, hb⟩; refine ⟨_, rfl, ?_⟩; have n0_ := Aside0.mk (blk_below (g := gb286) (o := .cells #[.int .i64 a0_0, .slice A0_1 l0_1.length c0_1] 25 (0, 0)) (bvK BK286.out) hb); have n1_ := Aside0.mk (below_step (by repeat (first | (with_reducible first | exact HB.out | apply bwA | apply bwN | apply bwD | refine below_set ?_ GE286.out) | exact HB.out)) hb); clear BK286; clear HB; have BK286 := n0_; have HB := n1_; clear n0_ n1_; (try clear hb); (try clear hb2); (try clear hk); (try clear hi); have hcz11_0 : w10.cell? ⟨gb286, 0, none⟩ = some (.int .i64 a0_0) := (blk_cell BK286.out 0).trans rfl; have hcz11_1 : w10.cell? ⟨gb286, 1, none⟩ = some (.slice A0_1 l0_1.length c0_1) := (blk_cell BK286.out 1).trans rfl; have hfz11_0 := blk_frozen BK286.out 0; have hfz11_1 := blk_frozen BK286.out 1) | (go_at_call 53; (with_reducible refine (impl_Diagram_isPlace.calls a0_0 _ _ l0_1 a1 true _ ?side1 ?side2 A5.out).mono ?_); (case side1 => repeat (first | exact (Kd.C_below HR0_1.out HB.out) | (with_reducible refine Kd.C_alloc ?_ _) | (with_reducible refine Kd.C_drewN ?_ _) | (with_reducible refine Kd.C_drew ?_))); (case side2 => exact HC0_1.out); rintro e w12 ⟨rfl, hb⟩; have n0_ := Aside0.mk (blk_below (g := gb286) (o := .cells #[.int .i64 a0_0, .slice A0_1 l0_1.length c0_1] 25 (0, 0)) (bvK BK286.out) hb); have n1_ := Aside0.mk (below_step (by repeat (first | (with_reducible first | exact HB.out | apply bwA | apply bwN | apply bwD | refine below_set ?_ GE286.out) | exact HB.out)) hb); clear BK286; clear HB; have BK286 := n0_; have HB := n1_; clear n0_ n1_; (try clear hb); (try clear hb2); (try clear hk); (try clear hi); have hcz13_0 : w12.cell? ⟨gb286, 0, none⟩ = some (.int .i64 a0_0) := (blk_cell BK286.out 0).trans rfl; have hcz13_1 : w12.cell? ⟨gb286, 1, none⟩ = some (.slice A0_1 l0_1.length c0_1) := (blk_cell BK286.out 1).trans rfl; have hfz13_0 := blk_frozen BK286.out 0; have hfz13_1 := blk_frozen BK286.out 1) | ((with_reducible refine gate_callee (f := 73) rfl ?_); refine goesL_ (some 16) rfl rfl Try.func73 (by kernel_rfl) rfl #[.agg #[.int .i64 a0_0, .slice A0_1 l0_1.length c0_1], .int .i64 a1] rfl lmB ?_; (with_reducible refine (impl_Diagram_count.calls k a0_0 _ _ l0_1 a1 t289 _ ?side1 ?side2 A7.out).mono ?_); (case side1 => repeat (first | exact (Kd.C_below HR0_1.out HB.out) | (with_reducible refine Kd.C_alloc ?_ _) | (with_reducible refine Kd.C_drewN ?_ _) | (with_reducible refine Kd.C_drew ?_))); (case side2 => exact HC0_1.out); rintro e w14 ⟨rfl, hb⟩; refine ⟨_, rfl, ?_⟩; have n0_ := Aside0.mk (blk_below (g := gb286) (o := .cells #[.int .i64 a0_0, .slice A0_1 l0_1.length c0_1] 25 (0, 0)) (bvK BK286.out) hb); have n1_ := Aside0.mk (below_step (by repeat (first | (with_reducible first | exact HB.out | apply bwA | apply bwN | apply bwD | refine below_set ?_ GE286.out) | exact HB.out)) hb); clear BK286; clear HB; have BK286 := n0_; have HB := n1_; clear n0_ n1_; (try clear hb); (try clear hb2); (try clear hk); (try clear hi)))
   go_ret
   exact ⟨ers, by repeat (first | (with_reducible first | exact HB.out | apply bwA | apply bwN | apply bwD | refine below_set ?_ GE286.out) | exact HB.out)⟩
  ·replace c6 := Bool.eq_false_iff.mpr c6
   subst c6
   have H1 : (some (-1)) = some r := by rw [if_neg (show ¬ (false = true) by decide)] at H; exact H
   clear H
   have H := H1
   clear H1
   obtain rfl := Option.some.inj H
   go_enter Try.func29, Try.ntmps29
   go_wp2_with (first | ((with_reducible refine gate_dst (N := 2) rfl ?_); refine box_event ?hg (N := 2) ?hd (cs := #[.int .i64 a0_0, .slice A0_1 l0_1.length c0_1]) (t := 25) ?hr ?_; (case hd => rfl); (case hg => rfl); (case hr => first | (go_simp; done) | (go_simp; rfl)); intro gb286 hg w15 hbox hb; have n0_ := Aside0.mk (below_step (by repeat (first | (with_reducible first | exact HB.out | apply bwA | apply bwN | apply bwD) | exact HB.out)) hb); have n1_ := Aside0.mk (hbox); have n2_ := Aside0.mk ((by rw [hg]; exact (below_size (by repeat (first | (with_reducible first | exact HB.out | apply bwA | apply bwN | apply bwD) | exact HB.out))) : w.heap.size ≤ gb286)); have n3_ := Aside0.mk ((by rw [hg]; exact (below_size (by repeat (first | (with_reducible first | exact HB.out | apply bwA | apply bwN | apply bwD) | exact HB.out))) : w.heap.size ≤ gb286)); clear HB; have HB := n0_; have BK286 := n1_; have GW286 := n2_; have GE286 := n3_; clear n0_ n1_ n2_ n3_; clear hb hbox hg; have hcz16_0 : w15.cell? ⟨gb286, 0, none⟩ = some (.int .i64 a0_0) := (blk_cell BK286.out 0).trans rfl; have hcz16_1 : w15.cell? ⟨gb286, 1, none⟩ = some (.slice A0_1 l0_1.length c0_1) := (blk_cell BK286.out 1).trans rfl; have hfz16_0 := blk_frozen BK286.out 0; have hfz16_1 := blk_frozen BK286.out 1) | ((with_reducible refine gate_callee (f := 17) rfl ?_); refine goesL_ (some 6) rfl rfl Try.func17 (by kernel_rfl) rfl #[.agg #[.int .i64 a0_0, .slice A0_1 l0_1.length c0_1]] rfl lmB ?_; (with_reducible refine (impl_DiagramValid.calls a0_0 _ _ l0_1 true _ ?side1 ?side2 A3.out).mono ?_); (case side1 => repeat (first | exact (Kd.C_below HR0_1.out HB.out) | (with_reducible refine Kd.C_alloc ?_ _) | (with_reducible refine Kd.C_drewN ?_ _) | (with_reducible refine Kd.C_drew ?_))); (case side2 => exact HC0_1.out); rintro e w17 ⟨rfl, hb⟩; refine ⟨_, rfl, ?_⟩; have n0_ := Aside0.mk (blk_below (g := gb286) (o := .cells #[.int .i64 a0_0, .slice A0_1 l0_1.length c0_1] 25 (0, 0)) (bvK BK286.out) hb); have n1_ := Aside0.mk (below_step (by repeat (first | (with_reducible first | exact HB.out | apply bwA | apply bwN | apply bwD | refine below_set ?_ GE286.out) | exact HB.out)) hb); clear BK286; clear HB; have BK286 := n0_; have HB := n1_; clear n0_ n1_; (try clear hb); (try clear hb2); (try clear hk); (try clear hi); have hcz18_0 : w17.cell? ⟨gb286, 0, none⟩ = some (.int .i64 a0_0) := (blk_cell BK286.out 0).trans rfl; have hcz18_1 : w17.cell? ⟨gb286, 1, none⟩ = some (.slice A0_1 l0_1.length c0_1) := (blk_cell BK286.out 1).trans rfl; have hfz18_0 := blk_frozen BK286.out 0; have hfz18_1 := blk_frozen BK286.out 1) | (go_at_call 53; (with_reducible refine (impl_Diagram_isPlace.calls a0_0 _ _ l0_1 a1 false _ ?side1 ?side2 A5.out).mono ?_); (case side1 => repeat (first | exact (Kd.C_below HR0_1.out HB.out) | (with_reducible refine Kd.C_alloc ?_ _) | (with_reducible refine Kd.C_drewN ?_ _) | (with_reducible refine Kd.C_drew ?_))); (case side2 => exact HC0_1.out); rintro e w19 ⟨rfl, hb⟩; have n0_ := Aside0.mk (blk_below (g := gb286) (o := .cells #[.int .i64 a0_0, .slice A0_1 l0_1.length c0_1] 25 (0, 0)) (bvK BK286.out) hb); have n1_ := Aside0.mk (below_step (by repeat (first | (with_reducible first | exact HB.out | apply bwA | apply bwN | apply bwD | refine below_set ?_ GE286.out) | exact HB.out)) hb); clear BK286; clear HB; have BK286 := n0_; have HB := n1_; clear n0_ n1_; (try clear hb); (try clear hb2); (try clear hk); (try clear hi)))
   go_ret
   exact ⟨ers, by repeat (first | (with_reducible first | exact HB.out | apply bwA | apply bwN | apply bwD | refine below_set ?_ GE286.out) | exact HB.out)⟩
 ·replace c4 := Bool.eq_false_iff.mpr c4
  subst c4
  have H1 : (some (-1)) = some r := by rw [if_neg (show ¬ (false = true) by decide)] at H; exact H
  clear H
  have H := H1
  clear H1
  obtain rfl := Option.some.inj H
  go_enter Try.func29, Try.ntmps29
  go_wp2_with (first | ((with_reducible refine gate_dst (N := 2) rfl ?_); refine box_event ?hg (N := 2) ?hd (cs := #[.int .i64 a0_0, .slice A0_1 l0_1.length c0_1]) (t := 25) ?hr ?_; (case hd => rfl); (case hg => rfl); (case hr => first | (go_simp; done) | (go_simp; rfl)); intro gb286 hg w20 hbox hb; have n0_ := Aside0.mk (below_step (by repeat (first | (with_reducible first | exact HB.out | apply bwA | apply bwN | apply bwD) | exact HB.out)) hb); have n1_ := Aside0.mk (hbox); have n2_ := Aside0.mk ((by rw [hg]; exact (below_size (by repeat (first | (with_reducible first | exact HB.out | apply bwA | apply bwN | apply bwD) | exact HB.out))) : w.heap.size ≤ gb286)); have n3_ := Aside0.mk ((by rw [hg]; exact (below_size (by repeat (first | (with_reducible first | exact HB.out | apply bwA | apply bwN | apply bwD) | exact HB.out))) : w.heap.size ≤ gb286)); clear HB; have HB := n0_; have BK286 := n1_; have GW286 := n2_; have GE286 := n3_; clear n0_ n1_ n2_ n3_; clear hb hbox hg; have hcz21_0 : w20.cell? ⟨gb286, 0, none⟩ = some (.int .i64 a0_0) := (blk_cell BK286.out 0).trans rfl; have hcz21_1 : w20.cell? ⟨gb286, 1, none⟩ = some (.slice A0_1 l0_1.length c0_1) := (blk_cell BK286.out 1).trans rfl; have hfz21_0 := blk_frozen BK286.out 0; have hfz21_1 := blk_frozen BK286.out 1) | ((with_reducible refine gate_callee (f := 17) rfl ?_); refine goesL_ (some 6) rfl rfl Try.func17 (by kernel_rfl) rfl #[.agg #[.int .i64 a0_0, .slice A0_1 l0_1.length c0_1]] rfl lmB ?_; (with_reducible refine (impl_DiagramValid.calls a0_0 _ _ l0_1 false _ ?side1 ?side2 A3.out).mono ?_); (case side1 => repeat (first | exact (Kd.C_below HR0_1.out HB.out) | (with_reducible refine Kd.C_alloc ?_ _) | (with_reducible refine Kd.C_drewN ?_ _) | (with_reducible refine Kd.C_drew ?_))); (case side2 => exact HC0_1.out); rintro e w22 ⟨rfl, hb⟩; refine ⟨_, rfl, ?_⟩; have n0_ := Aside0.mk (blk_below (g := gb286) (o := .cells #[.int .i64 a0_0, .slice A0_1 l0_1.length c0_1] 25 (0, 0)) (bvK BK286.out) hb); have n1_ := Aside0.mk (below_step (by repeat (first | (with_reducible first | exact HB.out | apply bwA | apply bwN | apply bwD | refine below_set ?_ GE286.out) | exact HB.out)) hb); clear BK286; clear HB; have BK286 := n0_; have HB := n1_; clear n0_ n1_; (try clear hb); (try clear hb2); (try clear hk); (try clear hi)))
  go_ret
  exact ⟨ers, by repeat (first | (with_reducible first | exact HB.out | apply bwA | apply bwN | apply bwD | refine below_set ?_ GE286.out) | exact HB.out)⟩

end Go.Proofs.Ytpcompnmadpljaa.QFnDiagramNot
