-- Written by a program of this session (mk.py). Lean checks it.
import Derived.Test.YtkfmgfdbdgjfiaaQFnExactCheckProofx0
import Derived.Test.YtkfmgfdbdgjfiaaQFnExactCheckProofx5
import Derived.Test.YtkfmgfdbdgjfiaaQFnExactCheckProofx6
import Derived.Test.YtkfmgfdbdgjfiaaQFnExactCheckProofx7
namespace Go.Proofs.Ytkfmgfdbdgjfiaa.QFnExactCheckProof
open Go.RowKit Go.Proofs.YtkfmgfdbdgjfiaaW.PrintWords Go.Proofs.YtkfmgfdbdgjfiaaW.PrintLast Go.Proofs.YtkfmgfdbdgjfiaaW.PrintMore
attribute [local go_sem] max2_int min2_int max_two min_two max_three min_three max_four min_four   -- for this text's walks alone
set_option linter.unusedVariables false
set_option linter.unusedSimpArgs false

/-! ### impl_proofOk: function 77 -/
mutual
def impl_proofOk.j0 : Nat → List (List Int) → Bool → Int → List (List Int) → Option (Bool)
 | 0, _, _, _, _ => none
 | k + 1, x1, x21, x265000, x265001 => if x21 = true then (some false) else ((slices_Clone_int_int.f x265001).bind fun t267 => (impl_proofOk.l0 k t267 x1 (x1.length : Int) 0 x265000 x265001))
def impl_proofOk.l0 : Nat → List (List Int) → List (List Int) → Int → Int → Int → List (List Int) → Option (Bool)
 | 0, _, _, _, _, _, _ => none
 | k + 1, x5, x25, x26, x27, x265000, x265001 => if x27 < x26 then (if 0 ≤ x27 then (if x27 < (x25.length : Int) then ((impl_ClauseValid.f k (rd_L1 x25 x27) x265000).bind fun t271 => (if t271 = true then ((impl_stepHolds.f k x265000 x5 (rd_L1 x25 x27)).bind fun t272 => (if t272 = true then (if x5.length < 5864062014805 then (impl_proofOk.l0 k (x5 ++ [rd_L1 x25 x27]) x25 x26 (wrap64 (x27 + 1)) x265000 x265001) else (none)) else (some false))) else (some false))) else (none)) else (none)) else (some true)
end
def impl_proofOk.f (k : Nat) (a0_0 : Int) (l0_1 : List (List Int)) (l1 : List (List Int)) : Option (Bool) := (impl_in.f (l1.length : Int) 1 600).bind fun t265 => (if t265 = true then (if 0 ≤ (wrap64 ((l1.length : Int) - 1)) then (if (wrap64 ((l1.length : Int) - 1)) < (l1.length : Int) then (impl_proofOk.j0 k l1 (decide (((rd_L1 l1 (wrap64 ((l1.length : Int) - 1))).length : Int) > 0)) a0_0 l0_1) else (none)) else (none)) else (impl_proofOk.j0 k l1 true a0_0 l0_1))
theorem impl_proofOk.mono_l : ∀ k, (∀ y0 y1 y2 y3, LeO (impl_proofOk.j0 k y0 y1 y2 y3) (impl_proofOk.j0 (k + 1) y0 y1 y2 y3)) ∧ (∀ y0 y1 y2 y3 y4 y5, LeO (impl_proofOk.l0 k y0 y1 y2 y3 y4 y5) (impl_proofOk.l0 (k + 1) y0 y1 y2 y3 y4 y5))
 | 0 => ⟨fun _ _ _ _ r h => by simp [impl_proofOk.j0] at h, fun _ _ _ _ _ _ r h => by simp [impl_proofOk.l0] at h⟩
 | k + 1 => by
  obtain ⟨ih0, ih1⟩ := impl_proofOk.mono_l k
  refine ⟨?_, ?_⟩
  ·intro y0 y1 y2 y3
   unfold impl_proofOk.j0
   repeat' first
   | (with_reducible exact ih0 _ _ _ _)
   | (with_reducible exact ih1 _ _ _ _ _ _)
   | (with_reducible exact impl_ClauseValid.mono _ _ _)
   | (with_reducible exact impl_stepHolds.mono _ _ _ _)
   | (with_reducible exact LeO.refl _)
   | (with_reducible exact LeO.none _)
   | (with_reducible refine LeO.ite ?_ ?_)
   | (with_reducible refine LeO.bind ?_ (fun _ => ?_))
   | exact ih0 _ _ _ _
   | exact ih1 _ _ _ _ _ _
   | exact impl_ClauseValid.mono _ _ _
   | exact impl_stepHolds.mono _ _ _ _
   | exact LeO.none _
   | refine LeO.ite ?_ ?_
   | refine LeO.bind ?_ (fun _ => ?_)
  ·intro y0 y1 y2 y3 y4 y5
   unfold impl_proofOk.l0
   repeat' first
   | (with_reducible exact ih0 _ _ _ _)
   | (with_reducible exact ih1 _ _ _ _ _ _)
   | (with_reducible exact impl_ClauseValid.mono _ _ _)
   | (with_reducible exact impl_stepHolds.mono _ _ _ _)
   | (with_reducible exact LeO.refl _)
   | (with_reducible exact LeO.none _)
   | (with_reducible refine LeO.ite ?_ ?_)
   | (with_reducible refine LeO.bind ?_ (fun _ => ?_))
   | exact ih0 _ _ _ _
   | exact ih1 _ _ _ _ _ _
   | exact impl_ClauseValid.mono _ _ _
   | exact impl_stepHolds.mono _ _ _ _
   | exact LeO.none _
   | refine LeO.ite ?_ ?_
   | refine LeO.bind ?_ (fun _ => ?_)
theorem impl_proofOk.mono : ∀ a0 a1 a2 k, LeO (impl_proofOk.f k a0 a1 a2) (impl_proofOk.f (k + 1) a0 a1 a2) := by
 intro a0 a1 a2 k
 obtain ⟨ih0, ih1⟩ := impl_proofOk.mono_l k
 unfold impl_proofOk.f
 repeat' first
   | (with_reducible exact ih0 _ _ _ _)
   | (with_reducible exact ih1 _ _ _ _ _ _)
   | (with_reducible exact impl_ClauseValid.mono _ _ _)
   | (with_reducible exact impl_stepHolds.mono _ _ _ _)
   | (with_reducible exact LeO.refl _)
   | (with_reducible exact LeO.none _)
   | (with_reducible refine LeO.ite ?_ ?_)
   | (with_reducible refine LeO.bind ?_ (fun _ => ?_))
   | exact ih0 _ _ _ _
   | exact ih1 _ _ _ _ _ _
   | exact impl_ClauseValid.mono _ _ _
   | exact impl_stepHolds.mono _ _ _ _
   | exact LeO.none _
   | refine LeO.ite ?_ ?_
   | refine LeO.bind ?_ (fun _ => ?_)
set_option maxHeartbeats 8000000 in
set_option maxRecDepth 100000 in
theorem impl_proofOk.calls (k : Nat) (a0_0 : Int) (P0_1_ : Nat → Prop) (A0_1 : Option Addr) (c0_1 : Nat) (l0_1 : List (List Int)) (P1_ : Nat → Prop) (A1 : Option Addr) (c1 : Nat) (l1 : List (List Int)) (r : Bool) (w : World) (hs0_1 : Kd.V (Kd.slice 3 (Kd.int .i64)) 25 w w.heap.size (fun k_ => P0_1_ k_) (.slice A0_1 l0_1.length c0_1) l0_1) (hs1 : Kd.V (Kd.slice 3 (Kd.int .i64)) 25 w w.heap.size (fun k_ => P1_ k_) (.slice A1 l1.length c1) l1) (h : impl_proofOk.f k a0_0 l0_1 l1 = some r) :
  Calls Try.prog 77 #[.agg #[.int .i64 a0_0, .slice A0_1 l0_1.length c0_1], .slice A1 l1.length c1] w fun e w' => e = .returned (.bool r) ∧ Below w.heap.size w w' := by
 have hu29 := Try.underlying29
 have HO0_1 := Aside0.mk (show Kd.V (Kd.slice 3 (Kd.int .i64)) 25 w w.heap.size (fun k_ => ((P0_1_ k_ ∨ P1_ k_) ∨ w.heap.size ≤ k_)) (.slice A0_1 l0_1.length c0_1) l0_1 from Kd.V_mono hs0_1 (fun k_ hk => .inl (.inl hk)))
 have HO1 := Aside0.mk (show Kd.V (Kd.slice 3 (Kd.int .i64)) 25 w w.heap.size (fun k_ => ((P0_1_ k_ ∨ P1_ k_) ∨ w.heap.size ≤ k_)) (.slice A1 l1.length c1) l1 from Kd.V_mono hs1 (fun k_ hk => .inl (.inr hk)))
 have HB := Aside0.mk (Below.refl w.heap.size w)
 have H : ((impl_in.f (l1.length : Int) 1 600).bind fun t265 => (if t265 = true then (if 0 ≤ (wrap64 ((l1.length : Int) - 1)) then (if (wrap64 ((l1.length : Int) - 1)) < (l1.length : Int) then (impl_proofOk.j0 k l1 (decide (((rd_L1 l1 (wrap64 ((l1.length : Int) - 1))).length : Int) > 0)) a0_0 l0_1) else (none)) else (none)) else (impl_proofOk.j0 k l1 true a0_0 l0_1))) = some r := h
 clear h
 have HC3 := Aside0.mk H
 clear H
 go_enter Try.func77, Try.ntmps77
 go_upto_region 1 with (first | ((with_reducible refine gate_dst (N := 2) rfl ?_); refine box_event ?hg (N := 2) ?hd (cs := #[.int .i64 a0_0, .slice A0_1 l0_1.length c0_1]) (t := 29) ?hr ?_; (case hd => rfl); (case hg => rfl); (case hr => first | (go_simp; done) | (go_simp; rfl)); intro gb264 hg w4 hbox hb; have n0_ := Aside0.mk (Kd.V_below (Kd.V_elderB (by (with_reducible repeat (first | apply Kd.V_alloc | apply Kd.V_drewN | apply Kd.V_drew)); exact HO0_1.out) gb264 (Nat.le_of_eq hg.symm)) hb); have n1_ := Aside0.mk (Kd.V_below (Kd.V_elderB (by (with_reducible repeat (first | apply Kd.V_alloc | apply Kd.V_drewN | apply Kd.V_drew)); exact HO1.out) gb264 (Nat.le_of_eq hg.symm)) hb); have n2_ := Aside0.mk (below_step (by repeat (first | (with_reducible first | exact HB.out | apply bwA | apply bwN | apply bwD) | exact HB.out)) hb); have n3_ := Aside0.mk (hbox); have n4_ := Aside0.mk ((by rw [hg]; exact (below_size (by repeat (first | (with_reducible first | exact HB.out | apply bwA | apply bwN | apply bwD) | exact HB.out))) : w.heap.size ≤ gb264)); have n5_ := Aside0.mk ((by rw [hg]; exact (below_size (by repeat (first | (with_reducible first | exact HB.out | apply bwA | apply bwN | apply bwD) | exact HB.out))) : w.heap.size ≤ gb264)); clear HO0_1; clear HO1; clear HB; have HO0_1 := n0_; have HO1 := n1_; have HB := n2_; have BK264 := n3_; have GW264 := n4_; have GE264 := n5_; clear n0_ n1_ n2_ n3_ n4_ n5_; clear hb hbox hg))
 (try simp only [Act.put, List.setIfInBounds_toArray, List.set_cons_zero, List.set_cons_succ])
 go_cut [21] (fun v21 wc => ∃ (kq : Nat) (x21_2 : Bool), v21 = .bool x21_2 ∧ Aside0 (impl_proofOk.j0 kq l1 x21_2 a0_0 l0_1 = some r) ∧ Aside0 (kq ≤ k) ∧ Aside0 (Kd.V (Kd.slice 3 (Kd.int .i64)) 25 wc w.heap.size (fun k_ => ((P0_1_ k_ ∨ P1_ k_) ∨ w.heap.size ≤ k_) ∧ k_ ≠ gb264) (.slice A1 l1.length c1) l1) ∧ Aside0 (Kd.V (Kd.slice 3 (Kd.int .i64)) 25 wc w.heap.size (fun k_ => ((P0_1_ k_ ∨ P1_ k_) ∨ w.heap.size ≤ k_) ∧ k_ ≠ gb264) (.slice A0_1 l0_1.length c0_1) l0_1) ∧ Aside0 (wc.heap[gb264]? = some (.cells #[.int .i64 a0_0, (.slice A0_1 l0_1.length c0_1)] 29 (0, 0))) ∧ Aside0 (Below w.heap.size w wc))
 case first =>
  have H := HC3.out
  clear HC3
  replace H := Option.bind_eq_some_iff.mp H
  obtain ⟨t265, A50, H⟩ := H
  replace H : (if t265 = true then (if 0 ≤ (wrap64 ((l1.length : Int) - 1)) then (if (wrap64 ((l1.length : Int) - 1)) < (l1.length : Int) then (impl_proofOk.j0 k l1 (decide (((rd_L1 l1 (wrap64 ((l1.length : Int) - 1))).length : Int) > 0)) a0_0 l0_1) else (none)) else (none)) else (impl_proofOk.j0 k l1 true a0_0 l0_1)) = some r := H
  have A5 := Aside0.mk A50
  clear A50
  by_cases c6 : t265 = true
  ·subst c6
   have H1 : (if 0 ≤ (wrap64 ((l1.length : Int) - 1)) then (if (wrap64 ((l1.length : Int) - 1)) < (l1.length : Int) then (impl_proofOk.j0 k l1 (decide (((rd_L1 l1 (wrap64 ((l1.length : Int) - 1))).length : Int) > 0)) a0_0 l0_1) else (none)) else (none)) = some r := by rw [if_pos rfl] at H; exact H
   clear H
   have H := H1
   clear H1
   obtain ⟨ji7, hji7⟩ : ∃ j_ : Int, (wrap64 ((l1.length : Int) - 1)) = j_ := ⟨_, rfl⟩
   replace H : (if 0 ≤ (ji7) then (if (ji7) < (l1.length : Int) then (impl_proofOk.j0 k l1 (decide (((rd_L1 l1 (ji7)).length : Int) > 0)) a0_0 l0_1) else (none)) else (none)) = some r := by first | (rw [hji7] at H; exact H) | (simp only [hji7] at H ⊢; exact H)
   (try rw [hji7] at A5)
   have hji7w : (IntKind.i64.wrap ((l1.length : Int) - 1)) = ji7 := (i64_w _).trans hji7
   by_cases c8 : 0 ≤ (ji7)
   ·rw [if_pos c8] at H
    have c8b0 : decide (0 ≤ (ji7)) = true := decide_eq_true c8
    clear c8
    (first | rw [c8b0] | (simp only [i64_w, i32_w]; rw [c8b0]) | skip)
    by_cases c9 : (ji7) < (l1.length : Int)
    ·rw [if_pos c9] at H
     have c9b0 : decide ((ji7) < (l1.length : Int)) = true := decide_eq_true c9
     clear c9
     have H' := Aside0.mk H
     clear H
     go_wp2_with (first | ((with_reducible refine gate_callee (f := 60) rfl ?_); refine goesL_ (some 10) rfl rfl Try.func60 (by kernel_rfl) rfl #[.int .i64 (l1.length : Int), .int .i64 1, .int .i64 600] rfl (by (try simp only [List.map_toArray, List.map_cons, List.map_nil]); first | done | rfl | (simp only [List.length_drop, List.length_take]; rfl)) ?_; (with_reducible refine (impl_in.calls (l1.length : Int) 1 600 true _ A5.out).mono ?_); rintro e w' ⟨rfl, ⟨nd, rfl⟩⟩; refine ⟨_, rfl, ?_⟩; have p266 : 0 ≤ ((ji7) : Int) := of_decide_eq_true (by first | (with_reducible assumption) | assumption); have q266 : (ji7) < (l1.length : Int) := of_decide_eq_true (by first | (with_reducible assumption) | assumption); obtain ⟨ad266, A266_0, c266_0, e266, hx266_0, hl266_0, hi266_0⟩ := at_L1 (Kd.V_reads' HO1.out).2.2 (ji7) p266 q266; cases e266; obtain ⟨ce266, hce266, hMe266, hcc266⟩ := Kd.V_get HO1.out [] (ji7) p266 (by first | exact q266 | exact of_decide_eq_true (by first | (with_reducible assumption) | assumption) | (have e_ := (Kd.V_reads' HO1.out).1; omega)); obtain ⟨ua266_0, uc266_0, rfl, ul266_0, ge266_0⟩ := Kd.FK_slice_open hMe266; have hv266_0 := hcc266 0 _ rfl; rw [Nat.add_zero, show ((Kd.slice 3 (Kd.int .i64))).sz = 1 from rfl, Nat.mul_one] at hv266_0; replace hv266_0 := Option.some.inj (hv266_0.symm.trans hx266_0); injection hv266_0 with hva_ hvn_ hvc_; rw [hva_] at ge266_0; rw [hvc_] at ul266_0; have HL266_0 := Aside0.mk (show Kd.V (Kd.int .i64) 3 _ w.heap.size _ _ (rd_L1 l1 (ji7)) from Kd.V_mk ul266_0 ge266_0); clear hva_ hvn_ hvc_ ge266_0 ul266_0; clear hcc266 hce266; have HR266_0 := Aside0.mk hi266_0; have HC266_0 := Aside0.mk hl266_0; clear hi266_0 hl266_0; replace p266 := eq_true p266; replace q266 := eq_true q266))
     go_meet
     case rel => exact ⟨_, (decide (((rd_L1 l1 (ji7)).length : Int) > 0)), (by first | rfl | (simp; done) | (simp only [← hji7] <;> (first | rfl | simp)) | (simp [*]; done)), H', ⟨by first | omega | exact Nat.le_refl _⟩, ⟨by (with_reducible repeat (first | apply Kd.V_alloc | apply Kd.V_drewN | apply Kd.V_drew)); exact HO1.out⟩, ⟨by (with_reducible repeat (first | apply Kd.V_alloc | apply Kd.V_drewN | apply Kd.V_drew)); exact HO0_1.out⟩, ⟨by (with_reducible repeat (first | refine blk_drewN ?_ _ | refine blk_drew ?_ | refine blk_alloc ?_ _)); exact BK264.out⟩, ⟨by repeat (first | (with_reducible first | exact HB.out | apply bwA | apply bwN | apply bwD | refine below_set ?_ GE264.out) | exact HB.out)⟩⟩
    ·rw [if_neg c9] at H
     exact absurd H (by simp)
   ·rw [if_neg c8] at H
    exact absurd H (by simp)
  ·replace c6 := Bool.eq_false_iff.mpr c6
   subst c6
   have H1 : (impl_proofOk.j0 k l1 true a0_0 l0_1) = some r := by rw [if_neg (show ¬ (false = true) by decide)] at H; exact H
   clear H
   have H := H1
   clear H1
   have H' := Aside0.mk H
   clear H
   go_wp2_with (first | ((with_reducible refine gate_callee (f := 60) rfl ?_); refine goesL_ (some 10) rfl rfl Try.func60 (by kernel_rfl) rfl #[.int .i64 (l1.length : Int), .int .i64 1, .int .i64 600] rfl (by (try simp only [List.map_toArray, List.map_cons, List.map_nil]); first | done | rfl | (simp only [List.length_drop, List.length_take]; rfl)) ?_; (with_reducible refine (impl_in.calls (l1.length : Int) 1 600 false _ A5.out).mono ?_); rintro e w' ⟨rfl, ⟨nd, rfl⟩⟩; refine ⟨_, rfl, ?_⟩))
   go_meet
   case rel => exact ⟨_, (true), (by first | rfl | (simp; done) | (simp [*]; done)), H', ⟨by first | omega | exact Nat.le_refl _⟩, ⟨by (with_reducible repeat (first | apply Kd.V_alloc | apply Kd.V_drewN | apply Kd.V_drew)); exact HO1.out⟩, ⟨by (with_reducible repeat (first | apply Kd.V_alloc | apply Kd.V_drewN | apply Kd.V_drew)); exact HO0_1.out⟩, ⟨by (with_reducible repeat (first | refine blk_drewN ?_ _ | refine blk_drew ?_ | refine blk_alloc ?_ _)); exact BK264.out⟩, ⟨by repeat (first | (with_reducible first | exact HB.out | apply bwA | apply bwN | apply bwD | refine below_set ?_ GE264.out) | exact HB.out)⟩⟩
 case rest =>
  clear HC3
  try clear c1
  try clear c2
  try clear p2
  try clear q2
  try clear hx2
  try clear c6
  try clear p6
  try clear c7
  try clear c8
  try clear c8b0
  try clear c9
  try clear c9b0
  try clear hx266_0
  try clear p266
  try clear q266
  obtain ⟨kq, x21_2, rfl, HA, HJ2, HO_1, HO_265001, BK264, HB⟩ := hcut
  cases kq with
  | zero => exact absurd HA.out (by simp [impl_proofOk.j0])
  | succ kj2 =>
   have H := HA.out
   clear HA
   simp only [impl_proofOk.j0] at H
   by_cases c10 : x21_2 = true
   ·subst c10
    have H1 : (some false) = some r := by rw [if_pos rfl] at H; exact H
    clear H
    have H := H1
    clear H1
    obtain rfl := Option.some.inj H
    go_wp2
    go_ret
    exact ⟨by first | rfl | (simp [errW_none, errW_some] <;> rfl) | (simp [*, errW_none, errW_some] <;> rfl), by repeat (first | (with_reducible first | exact HB.out | apply bwA | apply bwN | apply bwD | refine below_set ?_ GE264.out) | exact HB.out)⟩
   ·replace c10 := Bool.eq_false_iff.mpr c10
    subst c10
    have H1 : ((slices_Clone_int_int.f l0_1).bind fun t267 => (impl_proofOk.l0 kj2 t267 l1 (l1.length : Int) 0 a0_0 l0_1)) = some r := by rw [if_neg (show ¬ (false = true) by decide)] at H; exact H
    clear H
    have H := H1
    clear H1
    replace H := Option.bind_eq_some_iff.mp H
    obtain ⟨t267, A110, H⟩ := H
    replace H : (impl_proofOk.l0 kj2 t267 l1 (l1.length : Int) 0 a0_0 l0_1) = some r := H
    have A11 := Aside0.mk A110
    clear A110
    have H' := Aside0.mk H
    clear H
    have hcz12_0 : wc.cell? ⟨gb264, 0, none⟩ = some (.int .i64 a0_0) := (blk_cell BK264.out 0).trans rfl
    have hcz12_1 : wc.cell? ⟨gb264, 1, none⟩ = some (.slice A0_1 l0_1.length c0_1) := (blk_cell BK264.out 1).trans rfl
    have hfz12_0 := blk_frozen BK264.out 0
    have hfz12_1 := blk_frozen BK264.out 1
    go_wp2_with (first | ((with_reducible refine gate_callee (f := 72) rfl ?_); refine goesL_ (some 24) rfl rfl Try.func72 (by kernel_rfl) rfl #[.slice A0_1 l0_1.length c0_1] rfl (by (try simp only [List.map_toArray, List.map_cons, List.map_nil]); first | done | rfl | (simp only [List.length_drop, List.length_take]; rfl)) ?_; (with_reducible refine (slices_Clone_int_int.calls (fun k_ => (((P0_1_ k_ ∨ P1_ k_) ∨ w.heap.size ≤ k_) ∧ k_ ≠ gb264)) _ _ l0_1 t267 _ ?side1 A11.out).mono ?_); (case side1 => exact HO_265001.out); rintro e w13 ⟨v268, rfl, ho0, hb⟩; refine ⟨_, rfl, ?_⟩; have n0_ := Aside0.mk (Kd.V_elder' (by (with_reducible repeat (first | apply Kd.V_alloc | apply Kd.V_drewN | apply Kd.V_drew)); exact HO_1.out) (Kd.N_base ho0) hb); have n1_ := Aside0.mk (Kd.V_elder' (by (with_reducible repeat (first | apply Kd.V_alloc | apply Kd.V_drewN | apply Kd.V_drew)); exact HO_265001.out) (Kd.N_base ho0) hb); have n2_ := Aside0.mk (Kd.N_lower (Kd.N_mono (ok' := fun k_ => ((P0_1_ k_ ∨ P1_ k_) ∨ w.heap.size ≤ k_) ∧ k_ ≠ gb264) ho0 (fun k_ hk_ => ⟨Or.elim hk_ (fun hs_ => hs_.1) (fun hn_ => (.inr (Nat.le_trans (below_size (by repeat (first | (with_reducible first | exact HB.out | apply bwA | apply bwN | apply bwD | refine below_set ?_ GE264.out) | exact HB.out))) hn_))), Or.elim hk_ (fun hs_ => hs_.2) (fun hn_ => (Kd.freshB (g := gb264) (o := .cells #[.int .i64 a0_0, .slice A0_1 l0_1.length c0_1] 29 (0, 0)) (by (with_reducible repeat (first | refine blk_drewN ?_ _ | refine blk_drew ?_ | refine blk_alloc ?_ _)); exact BK264.out) k_ hn_))⟩)) (below_size (by repeat (first | (with_reducible first | exact HB.out | apply bwA | apply bwN | apply bwD | refine below_set ?_ GE264.out) | exact HB.out)))); have n3_ := Aside0.mk (blk_below (g := gb264) (o := .cells #[.int .i64 a0_0, .slice A0_1 l0_1.length c0_1] 29 (0, 0)) (by (with_reducible repeat (first | refine blk_drewN ?_ _ | refine blk_drew ?_ | refine blk_alloc ?_ _)); exact BK264.out) hb); have n4_ := Aside0.mk (below_step (by repeat (first | (with_reducible first | exact HB.out | apply bwA | apply bwN | apply bwD | refine below_set ?_ GE264.out) | exact HB.out)) hb); clear HO_1; clear HO_265001; clear BK264; clear HB; have HO_1 := n0_; have HO_265001 := n1_; have HO269 := n2_; have BK264 := n3_; have HB := n4_; clear n0_ n1_ n2_ n3_ n4_; (try clear hb); (try clear hb2); (try clear hk); (try clear hi); (try clear ho0)))
    go_loopg [5, 27] kj2 (fun kq v5 v27 w' => ∃ (x5_2 : List (List Int)) (x27_2 : Int), v27 = .int .i64 x27_2 ∧ Aside0 (impl_proofOk.l0 kq x5_2 l1 (l1.length : Int) x27_2 a0_0 l0_1 = some r) ∧ Aside0 (kq ≤ kj2) ∧ Aside0 (Kd.N (Kd.slice 3 (Kd.int .i64)) 25 w' w.heap.size (fun k_ => ((P0_1_ k_ ∨ P1_ k_) ∨ w.heap.size ≤ k_) ∧ k_ ≠ gb264) v5 x5_2) ∧ Aside0 (Kd.V (Kd.slice 3 (Kd.int .i64)) 25 w' w.heap.size (fun k_ => ((P0_1_ k_ ∨ P1_ k_) ∨ w.heap.size ≤ k_) ∧ some k_ ≠ (v5 : Value).ownBlock ∧ k_ ≠ gb264) (.slice A1 l1.length c1) l1) ∧ Aside0 (Kd.V (Kd.slice 3 (Kd.int .i64)) 25 w' w.heap.size (fun k_ => ((P0_1_ k_ ∨ P1_ k_) ∨ w.heap.size ≤ k_) ∧ some k_ ≠ (v5 : Value).ownBlock ∧ k_ ≠ gb264) (.slice A0_1 l0_1.length c0_1) l0_1) ∧ Aside0 (w'.heap[gb264]? = some (.cells #[.int .i64 a0_0, (.slice A0_1 l0_1.length c0_1)] 29 (0, 0))) ∧ Aside0 (Below w.heap.size w w'))
    case atStart => exact ⟨(t267), (0), (by first | rfl | (simp; done) | (simp [*]; done)), H', ⟨Nat.le_refl _⟩, ⟨by (with_reducible repeat (first | apply Kd.N_alloc | apply Kd.N_drewN | apply Kd.N_drew)); exact HO269.out⟩, ⟨by (with_reducible repeat (first | apply Kd.V_alloc | apply Kd.V_drewN | apply Kd.V_drew)); exact Kd.V_mono HO_1.out (fun _ hk => ⟨hk.1.1, ⟨hk.2, hk.1.2⟩⟩)⟩, ⟨by (with_reducible repeat (first | apply Kd.V_alloc | apply Kd.V_drewN | apply Kd.V_drew)); exact Kd.V_mono HO_265001.out (fun _ hk => ⟨hk.1.1, ⟨hk.2, hk.1.2⟩⟩)⟩, ⟨by (with_reducible repeat (first | refine blk_drewN ?_ _ | refine blk_drew ?_ | refine blk_alloc ?_ _)); exact BK264.out⟩, ⟨by repeat (first | (with_reducible first | exact HB.out | apply bwA | apply bwN | apply bwD | refine below_set ?_ GE264.out) | exact HB.out)⟩⟩
    case round =>
     clear H'
     try clear c1
     try clear c2
     try clear p2
     try clear q2
     try clear hx2
     try clear c6
     try clear p6
     try clear c7
     try clear c8
     try clear c8b0
     try clear c9
     try clear c9b0
     try clear c10
     try clear hcz12_0
     try clear hcz12_1
     try clear hfz12_0
     try clear hfz12_1
     try clear hx266_0
     try clear p2
     try clear p266
     try clear p6
     try clear q2
     try clear q266
     obtain ⟨x5_2, x27_2, rfl, HA, HK2, HO_5, HO_25, HO_265001, BK264, HB⟩ := hrel
     cases gk with
     | zero => exact absurd HA.out (by simp [impl_proofOk.l0])
     | succ k2 =>
      have H := HA.out
      clear HA
      simp only [impl_proofOk.l0] at H
      by_cases c14 : x27_2 < (l1.length : Int)
      ·rw [if_pos c14] at H
       have c14b0 : decide (x27_2 < (l1.length : Int)) = true := decide_eq_true c14
       clear c14
       by_cases c15 : 0 ≤ x27_2
       ·rw [if_pos c15] at H
        have c15b0 : decide (0 ≤ x27_2) = true := decide_eq_true c15
        clear c15
        by_cases c16 : x27_2 < (l1.length : Int)
        ·rw [if_pos c16] at H
         have c16b0 : decide (x27_2 < (l1.length : Int)) = true := decide_eq_true c16
         clear c16
         replace H := Option.bind_eq_some_iff.mp H
         obtain ⟨t271, A170, H⟩ := H
         replace H : (if t271 = true then ((impl_stepHolds.f k2 a0_0 x5_2 (rd_L1 l1 x27_2)).bind fun t272 => (if t272 = true then (if x5_2.length < 5864062014805 then (impl_proofOk.l0 k2 (x5_2 ++ [rd_L1 l1 x27_2]) l1 (l1.length : Int) (wrap64 (x27_2 + 1)) a0_0 l0_1) else (none)) else (some false))) else (some false)) = some r := H
         have A17 := Aside0.mk A170
         clear A170
         by_cases c18 : t271 = true
         ·subst c18
          have H1 : ((impl_stepHolds.f k2 a0_0 x5_2 (rd_L1 l1 x27_2)).bind fun t272 => (if t272 = true then (if x5_2.length < 5864062014805 then (impl_proofOk.l0 k2 (x5_2 ++ [rd_L1 l1 x27_2]) l1 (l1.length : Int) (wrap64 (x27_2 + 1)) a0_0 l0_1) else (none)) else (some false))) = some r := by rw [if_pos rfl] at H; exact H
          clear H
          have H := H1
          clear H1
          replace H := Option.bind_eq_some_iff.mp H
          obtain ⟨t272, A190, H⟩ := H
          replace H : (if t272 = true then (if x5_2.length < 5864062014805 then (impl_proofOk.l0 k2 (x5_2 ++ [rd_L1 l1 x27_2]) l1 (l1.length : Int) (wrap64 (x27_2 + 1)) a0_0 l0_1) else (none)) else (some false)) = some r := H
          have A19 := Aside0.mk A190
          clear A190
          by_cases c20 : t272 = true
          ·subst c20
           have H1 : (if x5_2.length < 5864062014805 then (impl_proofOk.l0 k2 (x5_2 ++ [rd_L1 l1 x27_2]) l1 (l1.length : Int) (wrap64 (x27_2 + 1)) a0_0 l0_1) else (none)) = some r := by rw [if_pos rfl] at H; exact H
           clear H
           have H := H1
           clear H1
           by_cases c21 : x5_2.length < 5864062014805
           ·rw [if_pos c21] at H
            have LMc21 := Aside0.mk c21
            clear c21
            obtain ⟨y273, hy273⟩ : ∃ y_ : List (List Int), y_ = (x5_2 ++ [rd_L1 l1 x27_2]) := ⟨_, rfl⟩
            replace H : (impl_proofOk.l0 k2 y273 l1 (l1.length : Int) (wrap64 (x27_2 + 1)) a0_0 l0_1) = some r := by first | (rw [hy273]; with_reducible exact H) | (have H2_ := (Option.bind_some _ _).symm.trans H; rw [hy273]; with_reducible exact H2_) | (have H2_ := (Option.bind_some _ _).symm.trans H; with_reducible exact H2_) | with_reducible exact H | (rw [hy273]; exact H) | exact H
            have Ny273 := Aside0.mk hy273
            clear hy273
            have H' := Aside0.mk H
            clear H
            have p270 : 0 ≤ (x27_2 : Int) := of_decide_eq_true (by first | (with_reducible assumption) | assumption)
            have q270 : x27_2 < (l1.length : Int) := of_decide_eq_true (by first | (with_reducible assumption) | assumption)
            obtain ⟨ad270, A270_0, c270_0, e270, hx270_0, hl270_0, hi270_0⟩ := at_L1 (Kd.V_reads' HO_25.out).2.2 x27_2 p270 q270
            cases e270
            obtain ⟨ce270, hce270, hMe270, hcc270⟩ := Kd.V_get HO_25.out [] x27_2 p270 (by first | exact q270 | exact of_decide_eq_true (by first | (with_reducible assumption) | assumption) | (have e_ := (Kd.V_reads' HO_25.out).1; omega))
            obtain ⟨ua270_0, uc270_0, rfl, ul270_0, ge270_0⟩ := Kd.FK_slice_open hMe270
            have hv270_0 := hcc270 0 _ rfl
            rw [Nat.add_zero, show ((Kd.slice 3 (Kd.int .i64))).sz = 1 from rfl, Nat.mul_one] at hv270_0
            replace hv270_0 := Option.some.inj (hv270_0.symm.trans hx270_0)
            injection hv270_0 with hva_ hvn_ hvc_
            rw [hva_] at ge270_0
            rw [hvc_] at ul270_0
            have HL270_0 := Aside0.mk (show Kd.V (Kd.int .i64) 3 _ w.heap.size _ _ (rd_L1 l1 x27_2) from Kd.V_mk ul270_0 ge270_0)
            clear hva_ hvn_ hvc_ ge270_0 ul270_0
            clear hcc270 hce270
            have HR270_0 := Aside0.mk hi270_0
            have HC270_0 := Aside0.mk hl270_0
            clear hi270_0 hl270_0
            replace p270 := eq_true p270
            replace q270 := eq_true q270
            have hcz22_0 : wr.cell? ⟨gb264, 0, none⟩ = some (.int .i64 a0_0) := (blk_cell BK264.out 0).trans rfl
            have hcz22_1 : wr.cell? ⟨gb264, 1, none⟩ = some (.slice A0_1 l0_1.length c0_1) := (blk_cell BK264.out 1).trans rfl
            have hfz22_0 := blk_frozen BK264.out 0
            have hfz22_1 := blk_frozen BK264.out 1
            go_wp2_with (first | ((with_reducible refine gate_callee (f := 51) rfl ?_); refine goesL_ (some 34) rfl rfl Try.func51 (by kernel_rfl) rfl #[.slice A270_0 (rd_L1 l1 x27_2).length c270_0, .int .i64 a0_0] rfl (by (try simp only [List.map_toArray, List.map_cons, List.map_nil]); first | done | rfl | (simp only [List.length_drop, List.length_take]; rfl)) ?_; (with_reducible refine (impl_ClauseValid.calls k2 _ _ (rd_L1 l1 x27_2) a0_0 true _ ?side1 ?side2 A17.out).mono ?_); (case side1 => repeat (first | exact (by repeat (first | (with_reducible exact HR270_0.out) | (with_reducible refine Kd.C_alloc ?_ _) | (with_reducible refine Kd.C_drewN ?_ _) | (with_reducible refine Kd.C_drew ?_) | exact HR270_0.out)) | (with_reducible refine Kd.C_alloc ?_ _) | (with_reducible refine Kd.C_drewN ?_ _) | (with_reducible refine Kd.C_drew ?_))); (case side2 => exact HC270_0.out); rintro e w23 ⟨rfl, hb⟩; refine ⟨_, rfl, ?_⟩; have n0_ := Aside0.mk (Kd.N_below (by (with_reducible repeat (first | apply Kd.N_alloc | apply Kd.N_drewN | apply Kd.N_drew)); exact HO_5.out) hb); have n1_ := Aside0.mk (Kd.V_below (by (with_reducible repeat (first | apply Kd.V_alloc | apply Kd.V_drewN | apply Kd.V_drew)); exact HO_25.out) hb); have n2_ := Aside0.mk (Kd.V_below (by (with_reducible repeat (first | apply Kd.V_alloc | apply Kd.V_drewN | apply Kd.V_drew)); exact HO_265001.out) hb); have n3_ := Aside0.mk (Kd.V_below (by (with_reducible repeat (first | apply Kd.V_alloc | apply Kd.V_drewN | apply Kd.V_drew)); exact HL270_0.out) hb); have n4_ := Aside0.mk (blk_below (g := gb264) (o := .cells #[.int .i64 a0_0, .slice A0_1 l0_1.length c0_1] 29 (0, 0)) (by (with_reducible repeat (first | refine blk_drewN ?_ _ | refine blk_drew ?_ | refine blk_alloc ?_ _)); exact BK264.out) hb); have n5_ := Aside0.mk (Kd.C_below (by repeat (first | (with_reducible exact HR270_0.out) | (with_reducible refine Kd.C_alloc ?_ _) | (with_reducible refine Kd.C_drewN ?_ _) | (with_reducible refine Kd.C_drew ?_) | exact HR270_0.out)) hb); have n6_ := Aside0.mk (below_step (by repeat (first | (with_reducible first | exact HB.out | apply bwA | apply bwN | apply bwD | refine below_set ?_ GE264.out) | exact HB.out)) hb); clear HO_5; clear HO_25; clear HO_265001; clear HL270_0; clear BK264; clear HR270_0; clear HB; have HO_5 := n0_; have HO_25 := n1_; have HO_265001 := n2_; have HL270_0 := n3_; have BK264 := n4_; have HR270_0 := n5_; have HB := n6_; clear n0_ n1_ n2_ n3_ n4_ n5_ n6_; (try clear hb); (try clear hb2); (try clear hk); (try clear hi); have hcz24_0 : w23.cell? ⟨gb264, 0, none⟩ = some (.int .i64 a0_0) := (blk_cell BK264.out 0).trans rfl; have hcz24_1 : w23.cell? ⟨gb264, 1, none⟩ = some (.slice A0_1 l0_1.length c0_1) := (blk_cell BK264.out 1).trans rfl; have hfz24_0 := blk_frozen BK264.out 0; have hfz24_1 := blk_frozen BK264.out 1; obtain ⟨Ao25, co25, eo25⟩ := Kd.N_slice HO_5.out; subst eo25) | (go_at_call 107; (with_reducible refine (impl_stepHolds.calls k2 a0_0 _ _ x5_2 _ _ (rd_L1 l1 x27_2) true _ ?side1 ?side2 ?side3 ?side4 A19.out).mono ?_); (case side1 => repeat (first | exact (Kd.N_reads' HO_5.out).2.2 | (with_reducible refine Kd.C_alloc ?_ _) | (with_reducible refine Kd.C_drewN ?_ _) | (with_reducible refine Kd.C_drew ?_))); (case side2 => exact (Kd.N_reads' HO_5.out).2.1); (case side3 => repeat (first | exact (by repeat (first | (with_reducible exact HR270_0.out) | (with_reducible refine Kd.C_alloc ?_ _) | (with_reducible refine Kd.C_drewN ?_ _) | (with_reducible refine Kd.C_drew ?_) | exact HR270_0.out)) | (with_reducible refine Kd.C_alloc ?_ _) | (with_reducible refine Kd.C_drewN ?_ _) | (with_reducible refine Kd.C_drew ?_))); (case side4 => exact HC270_0.out); rintro e w26 ⟨rfl, hb⟩; have n0_ := Aside0.mk (Kd.N_below (by (with_reducible repeat (first | apply Kd.N_alloc | apply Kd.N_drewN | apply Kd.N_drew)); exact HO_5.out) hb); have n1_ := Aside0.mk (Kd.V_below (by (with_reducible repeat (first | apply Kd.V_alloc | apply Kd.V_drewN | apply Kd.V_drew)); exact HO_25.out) hb); have n2_ := Aside0.mk (Kd.V_below (by (with_reducible repeat (first | apply Kd.V_alloc | apply Kd.V_drewN | apply Kd.V_drew)); exact HO_265001.out) hb); have n3_ := Aside0.mk (Kd.V_below (by (with_reducible repeat (first | apply Kd.V_alloc | apply Kd.V_drewN | apply Kd.V_drew)); exact HL270_0.out) hb); have n4_ := Aside0.mk (blk_below (g := gb264) (o := .cells #[.int .i64 a0_0, .slice A0_1 l0_1.length c0_1] 29 (0, 0)) (by (with_reducible repeat (first | refine blk_drewN ?_ _ | refine blk_drew ?_ | refine blk_alloc ?_ _)); exact BK264.out) hb); have n5_ := Aside0.mk (Kd.C_below (by repeat (first | (with_reducible exact HR270_0.out) | (with_reducible refine Kd.C_alloc ?_ _) | (with_reducible refine Kd.C_drewN ?_ _) | (with_reducible refine Kd.C_drew ?_) | exact HR270_0.out)) hb); have n6_ := Aside0.mk (below_step (by repeat (first | (with_reducible first | exact HB.out | apply bwA | apply bwN | apply bwD | refine below_set ?_ GE264.out) | exact HB.out)) hb); clear HO_5; clear HO_25; clear HO_265001; clear HL270_0; clear BK264; clear HR270_0; clear HB; have HO_5 := n0_; have HO_25 := n1_; have HO_265001 := n2_; have HL270_0 := n3_; have BK264 := n4_; have HR270_0 := n5_; have HB := n6_; clear n0_ n1_ n2_ n3_ n4_ n5_ n6_; (try clear hb); (try clear hb2); (try clear hk); (try clear hi)) | ((with_reducible refine gate_builtin (b := .append) (xs := #[.tmp 44, .tmp 46]) rfl ?_); at_builtin; refine Kd.N_append (Kd.slice 3 (Kd.int .i64)) (w0 := w) w.heap.size rfl (.tmp 44) (.tmp 46) 22 25 (.slice none 0 0) 24 rfl Try.underlying22 info25 rfl (by decide) (by omega) (.slice Ao25 x5_2.length co25) x5_2 (rd_L1 l1 x27_2) [.slice A270_0 (rd_L1 l1 x27_2).length c270_0] (fun k_ => ((P0_1_ k_ ∨ P1_ k_) ∨ w.heap.size ≤ k_) ∧ k_ ≠ gb264) (fun k_ => ((fun k_ => ((P0_1_ k_ ∨ P1_ k_) ∨ w.heap.size ≤ k_) ∧ k_ ≠ gb264)) k_ ∧ some k_ ≠ (.slice Ao25 x5_2.length co25 : Value).ownBlock) rfl rfl ?aP (fun _ hk => hk) ?aF ?aO ?aB ?aS ?aL ?_; (case aP => exact (Kd.FK_slice_mk (Kd.V_reads' (Kd.V_mono (ok' := (fun k_ => ((fun k_ => ((P0_1_ k_ ∨ P1_ k_) ∨ w.heap.size ≤ k_) ∧ k_ ≠ gb264)) k_ ∧ some k_ ≠ (.slice Ao25 x5_2.length co25 : Value).ownBlock)) (HL270_0.out) (fun k_ hk => ⟨⟨hk.1, hk.2.2⟩, hk.2.1⟩))).2.1 (Kd.V_F (Kd.V_mono (ok' := (fun k_ => ((fun k_ => ((P0_1_ k_ ∨ P1_ k_) ∨ w.heap.size ≤ k_) ∧ k_ ≠ gb264)) k_ ∧ some k_ ≠ (.slice Ao25 x5_2.length co25 : Value).ownBlock)) (HL270_0.out) (fun k_ hk => ⟨⟨hk.1, hk.2.2⟩, hk.2.1⟩))))); (case aB => exact (by repeat (first | (with_reducible first | exact HB.out | apply bwA | apply bwN | apply bwD | refine below_set ?_ GE264.out) | exact HB.out))); (case aF => exact (fun k_ hk => ⟨(.inr (Nat.le_trans (below_size (by repeat (first | (with_reducible first | exact HB.out | apply bwA | apply bwN | apply bwD | refine below_set ?_ GE264.out) | exact HB.out))) hk)), Kd.freshB (g := gb264) (o := .cells #[.int .i64 a0_0, .slice A0_1 l0_1.length c0_1] 29 (0, 0)) (by (with_reducible repeat (first | refine blk_drewN ?_ _ | refine blk_drew ?_ | refine blk_alloc ?_ _)); exact BK264.out) k_ hk⟩)); (case aO => exact (by (with_reducible repeat (first | apply Kd.N_alloc | apply Kd.N_drewN | apply Kd.N_drew)); exact HO_5.out)); (case aS => exact (below_size (by repeat (first | (with_reducible first | exact HB.out | apply bwA | apply bwN | apply bwD | refine below_set ?_ GE264.out) | exact HB.out)))); (case aL => have := LMc21.out; omega); intro v274 w27 ho hb hg hat; rw [← Ny273.out] at ho; have n0_ := Aside0.mk (Kd.V_afterv (ok := (fun k_ => ((P0_1_ k_ ∨ P1_ k_) ∨ w.heap.size ≤ k_) ∧ k_ ≠ gb264)) (by (with_reducible repeat (first | apply Kd.V_alloc | apply Kd.V_drewN | apply Kd.V_drew)); exact Kd.V_mono HO_25.out (fun _ hk => ⟨⟨hk.1, hk.2.2⟩, hk.2.1⟩)) hg hat); have n1_ := Aside0.mk (Kd.V_afterv (ok := (fun k_ => ((P0_1_ k_ ∨ P1_ k_) ∨ w.heap.size ≤ k_) ∧ k_ ≠ gb264)) (by (with_reducible repeat (first | apply Kd.V_alloc | apply Kd.V_drewN | apply Kd.V_drew)); exact Kd.V_mono HO_265001.out (fun _ hk => ⟨⟨hk.1, hk.2.2⟩, hk.2.1⟩)) hg hat); have n2_ := Aside0.mk (blk_grown (g := gb264) (o := .cells #[.int .i64 a0_0, .slice A0_1 l0_1.length c0_1] 29 (0, 0)) (by (with_reducible repeat (first | refine blk_drewN ?_ _ | refine blk_drew ?_ | refine blk_alloc ?_ _)); exact BK264.out) hg (Kd.N_ne HO_5.out BK264.out (by decide))); have n3_ := Aside0.mk (Kd.V_afterv (ok := (fun k_ => ((P0_1_ k_ ∨ P1_ k_) ∨ w.heap.size ≤ k_) ∧ k_ ≠ gb264)) (by (with_reducible repeat (first | apply Kd.V_alloc | apply Kd.V_drewN | apply Kd.V_drew)); exact Kd.V_mono HL270_0.out (fun _ hk => ⟨⟨hk.1, hk.2.2⟩, hk.2.1⟩)) hg hat); have n4_ := Aside0.mk (hb); have n5_ := Aside0.mk (ho); clear HO_25; clear HO_265001; clear BK264; clear HL270_0; clear HB; clear HO_5; have HO_25 := n0_; have HO_265001 := n1_; have BK264 := n2_; have HL270_0 := n3_; have HB := n4_; have HO275 := n5_; clear n0_ n1_ n2_ n3_ n4_ n5_; clear ho hb hg hat))
            go_roundg k2
            case measure => have := HJ2.out; have := HK2.out; omega
            case rel => exact ⟨(y273), (wrap64 (x27_2 + 1)), (by first | rfl | (simp; done) | (simp [*]; done)), H', ⟨by have := HJ2.out; have := HK2.out; omega⟩, ⟨by (with_reducible repeat (first | apply Kd.N_alloc | apply Kd.N_drewN | apply Kd.N_drew)); exact HO275.out⟩, ⟨by (with_reducible repeat (first | apply Kd.V_alloc | apply Kd.V_drewN | apply Kd.V_drew)); exact Kd.V_mono HO_25.out (fun _ hk => ⟨hk.1.1, ⟨hk.2, hk.1.2⟩⟩)⟩, ⟨by (with_reducible repeat (first | apply Kd.V_alloc | apply Kd.V_drewN | apply Kd.V_drew)); exact Kd.V_mono HO_265001.out (fun _ hk => ⟨hk.1.1, ⟨hk.2, hk.1.2⟩⟩)⟩, ⟨by (with_reducible repeat (first | refine blk_drewN ?_ _ | refine blk_drew ?_ | refine blk_alloc ?_ _)); exact BK264.out⟩, ⟨by repeat (first | (with_reducible first | exact HB.out | apply bwA | apply bwN | apply bwD | refine below_set ?_ GE264.out) | exact HB.out)⟩⟩
           ·rw [if_neg c21] at H
            exact absurd H (by simp)
          ·replace c20 := Bool.eq_false_iff.mpr c20
           subst c20
           have H1 : (some false) = some r := by rw [if_neg (show ¬ (false = true) by decide)] at H; exact H
           clear H
           have H := H1
           clear H1
           obtain rfl := Option.some.inj H
           have p270 : 0 ≤ (x27_2 : Int) := of_decide_eq_true (by first | (with_reducible assumption) | assumption)
           have q270 : x27_2 < (l1.length : Int) := of_decide_eq_true (by first | (with_reducible assumption) | assumption)
           obtain ⟨ad270, A270_0, c270_0, e270, hx270_0, hl270_0, hi270_0⟩ := at_L1 (Kd.V_reads' HO_25.out).2.2 x27_2 p270 q270
           cases e270
           obtain ⟨ce270, hce270, hMe270, hcc270⟩ := Kd.V_get HO_25.out [] x27_2 p270 (by first | exact q270 | exact of_decide_eq_true (by first | (with_reducible assumption) | assumption) | (have e_ := (Kd.V_reads' HO_25.out).1; omega))
           obtain ⟨ua270_0, uc270_0, rfl, ul270_0, ge270_0⟩ := Kd.FK_slice_open hMe270
           have hv270_0 := hcc270 0 _ rfl
           rw [Nat.add_zero, show ((Kd.slice 3 (Kd.int .i64))).sz = 1 from rfl, Nat.mul_one] at hv270_0
           replace hv270_0 := Option.some.inj (hv270_0.symm.trans hx270_0)
           injection hv270_0 with hva_ hvn_ hvc_
           rw [hva_] at ge270_0
           rw [hvc_] at ul270_0
           have HL270_0 := Aside0.mk (show Kd.V (Kd.int .i64) 3 _ w.heap.size _ _ (rd_L1 l1 x27_2) from Kd.V_mk ul270_0 ge270_0)
           clear hva_ hvn_ hvc_ ge270_0 ul270_0
           clear hcc270 hce270
           have HR270_0 := Aside0.mk hi270_0
           have HC270_0 := Aside0.mk hl270_0
           clear hi270_0 hl270_0
           replace p270 := eq_true p270
           replace q270 := eq_true q270
           have hcz28_0 : wr.cell? ⟨gb264, 0, none⟩ = some (.int .i64 a0_0) := (blk_cell BK264.out 0).trans rfl
           have hcz28_1 : wr.cell? ⟨gb264, 1, none⟩ = some (.slice A0_1 l0_1.length c0_1) := (blk_cell BK264.out 1).trans rfl
           have hfz28_0 := blk_frozen BK264.out 0
           have hfz28_1 := blk_frozen BK264.out 1
           go_wp2_with (first | ((with_reducible refine gate_callee (f := 51) rfl ?_); refine goesL_ (some 34) rfl rfl Try.func51 (by kernel_rfl) rfl #[.slice A270_0 (rd_L1 l1 x27_2).length c270_0, .int .i64 a0_0] rfl (by (try simp only [List.map_toArray, List.map_cons, List.map_nil]); first | done | rfl | (simp only [List.length_drop, List.length_take]; rfl)) ?_; (with_reducible refine (impl_ClauseValid.calls k2 _ _ (rd_L1 l1 x27_2) a0_0 true _ ?side1 ?side2 A17.out).mono ?_); (case side1 => repeat (first | exact (by repeat (first | (with_reducible exact HR270_0.out) | (with_reducible refine Kd.C_alloc ?_ _) | (with_reducible refine Kd.C_drewN ?_ _) | (with_reducible refine Kd.C_drew ?_) | exact HR270_0.out)) | (with_reducible refine Kd.C_alloc ?_ _) | (with_reducible refine Kd.C_drewN ?_ _) | (with_reducible refine Kd.C_drew ?_))); (case side2 => exact HC270_0.out); rintro e w29 ⟨rfl, hb⟩; refine ⟨_, rfl, ?_⟩; have n0_ := Aside0.mk (Kd.N_below (by (with_reducible repeat (first | apply Kd.N_alloc | apply Kd.N_drewN | apply Kd.N_drew)); exact HO_5.out) hb); have n1_ := Aside0.mk (Kd.V_below (by (with_reducible repeat (first | apply Kd.V_alloc | apply Kd.V_drewN | apply Kd.V_drew)); exact HO_25.out) hb); have n2_ := Aside0.mk (Kd.V_below (by (with_reducible repeat (first | apply Kd.V_alloc | apply Kd.V_drewN | apply Kd.V_drew)); exact HO_265001.out) hb); have n3_ := Aside0.mk (Kd.V_below (by (with_reducible repeat (first | apply Kd.V_alloc | apply Kd.V_drewN | apply Kd.V_drew)); exact HL270_0.out) hb); have n4_ := Aside0.mk (blk_below (g := gb264) (o := .cells #[.int .i64 a0_0, .slice A0_1 l0_1.length c0_1] 29 (0, 0)) (by (with_reducible repeat (first | refine blk_drewN ?_ _ | refine blk_drew ?_ | refine blk_alloc ?_ _)); exact BK264.out) hb); have n5_ := Aside0.mk (Kd.C_below (by repeat (first | (with_reducible exact HR270_0.out) | (with_reducible refine Kd.C_alloc ?_ _) | (with_reducible refine Kd.C_drewN ?_ _) | (with_reducible refine Kd.C_drew ?_) | exact HR270_0.out)) hb); have n6_ := Aside0.mk (below_step (by repeat (first | (with_reducible first | exact HB.out | apply bwA | apply bwN | apply bwD | refine below_set ?_ GE264.out) | exact HB.out)) hb); clear HO_5; clear HO_25; clear HO_265001; clear HL270_0; clear BK264; clear HR270_0; clear HB; have HO_5 := n0_; have HO_25 := n1_; have HO_265001 := n2_; have HL270_0 := n3_; have BK264 := n4_; have HR270_0 := n5_; have HB := n6_; clear n0_ n1_ n2_ n3_ n4_ n5_ n6_; (try clear hb); (try clear hb2); (try clear hk); (try clear hi); have hcz30_0 : w29.cell? ⟨gb264, 0, none⟩ = some (.int .i64 a0_0) := (blk_cell BK264.out 0).trans rfl; have hcz30_1 : w29.cell? ⟨gb264, 1, none⟩ = some (.slice A0_1 l0_1.length c0_1) := (blk_cell BK264.out 1).trans rfl; have hfz30_0 := blk_frozen BK264.out 0; have hfz30_1 := blk_frozen BK264.out 1; obtain ⟨Ao31, co31, eo31⟩ := Kd.N_slice HO_5.out; subst eo31) | (go_at_call 107; (with_reducible refine (impl_stepHolds.calls k2 a0_0 _ _ x5_2 _ _ (rd_L1 l1 x27_2) false _ ?side1 ?side2 ?side3 ?side4 A19.out).mono ?_); (case side1 => repeat (first | exact (Kd.N_reads' HO_5.out).2.2 | (with_reducible refine Kd.C_alloc ?_ _) | (with_reducible refine Kd.C_drewN ?_ _) | (with_reducible refine Kd.C_drew ?_))); (case side2 => exact (Kd.N_reads' HO_5.out).2.1); (case side3 => repeat (first | exact (by repeat (first | (with_reducible exact HR270_0.out) | (with_reducible refine Kd.C_alloc ?_ _) | (with_reducible refine Kd.C_drewN ?_ _) | (with_reducible refine Kd.C_drew ?_) | exact HR270_0.out)) | (with_reducible refine Kd.C_alloc ?_ _) | (with_reducible refine Kd.C_drewN ?_ _) | (with_reducible refine Kd.C_drew ?_))); (case side4 => exact HC270_0.out); rintro e w32 ⟨rfl, hb⟩; have n0_ := Aside0.mk (Kd.N_below (by (with_reducible repeat (first | apply Kd.N_alloc | apply Kd.N_drewN | apply Kd.N_drew)); exact HO_5.out) hb); have n1_ := Aside0.mk (Kd.V_below (by (with_reducible repeat (first | apply Kd.V_alloc | apply Kd.V_drewN | apply Kd.V_drew)); exact HO_25.out) hb); have n2_ := Aside0.mk (Kd.V_below (by (with_reducible repeat (first | apply Kd.V_alloc | apply Kd.V_drewN | apply Kd.V_drew)); exact HO_265001.out) hb); have n3_ := Aside0.mk (Kd.V_below (by (with_reducible repeat (first | apply Kd.V_alloc | apply Kd.V_drewN | apply Kd.V_drew)); exact HL270_0.out) hb); have n4_ := Aside0.mk (blk_below (g := gb264) (o := .cells #[.int .i64 a0_0, .slice A0_1 l0_1.length c0_1] 29 (0, 0)) (by (with_reducible repeat (first | refine blk_drewN ?_ _ | refine blk_drew ?_ | refine blk_alloc ?_ _)); exact BK264.out) hb); have n5_ := Aside0.mk (Kd.C_below (by repeat (first | (with_reducible exact HR270_0.out) | (with_reducible refine Kd.C_alloc ?_ _) | (with_reducible refine Kd.C_drewN ?_ _) | (with_reducible refine Kd.C_drew ?_) | exact HR270_0.out)) hb); have n6_ := Aside0.mk (below_step (by repeat (first | (with_reducible first | exact HB.out | apply bwA | apply bwN | apply bwD | refine below_set ?_ GE264.out) | exact HB.out)) hb); clear HO_5; clear HO_25; clear HO_265001; clear HL270_0; clear BK264; clear HR270_0; clear HB; have HO_5 := n0_; have HO_25 := n1_; have HO_265001 := n2_; have HL270_0 := n3_; have BK264 := n4_; have HR270_0 := n5_; have HB := n6_; clear n0_ n1_ n2_ n3_ n4_ n5_ n6_; (try clear hb); (try clear hb2); (try clear hk); (try clear hi)))
           go_ret
           exact ⟨by first | rfl | (simp [errW_none, errW_some] <;> rfl) | (simp [*, errW_none, errW_some] <;> rfl), by repeat (first | (with_reducible first | exact HB.out | apply bwA | apply bwN | apply bwD | refine below_set ?_ GE264.out) | exact HB.out)⟩
         ·replace c18 := Bool.eq_false_iff.mpr c18
          subst c18
          have H1 : (some false) = some r := by rw [if_neg (show ¬ (false = true) by decide)] at H; exact H
          clear H
          have H := H1
          clear H1
          obtain rfl := Option.some.inj H
          have p270 : 0 ≤ (x27_2 : Int) := of_decide_eq_true (by first | (with_reducible assumption) | assumption)
          have q270 : x27_2 < (l1.length : Int) := of_decide_eq_true (by first | (with_reducible assumption) | assumption)
          obtain ⟨ad270, A270_0, c270_0, e270, hx270_0, hl270_0, hi270_0⟩ := at_L1 (Kd.V_reads' HO_25.out).2.2 x27_2 p270 q270
          cases e270
          obtain ⟨ce270, hce270, hMe270, hcc270⟩ := Kd.V_get HO_25.out [] x27_2 p270 (by first | exact q270 | exact of_decide_eq_true (by first | (with_reducible assumption) | assumption) | (have e_ := (Kd.V_reads' HO_25.out).1; omega))
          obtain ⟨ua270_0, uc270_0, rfl, ul270_0, ge270_0⟩ := Kd.FK_slice_open hMe270
          have hv270_0 := hcc270 0 _ rfl
          rw [Nat.add_zero, show ((Kd.slice 3 (Kd.int .i64))).sz = 1 from rfl, Nat.mul_one] at hv270_0
          replace hv270_0 := Option.some.inj (hv270_0.symm.trans hx270_0)
          injection hv270_0 with hva_ hvn_ hvc_
          rw [hva_] at ge270_0
          rw [hvc_] at ul270_0
          have HL270_0 := Aside0.mk (show Kd.V (Kd.int .i64) 3 _ w.heap.size _ _ (rd_L1 l1 x27_2) from Kd.V_mk ul270_0 ge270_0)
          clear hva_ hvn_ hvc_ ge270_0 ul270_0
          clear hcc270 hce270
          have HR270_0 := Aside0.mk hi270_0
          have HC270_0 := Aside0.mk hl270_0
          clear hi270_0 hl270_0
          replace p270 := eq_true p270
          replace q270 := eq_true q270
          have hcz33_0 : wr.cell? ⟨gb264, 0, none⟩ = some (.int .i64 a0_0) := (blk_cell BK264.out 0).trans rfl
          have hcz33_1 : wr.cell? ⟨gb264, 1, none⟩ = some (.slice A0_1 l0_1.length c0_1) := (blk_cell BK264.out 1).trans rfl
          have hfz33_0 := blk_frozen BK264.out 0
          have hfz33_1 := blk_frozen BK264.out 1
          go_wp2_with (first | ((with_reducible refine gate_callee (f := 51) rfl ?_); refine goesL_ (some 34) rfl rfl Try.func51 (by kernel_rfl) rfl #[.slice A270_0 (rd_L1 l1 x27_2).length c270_0, .int .i64 a0_0] rfl (by (try simp only [List.map_toArray, List.map_cons, List.map_nil]); first | done | rfl | (simp only [List.length_drop, List.length_take]; rfl)) ?_; (with_reducible refine (impl_ClauseValid.calls k2 _ _ (rd_L1 l1 x27_2) a0_0 false _ ?side1 ?side2 A17.out).mono ?_); (case side1 => repeat (first | exact (by repeat (first | (with_reducible exact HR270_0.out) | (with_reducible refine Kd.C_alloc ?_ _) | (with_reducible refine Kd.C_drewN ?_ _) | (with_reducible refine Kd.C_drew ?_) | exact HR270_0.out)) | (with_reducible refine Kd.C_alloc ?_ _) | (with_reducible refine Kd.C_drewN ?_ _) | (with_reducible refine Kd.C_drew ?_))); (case side2 => exact HC270_0.out); rintro e w34 ⟨rfl, hb⟩; refine ⟨_, rfl, ?_⟩; have n0_ := Aside0.mk (Kd.N_below (by (with_reducible repeat (first | apply Kd.N_alloc | apply Kd.N_drewN | apply Kd.N_drew)); exact HO_5.out) hb); have n1_ := Aside0.mk (Kd.V_below (by (with_reducible repeat (first | apply Kd.V_alloc | apply Kd.V_drewN | apply Kd.V_drew)); exact HO_25.out) hb); have n2_ := Aside0.mk (Kd.V_below (by (with_reducible repeat (first | apply Kd.V_alloc | apply Kd.V_drewN | apply Kd.V_drew)); exact HO_265001.out) hb); have n3_ := Aside0.mk (Kd.V_below (by (with_reducible repeat (first | apply Kd.V_alloc | apply Kd.V_drewN | apply Kd.V_drew)); exact HL270_0.out) hb); have n4_ := Aside0.mk (blk_below (g := gb264) (o := .cells #[.int .i64 a0_0, .slice A0_1 l0_1.length c0_1] 29 (0, 0)) (by (with_reducible repeat (first | refine blk_drewN ?_ _ | refine blk_drew ?_ | refine blk_alloc ?_ _)); exact BK264.out) hb); have n5_ := Aside0.mk (Kd.C_below (by repeat (first | (with_reducible exact HR270_0.out) | (with_reducible refine Kd.C_alloc ?_ _) | (with_reducible refine Kd.C_drewN ?_ _) | (with_reducible refine Kd.C_drew ?_) | exact HR270_0.out)) hb); have n6_ := Aside0.mk (below_step (by repeat (first | (with_reducible first | exact HB.out | apply bwA | apply bwN | apply bwD | refine below_set ?_ GE264.out) | exact HB.out)) hb); clear HO_5; clear HO_25; clear HO_265001; clear HL270_0; clear BK264; clear HR270_0; clear HB; have HO_5 := n0_; have HO_25 := n1_; have HO_265001 := n2_; have HL270_0 := n3_; have BK264 := n4_; have HR270_0 := n5_; have HB := n6_; clear n0_ n1_ n2_ n3_ n4_ n5_ n6_; (try clear hb); (try clear hb2); (try clear hk); (try clear hi)))
          go_ret
          exact ⟨by first | rfl | (simp [errW_none, errW_some] <;> rfl) | (simp [*, errW_none, errW_some] <;> rfl), by repeat (first | (with_reducible first | exact HB.out | apply bwA | apply bwN | apply bwD | refine below_set ?_ GE264.out) | exact HB.out)⟩
        ·rw [if_neg c16] at H
         exact absurd H (by simp)
       ·rw [if_neg c15] at H
        exact absurd H (by simp)
      ·rw [if_neg c14] at H
       have c14b0 : decide (x27_2 < (l1.length : Int)) = false := decide_eq_false c14
       clear c14
       obtain rfl := Option.some.inj H
       (try rw [hl266_0] at c14b0)
       (try rw [hl270_0] at c14b0)
       go_wp2
       go_ret
       exact ⟨by first | rfl | (simp [errW_none, errW_some] <;> rfl) | (simp [*, errW_none, errW_some] <;> rfl), by repeat (first | (with_reducible first | exact HB.out | apply bwA | apply bwN | apply bwD | refine below_set ?_ GE264.out) | exact HB.out)⟩

/-! ### impl_CheckProof: function 33 -/
def impl_CheckProof.f (k : Nat) (a0_0 : Int) (l0_1 : List (List Int)) (l1 : List (List Int)) : Option (Bool) := (impl_ClausesValid.f k a0_0 l0_1).bind fun t277 => (if t277 = true then ((impl_proofOk.f k a0_0 l0_1 l1).bind fun t278 => (some t278)) else (some false))
theorem impl_CheckProof.mono : ∀ a0 a1 a2 k, LeO (impl_CheckProof.f k a0 a1 a2) (impl_CheckProof.f (k + 1) a0 a1 a2) := by
 intro a0 a1 a2 k
 unfold impl_CheckProof.f
 repeat' first
   | (with_reducible exact impl_ClausesValid.mono _ _ _)
   | (with_reducible exact impl_proofOk.mono _ _ _ _)
   | (with_reducible exact LeO.refl _)
   | (with_reducible exact LeO.none _)
   | (with_reducible refine LeO.ite ?_ ?_)
   | (with_reducible refine LeO.bind ?_ (fun _ => ?_))
   | exact impl_ClausesValid.mono _ _ _
   | exact impl_proofOk.mono _ _ _ _
   | exact LeO.none _
   | refine LeO.ite ?_ ?_
   | refine LeO.bind ?_ (fun _ => ?_)
set_option maxHeartbeats 8000000 in
set_option maxRecDepth 100000 in
theorem impl_CheckProof.calls (k : Nat) (a0_0 : Int) (A0_1 : Option Addr) (c0_1 : Nat) (l0_1 : List (List Int)) (A1 : Option Addr) (c1 : Nat) (l1 : List (List Int)) (r : Bool) (w : World) (hr0_1 : Kd.C (Kd.slice 3 (Kd.int .i64)) w A0_1 l0_1.length l0_1) (hc0_1 : l0_1.length ≤ c0_1) (hr1 : Kd.C (Kd.slice 3 (Kd.int .i64)) w A1 l1.length l1) (hc1 : l1.length ≤ c1) (h : impl_CheckProof.f k a0_0 l0_1 l1 = some r) :
  Calls Try.prog 33 #[.agg #[.int .i64 a0_0, .slice A0_1 l0_1.length c0_1], .slice A1 l1.length c1] w fun e w' => e = .returned (.bool r) ∧ Below w.heap.size w w' := by
 have hu29 := Try.underlying29
 have HR0_1 := Aside0.mk hr0_1
 have HC0_1 := Aside0.mk hc0_1
 clear hr0_1 hc0_1
 have HR1 := Aside0.mk hr1
 have HC1 := Aside0.mk hc1
 clear hr1 hc1
 have HB := Aside0.mk (Below.refl w.heap.size w)
 have H : ((impl_ClausesValid.f k a0_0 l0_1).bind fun t277 => (if t277 = true then ((impl_proofOk.f k a0_0 l0_1 l1).bind fun t278 => (some t278)) else (some false))) = some r := h
 clear h
 replace H := Option.bind_eq_some_iff.mp H
 obtain ⟨t277, A30, H⟩ := H
 replace H : (if t277 = true then ((impl_proofOk.f k a0_0 l0_1 l1).bind fun t278 => (some t278)) else (some false)) = some r := H
 have A3 := Aside0.mk A30
 clear A30
 by_cases c4 : t277 = true
 ·subst c4
  have H1 : ((impl_proofOk.f k a0_0 l0_1 l1).bind fun t278 => (some t278)) = some r := by rw [if_pos rfl] at H; exact H
  clear H
  have H := H1
  clear H1
  replace H := Option.bind_eq_some_iff.mp H
  obtain ⟨t278, A50, H⟩ := H
  replace H : (some t278) = some r := H
  have A5 := Aside0.mk A50
  clear A50
  obtain rfl := Option.some.inj H
  go_enter Try.func33, Try.ntmps33
  go_wp2_with (first | ((with_reducible refine gate_dst (N := 2) rfl ?_); refine box_event ?hg (N := 2) ?hd (cs := #[.int .i64 a0_0, .slice A0_1 l0_1.length c0_1]) (t := 29) ?hr ?_; (case hd => rfl); (case hg => rfl); (case hr => first | (go_simp; done) | (go_simp; rfl)); intro gb276 hg w6 hbox hb; have n0_ := Aside0.mk (below_step (by repeat (first | (with_reducible first | exact HB.out | apply bwA | apply bwN | apply bwD) | exact HB.out)) hb); have n1_ := Aside0.mk (hbox); have n2_ := Aside0.mk ((by rw [hg]; exact (below_size (by repeat (first | (with_reducible first | exact HB.out | apply bwA | apply bwN | apply bwD) | exact HB.out))) : w.heap.size ≤ gb276)); have n3_ := Aside0.mk ((by rw [hg]; exact (below_size (by repeat (first | (with_reducible first | exact HB.out | apply bwA | apply bwN | apply bwD) | exact HB.out))) : w.heap.size ≤ gb276)); clear HB; have HB := n0_; have BK276 := n1_; have GW276 := n2_; have GE276 := n3_; clear n0_ n1_ n2_ n3_; clear hb hbox hg; have hcz7_0 : w6.cell? ⟨gb276, 0, none⟩ = some (.int .i64 a0_0) := (blk_cell BK276.out 0).trans rfl; have hcz7_1 : w6.cell? ⟨gb276, 1, none⟩ = some (.slice A0_1 l0_1.length c0_1) := (blk_cell BK276.out 1).trans rfl; have hfz7_0 := blk_frozen BK276.out 0; have hfz7_1 := blk_frozen BK276.out 1) | ((with_reducible refine gate_callee (f := 24) rfl ?_); refine goesL_ (some 6) rfl rfl Try.func24 (by kernel_rfl) rfl #[.agg #[.int .i64 a0_0, .slice A0_1 l0_1.length c0_1]] rfl (by (try simp only [List.map_toArray, List.map_cons, List.map_nil]); first | done | rfl | (simp only [List.length_drop, List.length_take]; rfl)) ?_; (with_reducible refine (impl_ClausesValid.calls k a0_0 _ _ l0_1 true _ ?side1 ?side2 A3.out).mono ?_); (case side1 => repeat (first | exact (Kd.C_below HR0_1.out HB.out) | (with_reducible refine Kd.C_alloc ?_ _) | (with_reducible refine Kd.C_drewN ?_ _) | (with_reducible refine Kd.C_drew ?_))); (case side2 => exact HC0_1.out); rintro e w8 ⟨rfl, hb⟩; refine ⟨_, rfl, ?_⟩; have n0_ := Aside0.mk (blk_below (g := gb276) (o := .cells #[.int .i64 a0_0, .slice A0_1 l0_1.length c0_1] 29 (0, 0)) (by (with_reducible repeat (first | refine blk_drewN ?_ _ | refine blk_drew ?_ | refine blk_alloc ?_ _)); exact BK276.out) hb); have n1_ := Aside0.mk (below_step (by repeat (first | (with_reducible first | exact HB.out | apply bwA | apply bwN | apply bwD | refine below_set ?_ GE276.out) | exact HB.out)) hb); clear BK276; clear HB; have BK276 := n0_; have HB := n1_; clear n0_ n1_; (try clear hb); (try clear hb2); (try clear hk); (try clear hi); have hcz9_0 : w8.cell? ⟨gb276, 0, none⟩ = some (.int .i64 a0_0) := (blk_cell BK276.out 0).trans rfl; have hcz9_1 : w8.cell? ⟨gb276, 1, none⟩ = some (.slice A0_1 l0_1.length c0_1) := (blk_cell BK276.out 1).trans rfl; have hfz9_0 := blk_frozen BK276.out 0; have hfz9_1 := blk_frozen BK276.out 1) | (go_at_call 77; (with_reducible refine (impl_proofOk.calls k a0_0 (fun k_ => k_ < w.heap.size) _ _ l0_1 (fun k_ => k_ < w.heap.size) _ _ l1 t278 _ ?side1 ?side2 A5.out).mono ?_); (case side1 => exact Kd.V_mk HC0_1.out (Kd.F_below (Kd.C_F (Kd.heap_slice 3 (Kd.heap_int .i64)) HR0_1.out) (by repeat (first | (with_reducible first | exact HB.out | apply bwA | apply bwN | apply bwD | refine below_set ?_ GE276.out) | exact HB.out)))); (case side2 => exact Kd.V_mk HC1.out (Kd.F_below (Kd.C_F (Kd.heap_slice 3 (Kd.heap_int .i64)) HR1.out) (by repeat (first | (with_reducible first | exact HB.out | apply bwA | apply bwN | apply bwD | refine below_set ?_ GE276.out) | exact HB.out)))); rintro e w10 ⟨rfl, hb⟩; have n0_ := Aside0.mk (blk_below (g := gb276) (o := .cells #[.int .i64 a0_0, .slice A0_1 l0_1.length c0_1] 29 (0, 0)) (by (with_reducible repeat (first | refine blk_drewN ?_ _ | refine blk_drew ?_ | refine blk_alloc ?_ _)); exact BK276.out) hb); have n1_ := Aside0.mk (below_step (by repeat (first | (with_reducible first | exact HB.out | apply bwA | apply bwN | apply bwD | refine below_set ?_ GE276.out) | exact HB.out)) hb); clear BK276; clear HB; have BK276 := n0_; have HB := n1_; clear n0_ n1_; (try clear hb); (try clear hb2); (try clear hk); (try clear hi)))
  go_ret
  exact ⟨by first | rfl | (simp [errW_none, errW_some] <;> rfl) | (simp [*, errW_none, errW_some] <;> rfl), by repeat (first | (with_reducible first | exact HB.out | apply bwA | apply bwN | apply bwD | refine below_set ?_ GE276.out) | exact HB.out)⟩
 ·replace c4 := Bool.eq_false_iff.mpr c4
  subst c4
  have H1 : (some false) = some r := by rw [if_neg (show ¬ (false = true) by decide)] at H; exact H
  clear H
  have H := H1
  clear H1
  obtain rfl := Option.some.inj H
  go_enter Try.func33, Try.ntmps33
  go_wp2_with (first | ((with_reducible refine gate_dst (N := 2) rfl ?_); refine box_event ?hg (N := 2) ?hd (cs := #[.int .i64 a0_0, .slice A0_1 l0_1.length c0_1]) (t := 29) ?hr ?_; (case hd => rfl); (case hg => rfl); (case hr => first | (go_simp; done) | (go_simp; rfl)); intro gb276 hg w11 hbox hb; have n0_ := Aside0.mk (below_step (by repeat (first | (with_reducible first | exact HB.out | apply bwA | apply bwN | apply bwD) | exact HB.out)) hb); have n1_ := Aside0.mk (hbox); have n2_ := Aside0.mk ((by rw [hg]; exact (below_size (by repeat (first | (with_reducible first | exact HB.out | apply bwA | apply bwN | apply bwD) | exact HB.out))) : w.heap.size ≤ gb276)); have n3_ := Aside0.mk ((by rw [hg]; exact (below_size (by repeat (first | (with_reducible first | exact HB.out | apply bwA | apply bwN | apply bwD) | exact HB.out))) : w.heap.size ≤ gb276)); clear HB; have HB := n0_; have BK276 := n1_; have GW276 := n2_; have GE276 := n3_; clear n0_ n1_ n2_ n3_; clear hb hbox hg; have hcz12_0 : w11.cell? ⟨gb276, 0, none⟩ = some (.int .i64 a0_0) := (blk_cell BK276.out 0).trans rfl; have hcz12_1 : w11.cell? ⟨gb276, 1, none⟩ = some (.slice A0_1 l0_1.length c0_1) := (blk_cell BK276.out 1).trans rfl; have hfz12_0 := blk_frozen BK276.out 0; have hfz12_1 := blk_frozen BK276.out 1) | ((with_reducible refine gate_callee (f := 24) rfl ?_); refine goesL_ (some 6) rfl rfl Try.func24 (by kernel_rfl) rfl #[.agg #[.int .i64 a0_0, .slice A0_1 l0_1.length c0_1]] rfl (by (try simp only [List.map_toArray, List.map_cons, List.map_nil]); first | done | rfl | (simp only [List.length_drop, List.length_take]; rfl)) ?_; (with_reducible refine (impl_ClausesValid.calls k a0_0 _ _ l0_1 false _ ?side1 ?side2 A3.out).mono ?_); (case side1 => repeat (first | exact (Kd.C_below HR0_1.out HB.out) | (with_reducible refine Kd.C_alloc ?_ _) | (with_reducible refine Kd.C_drewN ?_ _) | (with_reducible refine Kd.C_drew ?_))); (case side2 => exact HC0_1.out); rintro e w13 ⟨rfl, hb⟩; refine ⟨_, rfl, ?_⟩; have n0_ := Aside0.mk (blk_below (g := gb276) (o := .cells #[.int .i64 a0_0, .slice A0_1 l0_1.length c0_1] 29 (0, 0)) (by (with_reducible repeat (first | refine blk_drewN ?_ _ | refine blk_drew ?_ | refine blk_alloc ?_ _)); exact BK276.out) hb); have n1_ := Aside0.mk (below_step (by repeat (first | (with_reducible first | exact HB.out | apply bwA | apply bwN | apply bwD | refine below_set ?_ GE276.out) | exact HB.out)) hb); clear BK276; clear HB; have BK276 := n0_; have HB := n1_; clear n0_ n1_; (try clear hb); (try clear hb2); (try clear hk); (try clear hi)))
  go_ret
  exact ⟨by first | rfl | (simp [errW_none, errW_some] <;> rfl) | (simp [*, errW_none, errW_some] <;> rfl), by repeat (first | (with_reducible first | exact HB.out | apply bwA | apply bwN | apply bwD | refine below_set ?_ GE276.out) | exact HB.out)⟩

end Go.Proofs.Ytkfmgfdbdgjfiaa.QFnExactCheckProof
