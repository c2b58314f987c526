-- Written by a program of this session (mk.py). Lean checks it.
import Derived.Test.YtkfmgfdbdgjfiaaQFnExactCoreOfx0
import Derived.Test.YtkfmgfdbdgjfiaaQFnExactCoreOfx5
namespace Go.Proofs.Ytkfmgfdbdgjfiaa.QFnExactCoreOf
open Go.RowKit Go.Proofs.YtkfmgfdbdgjfiaaW.PrintWords Go.Proofs.YtkfmgfdbdgjfiaaW.PrintLast Go.Proofs.YtkfmgfdbdgjfiaaW.PrintMore
attribute [local go_sem] max2_int min2_int max_two min_two max_three min_three max_four min_four   -- for this text's walks alone
set_option linter.unusedVariables false
set_option linter.unusedSimpArgs false

/-! ### impl_ClausesValid: function 24 -/
def impl_ClausesValid.p (k : Nat) (a0_0 : Int) (l0_1 : List (List Int)) (i : Int) : Option Bool := (impl_ClauseValid.f k (rd_L1 l0_1 i) a0_0).bind fun b => some (!b)
theorem impl_ClausesValid_pred (k : Nat) (a0_0 : Int) (l0_1 : List (List Int)) (v : Value) (gb : Nat) (w : World) (BK : w.heap[gb]? = some (.cells #[.int .i64 a0_0, v] 29 (0, 0))) :
  ∀ (i : Int), 0 ≤ i → i < l0_1.length → ∀ b, impl_ClausesValid.p k a0_0 l0_1 i = some b → ∀ W, Below w.heap.size w W → ∀ A c, Kd.C (Kd.int .i64) W A (rd_L1 l0_1 i).length (rd_L1 l0_1 i) → (rd_L1 l0_1 i).length ≤ c → Calls Try.prog 62 (#[.slice A (rd_L1 l0_1 i).length c] ++ #[.pointer (some ⟨gb, 0, none⟩)]) W fun e w' => e = .returned (.bool b) ∧ Below W.heap.size W w' := by
 intro i h0 h1 b hb W hW A c hr hc
 obtain ⟨b1, hb1, hb2⟩ := Option.bind_eq_some_iff.mp hb
 obtain rfl := Option.some.inj hb2
 clear hb hb2
 have HC := Aside0.mk (impl_ClauseValid.calls k A c (rd_L1 l0_1 i) a0_0 b1 W hr hc hb1)
 have BK1 := blk_below BK hW
 clear hb1 hr
 have hc0 : W.cell? ⟨gb, 0, none⟩ = some (.int .i64 a0_0) := (blk_cell BK1 0).trans rfl
 have hf0 := blk_frozen BK1 0
 clear BK1 BK hW h0 h1
 show Calls Try.prog 62 #[.slice A (rd_L1 l0_1 i).length c, .pointer (some ⟨gb, 0, none⟩)] W _
 cases b1
 all_goals
  go_enter Try.func62, Try.ntmps62
  go_wp2_with (go_at_call 51; refine HC.out.mono ?_; rintro e w' ⟨rfl, HB1⟩)
  go_ret
  exact ⟨by first | rfl | simp, HB1⟩
def impl_ClausesValid.f (k : Nat) (a0_0 : Int) (l0_1 : List (List Int)) : Option Bool :=
 (impl_in.f a0_0 0 700).bind fun t => if t = true then (if (l0_1.length : Int) ≤ 2500 then ((Copy.idxO (impl_ClausesValid.p k a0_0 l0_1) l0_1.length 0).bind fun r => some (!(decide (0 ≤ r)))) else some false) else some false
theorem impl_ClausesValid.mono : ∀ a0 a1 k, LeO (impl_ClausesValid.f k a0 a1) (impl_ClausesValid.f (k + 1) a0 a1) := by
 intro a0 a1 k
 unfold impl_ClausesValid.f
 refine LeO.bind (LeO.refl _) (fun t => LeO.ite (LeO.ite (LeO.bind (Copy.idxO_le _ _ (fun i => LeO.bind (impl_ClauseValid.mono _ _ k) (fun b => LeO.refl _)) _ _) (fun r => LeO.refl _)) (LeO.refl _)) (LeO.refl _))
set_option maxHeartbeats 400000 in
theorem impl_ClausesValid.calls (k : Nat) (a0_0 : Int) (A0_1 : Option Addr) (c0_1 : Nat) (l0_1 : List (List Int)) (r : Bool) (w : World) (hr0_1 : Kd.C (Kd.slice 3 (Kd.int .i64)) w A0_1 l0_1.length l0_1) (hc0_1 : l0_1.length ≤ c0_1) (h : impl_ClausesValid.f k a0_0 l0_1 = some r) :
  Calls Try.prog 24 #[.agg #[.int .i64 a0_0, .slice A0_1 l0_1.length c0_1]] w fun e w' => e = .returned (.bool r) ∧ Below w.heap.size w w' := by
 have eg : ∀ args w, (callFunc 62 args).run Try.prog w = .ok (.enter 62 args) w := enters_of Try.func62 (by kernel_rfl) rfl
 have hu := Try.underlying29
 unfold impl_ClausesValid.f at h
 obtain ⟨t, h1, h⟩ := Option.bind_eq_some_iff.mp h
 have HI := Aside0.mk h1
 clear h1
 have H := Aside0.mk h
 have HR := Aside0.mk hr0_1
 have EG := eg
 have HB := Aside0.mk (Below.refl w.heap.size w)
 clear h hr0_1 eg
 by_cases c1 : t = true ∧ (l0_1.length : Int) ≤ 2500
 ·obtain ⟨rfl, c2⟩ := c1
  have H1 := H.out
  rw [if_pos rfl, if_pos c2] at H1
  obtain ⟨ri, hi, H1⟩ := Option.bind_eq_some_iff.mp H1
  obtain rfl := Option.some.inj H1
  clear H H1
  have c2b0 : decide ((l0_1.length : Int) ≤ 2500) = true := decide_eq_true c2
  clear c2
  have HI2 := Aside0.mk hi
  clear hi
  generalize hb : decide (0 ≤ ri) = b
  cases b
  all_goals
   have HD := Aside0.mk hb
   clear hb
   go_enter Try.func24, Try.ntmps24
   go_wp2_with (first
    | ((with_reducible refine gate_dst (N := 1) rfl ?_); refine box_event ?hg (N := 1) ?hd (cs := #[.int .i64 a0_0, .slice A0_1 l0_1.length c0_1]) (t := 29) ?hr ?_; (case hd => rfl); (case hg => rfl); (case hr => first | (go_simp; done) | (go_simp; rfl)); intro gb hg w3 hbox hb; have BK := Aside0.mk hbox; have HB := Aside0.mk hb; have hcz0 : w3.cell? ⟨gb, 0, none⟩ = some (.int .i64 a0_0) := (blk_cell BK.out 0).trans rfl; have hcz1 : w3.cell? ⟨gb, 1, none⟩ = some (.slice A0_1 l0_1.length c0_1) := (blk_cell BK.out 1).trans rfl; have hfz0 := blk_frozen BK.out 0; have hfz1 := blk_frozen BK.out 1; clear hg hbox hb)
    | (go_at_call 60; (with_reducible refine (impl_in.calls a0_0 0 700 true _ HI.out).mono ?_); rintro e w' ⟨rfl, ⟨nd, rfl⟩⟩)
    | (go_at_call 61; refine (slices_ContainsFunc_int_int.calls 62 _ EG A0_1 c0_1 l0_1 _ ri _ (Kd.C_drewN (Kd.C_below HR.out HB.out) _) (impl_ClausesValid_pred k a0_0 l0_1 _ gb _ (blk_drewN BK.out _)) HI2.out).mono ?_; rw [HD.out]; rintro e w' ⟨rfl, HB1⟩))
   go_ret
   exact ⟨rfl, below_step (pw_below_drewN HB.out _) HB1⟩
 ·have H1 := H.out
  clear H
  cases t with
  | false =>
   rw [if_neg (by decide)] at H1
   obtain rfl := Option.some.inj H1
   clear H1 c1
   go_enter Try.func24, Try.ntmps24
   go_wp2_with (first
    | ((with_reducible refine gate_dst (N := 1) rfl ?_); refine box_event ?hg (N := 1) ?hd (cs := #[.int .i64 a0_0, .slice A0_1 l0_1.length c0_1]) (t := 29) ?hr ?_; (case hd => rfl); (case hg => rfl); (case hr => first | (go_simp; done) | (go_simp; rfl)); intro gb hg w3 hbox hb; have BK := Aside0.mk hbox; have HB := Aside0.mk hb; have hcz0 : w3.cell? ⟨gb, 0, none⟩ = some (.int .i64 a0_0) := (blk_cell BK.out 0).trans rfl; have hcz1 : w3.cell? ⟨gb, 1, none⟩ = some (.slice A0_1 l0_1.length c0_1) := (blk_cell BK.out 1).trans rfl; have hfz0 := blk_frozen BK.out 0; have hfz1 := blk_frozen BK.out 1; clear hg hbox hb)
    | (go_at_call 60; (with_reducible refine (impl_in.calls a0_0 0 700 false _ HI.out).mono ?_); rintro e w' ⟨rfl, ⟨nd, rfl⟩⟩))
   go_ret
   exact ⟨rfl, pw_below_drewN HB.out _⟩
  | true =>
   have c2 : ¬ ((l0_1.length : Int) ≤ 2500) := fun h => c1 ⟨rfl, h⟩
   rw [if_pos rfl, if_neg c2] at H1
   obtain rfl := Option.some.inj H1
   have c2b0 : decide ((l0_1.length : Int) ≤ 2500) = false := decide_eq_false c2
   clear H1 c1 c2
   go_enter Try.func24, Try.ntmps24
   go_wp2_with (first
    | ((with_reducible refine gate_dst (N := 1) rfl ?_); refine box_event ?hg (N := 1) ?hd (cs := #[.int .i64 a0_0, .slice A0_1 l0_1.length c0_1]) (t := 29) ?hr ?_; (case hd => rfl); (case hg => rfl); (case hr => first | (go_simp; done) | (go_simp; rfl)); intro gb hg w3 hbox hb; have BK := Aside0.mk hbox; have HB := Aside0.mk hb; have hcz0 : w3.cell? ⟨gb, 0, none⟩ = some (.int .i64 a0_0) := (blk_cell BK.out 0).trans rfl; have hcz1 : w3.cell? ⟨gb, 1, none⟩ = some (.slice A0_1 l0_1.length c0_1) := (blk_cell BK.out 1).trans rfl; have hfz0 := blk_frozen BK.out 0; have hfz1 := blk_frozen BK.out 1; clear hg hbox hb)
    | (go_at_call 60; (with_reducible refine (impl_in.calls a0_0 0 700 true _ HI.out).mono ?_); rintro e w' ⟨rfl, ⟨nd, rfl⟩⟩))
   go_ret
   exact ⟨rfl, pw_below_drewN HB.out _⟩

/-! ### impl_freeOk: function 71 -/
def impl_freeOk.f (k : Nat) (a0_0 : Int) (l0_1 : List (List Int)) : Option (Bool) := (impl_ClausesValid.f k a0_0 l0_1).bind fun t221 => (if t221 = true then (some (decide (a0_0 ≤ 20))) else (some false))
theorem impl_freeOk.mono : ∀ a0 a1 k, LeO (impl_freeOk.f k a0 a1) (impl_freeOk.f (k + 1) a0 a1) := by
 intro a0 a1 k
 unfold impl_freeOk.f
 repeat' first
   | (with_reducible exact impl_ClausesValid.mono _ _ _)
   | (with_reducible exact LeO.refl _)
   | (with_reducible exact LeO.none _)
   | (with_reducible refine LeO.ite ?_ ?_)
   | (with_reducible refine LeO.bind ?_ (fun _ => ?_))
   | exact impl_ClausesValid.mono _ _ _
   | exact LeO.none _
   | refine LeO.ite ?_ ?_
   | refine LeO.bind ?_ (fun _ => ?_)
set_option maxHeartbeats 8000000 in
set_option maxRecDepth 100000 in
theorem impl_freeOk.calls (k : Nat) (a0_0 : Int) (A0_1 : Option Addr) (c0_1 : Nat) (l0_1 : List (List Int)) (r : Bool) (w : World) (hr0_1 : Kd.C (Kd.slice 3 (Kd.int .i64)) w A0_1 l0_1.length l0_1) (hc0_1 : l0_1.length ≤ c0_1) (h : impl_freeOk.f k a0_0 l0_1 = some r) :
  Calls Try.prog 71 #[.agg #[.int .i64 a0_0, .slice A0_1 l0_1.length c0_1]] w fun e w' => e = .returned (.bool r) ∧ Below w.heap.size w w' := by
 have hu29 := Try.underlying29
 have HR0_1 := Aside0.mk hr0_1
 have HC0_1 := Aside0.mk hc0_1
 clear hr0_1 hc0_1
 have HB := Aside0.mk (Below.refl w.heap.size w)
 have H : ((impl_ClausesValid.f k a0_0 l0_1).bind fun t221 => (if t221 = true then (some (decide (a0_0 ≤ 20))) else (some false))) = some r := h
 clear h
 replace H := Option.bind_eq_some_iff.mp H
 obtain ⟨t221, A20, H⟩ := H
 replace H : (if t221 = true then (some (decide (a0_0 ≤ 20))) else (some false)) = some r := H
 have A2 := Aside0.mk A20
 clear A20
 by_cases c3 : t221 = true
 ·subst c3
  have H1 : (some (decide (a0_0 ≤ 20))) = some r := by rw [if_pos rfl] at H; exact H
  clear H
  have H := H1
  clear H1
  obtain rfl := Option.some.inj H
  go_enter Try.func71, Try.ntmps71
  go_wp2_with (first | ((with_reducible refine gate_dst (N := 1) rfl ?_); refine box_event ?hg (N := 1) ?hd (cs := #[.int .i64 a0_0, .slice A0_1 l0_1.length c0_1]) (t := 29) ?hr ?_; (case hd => rfl); (case hg => rfl); (case hr => first | (go_simp; done) | (go_simp; rfl)); intro gb220 hg w4 hbox hb; have n0_ := Aside0.mk (below_step (by repeat (first | (with_reducible first | exact HB.out | apply bwA | apply bwN | apply bwD) | exact HB.out)) hb); have n1_ := Aside0.mk (hbox); have n2_ := Aside0.mk ((by rw [hg]; exact (below_size (by repeat (first | (with_reducible first | exact HB.out | apply bwA | apply bwN | apply bwD) | exact HB.out))) : w.heap.size ≤ gb220)); have n3_ := Aside0.mk ((by rw [hg]; exact (below_size (by repeat (first | (with_reducible first | exact HB.out | apply bwA | apply bwN | apply bwD) | exact HB.out))) : w.heap.size ≤ gb220)); clear HB; have HB := n0_; have BK220 := n1_; have GW220 := n2_; have GE220 := n3_; clear n0_ n1_ n2_ n3_; clear hb hbox hg; have hcz5_0 : w4.cell? ⟨gb220, 0, none⟩ = some (.int .i64 a0_0) := (blk_cell BK220.out 0).trans rfl; have hcz5_1 : w4.cell? ⟨gb220, 1, none⟩ = some (.slice A0_1 l0_1.length c0_1) := (blk_cell BK220.out 1).trans rfl; have hfz5_0 := blk_frozen BK220.out 0; have hfz5_1 := blk_frozen BK220.out 1) | ((with_reducible refine gate_callee (f := 24) rfl ?_); refine goesL_ (some 4) rfl rfl Try.func24 (by kernel_rfl) rfl #[.agg #[.int .i64 a0_0, .slice A0_1 l0_1.length c0_1]] rfl (by (try simp only [List.map_toArray, List.map_cons, List.map_nil]); first | done | rfl | (simp only [List.length_drop, List.length_take]; rfl)) ?_; (with_reducible refine (impl_ClausesValid.calls k a0_0 _ _ l0_1 true _ ?side1 ?side2 A2.out).mono ?_); (case side1 => repeat (first | exact (Kd.C_below HR0_1.out HB.out) | (with_reducible refine Kd.C_alloc ?_ _) | (with_reducible refine Kd.C_drewN ?_ _) | (with_reducible refine Kd.C_drew ?_))); (case side2 => exact HC0_1.out); rintro e w6 ⟨rfl, hb⟩; refine ⟨_, rfl, ?_⟩; have n0_ := Aside0.mk (blk_below (g := gb220) (o := .cells #[.int .i64 a0_0, .slice A0_1 l0_1.length c0_1] 29 (0, 0)) (by (with_reducible repeat (first | refine blk_drewN ?_ _ | refine blk_drew ?_ | refine blk_alloc ?_ _)); exact BK220.out) hb); have n1_ := Aside0.mk (below_step (by repeat (first | (with_reducible first | exact HB.out | apply bwA | apply bwN | apply bwD | refine below_set ?_ GE220.out) | exact HB.out)) hb); clear BK220; clear HB; have BK220 := n0_; have HB := n1_; clear n0_ n1_; (try clear hb); (try clear hb2); (try clear hk); (try clear hi); have hcz7_0 : w6.cell? ⟨gb220, 0, none⟩ = some (.int .i64 a0_0) := (blk_cell BK220.out 0).trans rfl; have hcz7_1 : w6.cell? ⟨gb220, 1, none⟩ = some (.slice A0_1 l0_1.length c0_1) := (blk_cell BK220.out 1).trans rfl; have hfz7_0 := blk_frozen BK220.out 0; have hfz7_1 := blk_frozen BK220.out 1))
  go_ret
  exact ⟨by first | rfl | (simp [errW_none, errW_some] <;> rfl) | (simp [*, errW_none, errW_some] <;> rfl), by repeat (first | (with_reducible first | exact HB.out | apply bwA | apply bwN | apply bwD | refine below_set ?_ GE220.out) | exact HB.out)⟩
 ·replace c3 := Bool.eq_false_iff.mpr c3
  subst c3
  have H1 : (some false) = some r := by rw [if_neg (show ¬ (false = true) by decide)] at H; exact H
  clear H
  have H := H1
  clear H1
  obtain rfl := Option.some.inj H
  go_enter Try.func71, Try.ntmps71
  go_wp2_with (first | ((with_reducible refine gate_dst (N := 1) rfl ?_); refine box_event ?hg (N := 1) ?hd (cs := #[.int .i64 a0_0, .slice A0_1 l0_1.length c0_1]) (t := 29) ?hr ?_; (case hd => rfl); (case hg => rfl); (case hr => first | (go_simp; done) | (go_simp; rfl)); intro gb220 hg w8 hbox hb; have n0_ := Aside0.mk (below_step (by repeat (first | (with_reducible first | exact HB.out | apply bwA | apply bwN | apply bwD) | exact HB.out)) hb); have n1_ := Aside0.mk (hbox); have n2_ := Aside0.mk ((by rw [hg]; exact (below_size (by repeat (first | (with_reducible first | exact HB.out | apply bwA | apply bwN | apply bwD) | exact HB.out))) : w.heap.size ≤ gb220)); have n3_ := Aside0.mk ((by rw [hg]; exact (below_size (by repeat (first | (with_reducible first | exact HB.out | apply bwA | apply bwN | apply bwD) | exact HB.out))) : w.heap.size ≤ gb220)); clear HB; have HB := n0_; have BK220 := n1_; have GW220 := n2_; have GE220 := n3_; clear n0_ n1_ n2_ n3_; clear hb hbox hg; have hcz9_0 : w8.cell? ⟨gb220, 0, none⟩ = some (.int .i64 a0_0) := (blk_cell BK220.out 0).trans rfl; have hcz9_1 : w8.cell? ⟨gb220, 1, none⟩ = some (.slice A0_1 l0_1.length c0_1) := (blk_cell BK220.out 1).trans rfl; have hfz9_0 := blk_frozen BK220.out 0; have hfz9_1 := blk_frozen BK220.out 1) | ((with_reducible refine gate_callee (f := 24) rfl ?_); refine goesL_ (some 4) rfl rfl Try.func24 (by kernel_rfl) rfl #[.agg #[.int .i64 a0_0, .slice A0_1 l0_1.length c0_1]] rfl (by (try simp only [List.map_toArray, List.map_cons, List.map_nil]); first | done | rfl | (simp only [List.length_drop, List.length_take]; rfl)) ?_; (with_reducible refine (impl_ClausesValid.calls k a0_0 _ _ l0_1 false _ ?side1 ?side2 A2.out).mono ?_); (case side1 => repeat (first | exact (Kd.C_below HR0_1.out HB.out) | (with_reducible refine Kd.C_alloc ?_ _) | (with_reducible refine Kd.C_drewN ?_ _) | (with_reducible refine Kd.C_drew ?_))); (case side2 => exact HC0_1.out); rintro e w10 ⟨rfl, hb⟩; refine ⟨_, rfl, ?_⟩; have n0_ := Aside0.mk (blk_below (g := gb220) (o := .cells #[.int .i64 a0_0, .slice A0_1 l0_1.length c0_1] 29 (0, 0)) (by (with_reducible repeat (first | refine blk_drewN ?_ _ | refine blk_drew ?_ | refine blk_alloc ?_ _)); exact BK220.out) hb); have n1_ := Aside0.mk (below_step (by repeat (first | (with_reducible first | exact HB.out | apply bwA | apply bwN | apply bwD | refine below_set ?_ GE220.out) | exact HB.out)) hb); clear BK220; clear HB; have BK220 := n0_; have HB := n1_; clear n0_ n1_; (try clear hb); (try clear hb2); (try clear hk); (try clear hi)))
  go_ret
  exact ⟨by first | rfl | (simp [errW_none, errW_some] <;> rfl) | (simp [*, errW_none, errW_some] <;> rfl), by repeat (first | (with_reducible first | exact HB.out | apply bwA | apply bwN | apply bwD | refine below_set ?_ GE220.out) | exact HB.out)⟩

end Go.Proofs.Ytkfmgfdbdgjfiaa.QFnExactCoreOf
