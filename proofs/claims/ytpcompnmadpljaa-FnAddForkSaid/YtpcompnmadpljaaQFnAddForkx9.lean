-- Written by a program of this session (mk.py). Lean checks it.
import Derived.Test.YtpcompnmadpljaaQFnAddForkx0
import Derived.Test.YtpcompnmadpljaaQFnAddForkx5
import Derived.Test.YtpcompnmadpljaaQFnAddForkx7
import Derived.Test.YtpcompnmadpljaaQFnAddForkx8
namespace Go.Proofs.Ytpcompnmadpljaa.QFnAddFork
open Go.RowKit Go.Proofs.YtpcompnmadpljaaW.PrintWords Go.Proofs.YtpcompnmadpljaaW.PrintLast Go.Proofs.YtpcompnmadpljaaW.PrintMore
attribute [local go_sem] max2_int min2_int max_two min_two max_three min_three max_four min_four   -- for this text's walks alone
set_option linter.unusedVariables false
set_option linter.unusedSimpArgs false

/-! ### impl_AddFork: function 14 -/
def impl_AddFork.f (a0_0 : Int) (l0_1 : List S71) (v : Int) (lo : Int) (hi : Int) : Option (Int × List S71 × Int) := (impl_DiagramValid.f a0_0 l0_1).bind fun t0 => if t0 = false then some (0, [], -1) else (impl_in.f v 0 (wrap64 (a0_0 - 1))).bind fun t1 => if t1 = false then some (0, [], -1) else (impl_Diagram_isPlace.f a0_0 l0_1 lo).bind fun t2 => if t2 = false then some (0, [], -1) else (impl_Diagram_isPlace.f a0_0 l0_1 hi).bind fun t3 => if t3 = false then some (0, [], -1) else (impl_Diagram_varAt.f a0_0 l0_1 lo).bind fun t4 => if t4 ≤ v then some (0, [], -1) else (impl_Diagram_varAt.f a0_0 l0_1 hi).bind fun t5 => if t5 ≤ v then some (0, [], -1) else (impl_forkingOf.f a0_0 l0_1).bind fun s => (impl_forking_fork.f s v lo hi).bind fun p => impl_forking_done.f p.1 p.2
set_option maxHeartbeats 8000000 in
set_option maxRecDepth 100000 in
theorem impl_AddFork.calls (a0_0 : Int) (A0_1 : Option Addr) (c0_1 : Nat) (l0_1 : List S71) (v : Int) (lo : Int) (hi : Int) (r1 : Int) (r2 : List S71) (r3 : Int) (w : World) (hr : Kd.C k71 w A0_1 l0_1.length l0_1) (hc : l0_1.length ≤ c0_1) (h : impl_AddFork.f a0_0 l0_1 v lo hi = some (r1, r2, r3)) :
  Calls Try.prog 14 #[.agg #[.int .i64 a0_0, .slice A0_1 l0_1.length c0_1], .int .i64 v, .int .i64 lo, .int .i64 hi] w fun e w' => ∃ v1_ : Value, e = .returned (.tuple #[.agg #[.int .i64 r1, v1_], .int .i64 r3]) ∧ Kd.R k71 71 w' w.heap.size (fun _ => True) v1_ r2 ∧ Below w.heap.size w w' := by
 have hu25 := Try.underlying25
 have HR := Aside0.mk hr
 have HC := Aside0.mk hc
 unfold impl_AddFork.f at h
 clear hr hc
 obtain ⟨t0, h0, h_⟩ := Option.bind_eq_some_iff.mp h
 clear h
 have h := h_
 have T0 := Aside0.mk h0
 clear h0 h_
 cases t0 with
 | false =>
  rw [if_pos rfl] at h
  simp only [Option.some.injEq, Prod.mk.injEq] at h
  obtain ⟨rfl, rfl, rfl⟩ := h
  go_enter Try.func14, Try.ntmps14
  go_wp2_with (first | ((with_reducible refine gate_dst (N := 4) rfl ?_); refine box_event ?hg (N := 4) ?hd (cs := #[.int .i64 a0_0, .slice A0_1 l0_1.length c0_1]) (t := 25) ?hr ?_; (case hd => rfl); (case hg => rfl); (case hr => first | (go_simp; done) | (go_simp; rfl)); intro g0 hg0 w1 hbox hb; have BD1 := Aside0.mk hbox; have HB1 := Aside0.mk hb; clear hg0 hbox hb) | ((with_reducible refine gate_dst (N := 8) rfl ?_); refine box_event ?hg (N := 8) ?hd (cs := #[.int .i64 0, .slice none 0 0]) (t := 25) ?hr ?_; (case hd => rfl); (case hg => rfl); (case hr => first | (go_simp; done) | (go_simp; rfl)); intro gr hgr w2 hbox hb; have GR := Aside0.mk (show w.heap.size ≤ gr by rw [hgr]; exact HB1.out.size); have BR2 := Aside0.mk hbox; have BD2 := Aside0.mk (blk_below BD1.out hb); have HB2 := Aside0.mk (below_step HB1.out hb); have d20 : w2.cell? ⟨g0, 0, none⟩ = some (.int .i64 a0_0) := (blk_cell BD2.out 0).trans rfl; have d21 : w2.cell? ⟨g0, 1, none⟩ = some (.slice A0_1 l0_1.length c0_1) := (blk_cell BD2.out 1).trans rfl; clear hgr hbox hb) | (go_at_call 17; (with_reducible refine (impl_DiagramValid.calls a0_0 A0_1 c0_1 l0_1 false _ (Kd.C_below HR.out HB2.out) HC.out T0.out).mono ?_); rintro e w3 ⟨rfl, hb⟩; have HB3 := Aside0.mk (below_step HB2.out hb); have BD3 := Aside0.mk (blk_below BD2.out hb); have BR3 := Aside0.mk (blk_below BR2.out hb); have d30 : w3.cell? ⟨g0, 0, none⟩ = some (.int .i64 a0_0) := (blk_cell BD3.out 0).trans rfl; have d31 : w3.cell? ⟨g0, 1, none⟩ = some (.slice A0_1 l0_1.length c0_1) := (blk_cell BD3.out 1).trans rfl; have r30 : w3.cell? ⟨gr, 0, none⟩ = some (.int .i64 0) := (blk_cell BR3.out 0).trans rfl; have r31 : w3.cell? ⟨gr, 1, none⟩ = some (.slice none 0 0) := (blk_cell BR3.out 1).trans rfl; have q30 := blk_frozen BR3.out 0; have q31 := blk_frozen BR3.out 1; clear hb))
  refine bodyPost_ret (results_ct rfl _ _ gr 25 #[.int .i64 0, .slice none 0 0] (0, 0) _ rfl (blk_put (blk_put BR3.out 0 _ rfl) 1 _ rfl) Try.underlying25 rfl (by kernel_rfl)) rfl ?_
  exact ⟨_, rfl, Kd.R_nil _ _ _ _ _, below_set (below_set HB3.out GR.out) GR.out⟩
 | true =>
  rw [if_neg (by decide)] at h
  obtain ⟨t1, h1, h_⟩ := Option.bind_eq_some_iff.mp h
  clear h
  have h := h_
  have T1 := Aside0.mk h1
  clear h1 h_
  cases t1 with
  | false =>
   rw [if_pos rfl] at h
   simp only [Option.some.injEq, Prod.mk.injEq] at h
   obtain ⟨rfl, rfl, rfl⟩ := h
   go_enter Try.func14, Try.ntmps14
   go_wp2_with (first | ((with_reducible refine gate_dst (N := 4) rfl ?_); refine box_event ?hg (N := 4) ?hd (cs := #[.int .i64 a0_0, .slice A0_1 l0_1.length c0_1]) (t := 25) ?hr ?_; (case hd => rfl); (case hg => rfl); (case hr => first | (go_simp; done) | (go_simp; rfl)); intro g0 hg0 w1 hbox hb; have BD1 := Aside0.mk hbox; have HB1 := Aside0.mk hb; clear hg0 hbox hb) | ((with_reducible refine gate_dst (N := 8) rfl ?_); refine box_event ?hg (N := 8) ?hd (cs := #[.int .i64 0, .slice none 0 0]) (t := 25) ?hr ?_; (case hd => rfl); (case hg => rfl); (case hr => first | (go_simp; done) | (go_simp; rfl)); intro gr hgr w2 hbox hb; have GR := Aside0.mk (show w.heap.size ≤ gr by rw [hgr]; exact HB1.out.size); have BR2 := Aside0.mk hbox; have BD2 := Aside0.mk (blk_below BD1.out hb); have HB2 := Aside0.mk (below_step HB1.out hb); have d20 : w2.cell? ⟨g0, 0, none⟩ = some (.int .i64 a0_0) := (blk_cell BD2.out 0).trans rfl; have d21 : w2.cell? ⟨g0, 1, none⟩ = some (.slice A0_1 l0_1.length c0_1) := (blk_cell BD2.out 1).trans rfl; clear hgr hbox hb) | (go_at_call 17; (with_reducible refine (impl_DiagramValid.calls a0_0 A0_1 c0_1 l0_1 true _ (Kd.C_below HR.out HB2.out) HC.out T0.out).mono ?_); rintro e w3 ⟨rfl, hb⟩; have HB3 := Aside0.mk (below_step HB2.out hb); have BD3 := Aside0.mk (blk_below BD2.out hb); have BR3 := Aside0.mk (blk_below BR2.out hb); have d30 : w3.cell? ⟨g0, 0, none⟩ = some (.int .i64 a0_0) := (blk_cell BD3.out 0).trans rfl; have d31 : w3.cell? ⟨g0, 1, none⟩ = some (.slice A0_1 l0_1.length c0_1) := (blk_cell BD3.out 1).trans rfl; have r30 : w3.cell? ⟨gr, 0, none⟩ = some (.int .i64 0) := (blk_cell BR3.out 0).trans rfl; have r31 : w3.cell? ⟨gr, 1, none⟩ = some (.slice none 0 0) := (blk_cell BR3.out 1).trans rfl; have q30 := blk_frozen BR3.out 0; have q31 := blk_frozen BR3.out 1; clear hb) | (go_at_call 52; (with_reducible refine (impl_in.calls v 0 (wrap64 (a0_0 - 1)) false _ T1.out).mono ?_); rintro e w4 ⟨rfl, hb⟩; replace hb := hb.below; have HB4 := Aside0.mk (below_step HB3.out hb); have BD4 := Aside0.mk (blk_below BD3.out hb); have BR4 := Aside0.mk (blk_below BR3.out hb); have d40 : w4.cell? ⟨g0, 0, none⟩ = some (.int .i64 a0_0) := (blk_cell BD4.out 0).trans rfl; have d41 : w4.cell? ⟨g0, 1, none⟩ = some (.slice A0_1 l0_1.length c0_1) := (blk_cell BD4.out 1).trans rfl; have r40 : w4.cell? ⟨gr, 0, none⟩ = some (.int .i64 0) := (blk_cell BR4.out 0).trans rfl; have r41 : w4.cell? ⟨gr, 1, none⟩ = some (.slice none 0 0) := (blk_cell BR4.out 1).trans rfl; have q40 := blk_frozen BR4.out 0; have q41 := blk_frozen BR4.out 1; clear hb))
   refine bodyPost_ret (results_ct rfl _ _ gr 25 #[.int .i64 0, .slice none 0 0] (0, 0) _ rfl (blk_put (blk_put BR4.out 0 _ rfl) 1 _ rfl) Try.underlying25 rfl (by kernel_rfl)) rfl ?_
   exact ⟨_, rfl, Kd.R_nil _ _ _ _ _, below_set (below_set HB4.out GR.out) GR.out⟩
  | true =>
   rw [if_neg (by decide)] at h
   obtain ⟨t2, h2, h_⟩ := Option.bind_eq_some_iff.mp h
   clear h
   have h := h_
   have T2 := Aside0.mk h2
   clear h2 h_
   cases t2 with
   | false =>
    rw [if_pos rfl] at h
    simp only [Option.some.injEq, Prod.mk.injEq] at h
    obtain ⟨rfl, rfl, rfl⟩ := h
    go_enter Try.func14, Try.ntmps14
    go_wp2_with (first | ((with_reducible refine gate_dst (N := 4) rfl ?_); refine box_event ?hg (N := 4) ?hd (cs := #[.int .i64 a0_0, .slice A0_1 l0_1.length c0_1]) (t := 25) ?hr ?_; (case hd => rfl); (case hg => rfl); (case hr => first | (go_simp; done) | (go_simp; rfl)); intro g0 hg0 w1 hbox hb; have BD1 := Aside0.mk hbox; have HB1 := Aside0.mk hb; clear hg0 hbox hb) | ((with_reducible refine gate_dst (N := 8) rfl ?_); refine box_event ?hg (N := 8) ?hd (cs := #[.int .i64 0, .slice none 0 0]) (t := 25) ?hr ?_; (case hd => rfl); (case hg => rfl); (case hr => first | (go_simp; done) | (go_simp; rfl)); intro gr hgr w2 hbox hb; have GR := Aside0.mk (show w.heap.size ≤ gr by rw [hgr]; exact HB1.out.size); have BR2 := Aside0.mk hbox; have BD2 := Aside0.mk (blk_below BD1.out hb); have HB2 := Aside0.mk (below_step HB1.out hb); have d20 : w2.cell? ⟨g0, 0, none⟩ = some (.int .i64 a0_0) := (blk_cell BD2.out 0).trans rfl; have d21 : w2.cell? ⟨g0, 1, none⟩ = some (.slice A0_1 l0_1.length c0_1) := (blk_cell BD2.out 1).trans rfl; clear hgr hbox hb) | (go_at_call 17; (with_reducible refine (impl_DiagramValid.calls a0_0 A0_1 c0_1 l0_1 true _ (Kd.C_below HR.out HB2.out) HC.out T0.out).mono ?_); rintro e w3 ⟨rfl, hb⟩; have HB3 := Aside0.mk (below_step HB2.out hb); have BD3 := Aside0.mk (blk_below BD2.out hb); have BR3 := Aside0.mk (blk_below BR2.out hb); have d30 : w3.cell? ⟨g0, 0, none⟩ = some (.int .i64 a0_0) := (blk_cell BD3.out 0).trans rfl; have d31 : w3.cell? ⟨g0, 1, none⟩ = some (.slice A0_1 l0_1.length c0_1) := (blk_cell BD3.out 1).trans rfl; have r30 : w3.cell? ⟨gr, 0, none⟩ = some (.int .i64 0) := (blk_cell BR3.out 0).trans rfl; have r31 : w3.cell? ⟨gr, 1, none⟩ = some (.slice none 0 0) := (blk_cell BR3.out 1).trans rfl; have q30 := blk_frozen BR3.out 0; have q31 := blk_frozen BR3.out 1; clear hb) | (go_at_call 52; (with_reducible refine (impl_in.calls v 0 (wrap64 (a0_0 - 1)) true _ T1.out).mono ?_); rintro e w4 ⟨rfl, hb⟩; replace hb := hb.below; have HB4 := Aside0.mk (below_step HB3.out hb); have BD4 := Aside0.mk (blk_below BD3.out hb); have BR4 := Aside0.mk (blk_below BR3.out hb); have d40 : w4.cell? ⟨g0, 0, none⟩ = some (.int .i64 a0_0) := (blk_cell BD4.out 0).trans rfl; have d41 : w4.cell? ⟨g0, 1, none⟩ = some (.slice A0_1 l0_1.length c0_1) := (blk_cell BD4.out 1).trans rfl; have r40 : w4.cell? ⟨gr, 0, none⟩ = some (.int .i64 0) := (blk_cell BR4.out 0).trans rfl; have r41 : w4.cell? ⟨gr, 1, none⟩ = some (.slice none 0 0) := (blk_cell BR4.out 1).trans rfl; have q40 := blk_frozen BR4.out 0; have q41 := blk_frozen BR4.out 1; clear hb) | (go_at_call 53; (with_reducible refine (impl_Diagram_isPlace.calls a0_0 A0_1 c0_1 l0_1 lo false _ (Kd.C_below HR.out HB4.out) HC.out T2.out).mono ?_); rintro e w5 ⟨rfl, hb⟩; have HB5 := Aside0.mk (below_step HB4.out hb); have BD5 := Aside0.mk (blk_below BD4.out hb); have BR5 := Aside0.mk (blk_below BR4.out hb); have d50 : w5.cell? ⟨g0, 0, none⟩ = some (.int .i64 a0_0) := (blk_cell BD5.out 0).trans rfl; have d51 : w5.cell? ⟨g0, 1, none⟩ = some (.slice A0_1 l0_1.length c0_1) := (blk_cell BD5.out 1).trans rfl; have r50 : w5.cell? ⟨gr, 0, none⟩ = some (.int .i64 0) := (blk_cell BR5.out 0).trans rfl; have r51 : w5.cell? ⟨gr, 1, none⟩ = some (.slice none 0 0) := (blk_cell BR5.out 1).trans rfl; have q50 := blk_frozen BR5.out 0; have q51 := blk_frozen BR5.out 1; clear hb))
    refine bodyPost_ret (results_ct rfl _ _ gr 25 #[.int .i64 0, .slice none 0 0] (0, 0) _ rfl (blk_put (blk_put BR5.out 0 _ rfl) 1 _ rfl) Try.underlying25 rfl (by kernel_rfl)) rfl ?_
    exact ⟨_, rfl, Kd.R_nil _ _ _ _ _, below_set (below_set HB5.out GR.out) GR.out⟩
   | true =>
    rw [if_neg (by decide)] at h
    obtain ⟨t3, h3, h_⟩ := Option.bind_eq_some_iff.mp h
    clear h
    have h := h_
    have T3 := Aside0.mk h3
    clear h3 h_
    cases t3 with
    | false =>
     rw [if_pos rfl] at h
     simp only [Option.some.injEq, Prod.mk.injEq] at h
     obtain ⟨rfl, rfl, rfl⟩ := h
     go_enter Try.func14, Try.ntmps14
     go_wp2_with (first | ((with_reducible refine gate_dst (N := 4) rfl ?_); refine box_event ?hg (N := 4) ?hd (cs := #[.int .i64 a0_0, .slice A0_1 l0_1.length c0_1]) (t := 25) ?hr ?_; (case hd => rfl); (case hg => rfl); (case hr => first | (go_simp; done) | (go_simp; rfl)); intro g0 hg0 w1 hbox hb; have BD1 := Aside0.mk hbox; have HB1 := Aside0.mk hb; clear hg0 hbox hb) | ((with_reducible refine gate_dst (N := 8) rfl ?_); refine box_event ?hg (N := 8) ?hd (cs := #[.int .i64 0, .slice none 0 0]) (t := 25) ?hr ?_; (case hd => rfl); (case hg => rfl); (case hr => first | (go_simp; done) | (go_simp; rfl)); intro gr hgr w2 hbox hb; have GR := Aside0.mk (show w.heap.size ≤ gr by rw [hgr]; exact HB1.out.size); have BR2 := Aside0.mk hbox; have BD2 := Aside0.mk (blk_below BD1.out hb); have HB2 := Aside0.mk (below_step HB1.out hb); have d20 : w2.cell? ⟨g0, 0, none⟩ = some (.int .i64 a0_0) := (blk_cell BD2.out 0).trans rfl; have d21 : w2.cell? ⟨g0, 1, none⟩ = some (.slice A0_1 l0_1.length c0_1) := (blk_cell BD2.out 1).trans rfl; clear hgr hbox hb) | (go_at_call 17; (with_reducible refine (impl_DiagramValid.calls a0_0 A0_1 c0_1 l0_1 true _ (Kd.C_below HR.out HB2.out) HC.out T0.out).mono ?_); rintro e w3 ⟨rfl, hb⟩; have HB3 := Aside0.mk (below_step HB2.out hb); have BD3 := Aside0.mk (blk_below BD2.out hb); have BR3 := Aside0.mk (blk_below BR2.out hb); have d30 : w3.cell? ⟨g0, 0, none⟩ = some (.int .i64 a0_0) := (blk_cell BD3.out 0).trans rfl; have d31 : w3.cell? ⟨g0, 1, none⟩ = some (.slice A0_1 l0_1.length c0_1) := (blk_cell BD3.out 1).trans rfl; have r30 : w3.cell? ⟨gr, 0, none⟩ = some (.int .i64 0) := (blk_cell BR3.out 0).trans rfl; have r31 : w3.cell? ⟨gr, 1, none⟩ = some (.slice none 0 0) := (blk_cell BR3.out 1).trans rfl; have q30 := blk_frozen BR3.out 0; have q31 := blk_frozen BR3.out 1; clear hb) | (go_at_call 52; (with_reducible refine (impl_in.calls v 0 (wrap64 (a0_0 - 1)) true _ T1.out).mono ?_); rintro e w4 ⟨rfl, hb⟩; replace hb := hb.below; have HB4 := Aside0.mk (below_step HB3.out hb); have BD4 := Aside0.mk (blk_below BD3.out hb); have BR4 := Aside0.mk (blk_below BR3.out hb); have d40 : w4.cell? ⟨g0, 0, none⟩ = some (.int .i64 a0_0) := (blk_cell BD4.out 0).trans rfl; have d41 : w4.cell? ⟨g0, 1, none⟩ = some (.slice A0_1 l0_1.length c0_1) := (blk_cell BD4.out 1).trans rfl; have r40 : w4.cell? ⟨gr, 0, none⟩ = some (.int .i64 0) := (blk_cell BR4.out 0).trans rfl; have r41 : w4.cell? ⟨gr, 1, none⟩ = some (.slice none 0 0) := (blk_cell BR4.out 1).trans rfl; have q40 := blk_frozen BR4.out 0; have q41 := blk_frozen BR4.out 1; clear hb) | (go_at_call 53; (with_reducible refine (impl_Diagram_isPlace.calls a0_0 A0_1 c0_1 l0_1 lo true _ (Kd.C_below HR.out HB4.out) HC.out T2.out).mono ?_); rintro e w5 ⟨rfl, hb⟩; have HB5 := Aside0.mk (below_step HB4.out hb); have BD5 := Aside0.mk (blk_below BD4.out hb); have BR5 := Aside0.mk (blk_below BR4.out hb); have d50 : w5.cell? ⟨g0, 0, none⟩ = some (.int .i64 a0_0) := (blk_cell BD5.out 0).trans rfl; have d51 : w5.cell? ⟨g0, 1, none⟩ = some (.slice A0_1 l0_1.length c0_1) := (blk_cell BD5.out 1).trans rfl; have r50 : w5.cell? ⟨gr, 0, none⟩ = some (.int .i64 0) := (blk_cell BR5.out 0).trans rfl; have r51 : w5.cell? ⟨gr, 1, none⟩ = some (.slice none 0 0) := (blk_cell BR5.out 1).trans rfl; have q50 := blk_frozen BR5.out 0; have q51 := blk_frozen BR5.out 1; clear hb) | (go_at_call 53; (with_reducible refine (impl_Diagram_isPlace.calls a0_0 A0_1 c0_1 l0_1 hi false _ (Kd.C_below HR.out HB5.out) HC.out T3.out).mono ?_); rintro e w6 ⟨rfl, hb⟩; have HB6 := Aside0.mk (below_step HB5.out hb); have BD6 := Aside0.mk (blk_below BD5.out hb); have BR6 := Aside0.mk (blk_below BR5.out hb); have d60 : w6.cell? ⟨g0, 0, none⟩ = some (.int .i64 a0_0) := (blk_cell BD6.out 0).trans rfl; have d61 : w6.cell? ⟨g0, 1, none⟩ = some (.slice A0_1 l0_1.length c0_1) := (blk_cell BD6.out 1).trans rfl; have r60 : w6.cell? ⟨gr, 0, none⟩ = some (.int .i64 0) := (blk_cell BR6.out 0).trans rfl; have r61 : w6.cell? ⟨gr, 1, none⟩ = some (.slice none 0 0) := (blk_cell BR6.out 1).trans rfl; have q60 := blk_frozen BR6.out 0; have q61 := blk_frozen BR6.out 1; clear hb))
     refine bodyPost_ret (results_ct rfl _ _ gr 25 #[.int .i64 0, .slice none 0 0] (0, 0) _ rfl (blk_put (blk_put BR6.out 0 _ rfl) 1 _ rfl) Try.underlying25 rfl (by kernel_rfl)) rfl ?_
     exact ⟨_, rfl, Kd.R_nil _ _ _ _ _, below_set (below_set HB6.out GR.out) GR.out⟩
    | true =>
     rw [if_neg (by decide)] at h
     obtain ⟨t4, h4, h_⟩ := Option.bind_eq_some_iff.mp h
     clear h
     have h := h_
     have T4 := Aside0.mk h4
     clear h4 h_
     by_cases c4 : t4 ≤ v
     ·rw [if_pos c4] at h
      have e4 : decide (t4 ≤ v) = true := decide_eq_true c4
      clear c4
      simp only [Option.some.injEq, Prod.mk.injEq] at h
      obtain ⟨rfl, rfl, rfl⟩ := h
      go_enter Try.func14, Try.ntmps14
      go_wp2_with (first | ((with_reducible refine gate_dst (N := 4) rfl ?_); refine box_event ?hg (N := 4) ?hd (cs := #[.int .i64 a0_0, .slice A0_1 l0_1.length c0_1]) (t := 25) ?hr ?_; (case hd => rfl); (case hg => rfl); (case hr => first | (go_simp; done) | (go_simp; rfl)); intro g0 hg0 w1 hbox hb; have BD1 := Aside0.mk hbox; have HB1 := Aside0.mk hb; clear hg0 hbox hb) | ((with_reducible refine gate_dst (N := 8) rfl ?_); refine box_event ?hg (N := 8) ?hd (cs := #[.int .i64 0, .slice none 0 0]) (t := 25) ?hr ?_; (case hd => rfl); (case hg => rfl); (case hr => first | (go_simp; done) | (go_simp; rfl)); intro gr hgr w2 hbox hb; have GR := Aside0.mk (show w.heap.size ≤ gr by rw [hgr]; exact HB1.out.size); have BR2 := Aside0.mk hbox; have BD2 := Aside0.mk (blk_below BD1.out hb); have HB2 := Aside0.mk (below_step HB1.out hb); have d20 : w2.cell? ⟨g0, 0, none⟩ = some (.int .i64 a0_0) := (blk_cell BD2.out 0).trans rfl; have d21 : w2.cell? ⟨g0, 1, none⟩ = some (.slice A0_1 l0_1.length c0_1) := (blk_cell BD2.out 1).trans rfl; clear hgr hbox hb) | (go_at_call 17; (with_reducible refine (impl_DiagramValid.calls a0_0 A0_1 c0_1 l0_1 true _ (Kd.C_below HR.out HB2.out) HC.out T0.out).mono ?_); rintro e w3 ⟨rfl, hb⟩; have HB3 := Aside0.mk (below_step HB2.out hb); have BD3 := Aside0.mk (blk_below BD2.out hb); have BR3 := Aside0.mk (blk_below BR2.out hb); have d30 : w3.cell? ⟨g0, 0, none⟩ = some (.int .i64 a0_0) := (blk_cell BD3.out 0).trans rfl; have d31 : w3.cell? ⟨g0, 1, none⟩ = some (.slice A0_1 l0_1.length c0_1) := (blk_cell BD3.out 1).trans rfl; have r30 : w3.cell? ⟨gr, 0, none⟩ = some (.int .i64 0) := (blk_cell BR3.out 0).trans rfl; have r31 : w3.cell? ⟨gr, 1, none⟩ = some (.slice none 0 0) := (blk_cell BR3.out 1).trans rfl; have q30 := blk_frozen BR3.out 0; have q31 := blk_frozen BR3.out 1; clear hb) | (go_at_call 52; (with_reducible refine (impl_in.calls v 0 (wrap64 (a0_0 - 1)) true _ T1.out).mono ?_); rintro e w4 ⟨rfl, hb⟩; replace hb := hb.below; have HB4 := Aside0.mk (below_step HB3.out hb); have BD4 := Aside0.mk (blk_below BD3.out hb); have BR4 := Aside0.mk (blk_below BR3.out hb); have d40 : w4.cell? ⟨g0, 0, none⟩ = some (.int .i64 a0_0) := (blk_cell BD4.out 0).trans rfl; have d41 : w4.cell? ⟨g0, 1, none⟩ = some (.slice A0_1 l0_1.length c0_1) := (blk_cell BD4.out 1).trans rfl; have r40 : w4.cell? ⟨gr, 0, none⟩ = some (.int .i64 0) := (blk_cell BR4.out 0).trans rfl; have r41 : w4.cell? ⟨gr, 1, none⟩ = some (.slice none 0 0) := (blk_cell BR4.out 1).trans rfl; have q40 := blk_frozen BR4.out 0; have q41 := blk_frozen BR4.out 1; clear hb) | (go_at_call 53; (with_reducible refine (impl_Diagram_isPlace.calls a0_0 A0_1 c0_1 l0_1 lo true _ (Kd.C_below HR.out HB4.out) HC.out T2.out).mono ?_); rintro e w5 ⟨rfl, hb⟩; have HB5 := Aside0.mk (below_step HB4.out hb); have BD5 := Aside0.mk (blk_below BD4.out hb); have BR5 := Aside0.mk (blk_below BR4.out hb); have d50 : w5.cell? ⟨g0, 0, none⟩ = some (.int .i64 a0_0) := (blk_cell BD5.out 0).trans rfl; have d51 : w5.cell? ⟨g0, 1, none⟩ = some (.slice A0_1 l0_1.length c0_1) := (blk_cell BD5.out 1).trans rfl; have r50 : w5.cell? ⟨gr, 0, none⟩ = some (.int .i64 0) := (blk_cell BR5.out 0).trans rfl; have r51 : w5.cell? ⟨gr, 1, none⟩ = some (.slice none 0 0) := (blk_cell BR5.out 1).trans rfl; have q50 := blk_frozen BR5.out 0; have q51 := blk_frozen BR5.out 1; clear hb) | (go_at_call 53; (with_reducible refine (impl_Diagram_isPlace.calls a0_0 A0_1 c0_1 l0_1 hi true _ (Kd.C_below HR.out HB5.out) HC.out T3.out).mono ?_); rintro e w6 ⟨rfl, hb⟩; have HB6 := Aside0.mk (below_step HB5.out hb); have BD6 := Aside0.mk (blk_below BD5.out hb); have BR6 := Aside0.mk (blk_below BR5.out hb); have d60 : w6.cell? ⟨g0, 0, none⟩ = some (.int .i64 a0_0) := (blk_cell BD6.out 0).trans rfl; have d61 : w6.cell? ⟨g0, 1, none⟩ = some (.slice A0_1 l0_1.length c0_1) := (blk_cell BD6.out 1).trans rfl; have r60 : w6.cell? ⟨gr, 0, none⟩ = some (.int .i64 0) := (blk_cell BR6.out 0).trans rfl; have r61 : w6.cell? ⟨gr, 1, none⟩ = some (.slice none 0 0) := (blk_cell BR6.out 1).trans rfl; have q60 := blk_frozen BR6.out 0; have q61 := blk_frozen BR6.out 1; clear hb) | (go_at_call 54; (with_reducible refine (impl_Diagram_varAt.calls a0_0 A0_1 c0_1 l0_1 lo t4 _ (Kd.C_below HR.out HB6.out) HC.out T4.out).mono ?_); rintro e w7 ⟨rfl, hb⟩; have HB7 := Aside0.mk (below_step HB6.out hb); have BD7 := Aside0.mk (blk_below BD6.out hb); have BR7 := Aside0.mk (blk_below BR6.out hb); have d70 : w7.cell? ⟨g0, 0, none⟩ = some (.int .i64 a0_0) := (blk_cell BD7.out 0).trans rfl; have d71 : w7.cell? ⟨g0, 1, none⟩ = some (.slice A0_1 l0_1.length c0_1) := (blk_cell BD7.out 1).trans rfl; have r70 : w7.cell? ⟨gr, 0, none⟩ = some (.int .i64 0) := (blk_cell BR7.out 0).trans rfl; have r71 : w7.cell? ⟨gr, 1, none⟩ = some (.slice none 0 0) := (blk_cell BR7.out 1).trans rfl; have q70 := blk_frozen BR7.out 0; have q71 := blk_frozen BR7.out 1; clear hb))
      refine bodyPost_ret (results_ct rfl _ _ gr 25 #[.int .i64 0, .slice none 0 0] (0, 0) _ rfl (blk_put (blk_put BR7.out 0 _ rfl) 1 _ rfl) Try.underlying25 rfl (by kernel_rfl)) rfl ?_
      exact ⟨_, rfl, Kd.R_nil _ _ _ _ _, below_set (below_set HB7.out GR.out) GR.out⟩
     ·rw [if_neg c4] at h
      have e4 : decide (t4 ≤ v) = false := decide_eq_false c4
      clear c4
      obtain ⟨t5, h5, h_⟩ := Option.bind_eq_some_iff.mp h
      clear h
      have h := h_
      have T5 := Aside0.mk h5
      clear h5 h_
      by_cases c5 : t5 ≤ v
      ·rw [if_pos c5] at h
       have e5 : decide (t5 ≤ v) = true := decide_eq_true c5
       clear c5
       simp only [Option.some.injEq, Prod.mk.injEq] at h
       obtain ⟨rfl, rfl, rfl⟩ := h
       go_enter Try.func14, Try.ntmps14
       go_wp2_with (first | ((with_reducible refine gate_dst (N := 4) rfl ?_); refine box_event ?hg (N := 4) ?hd (cs := #[.int .i64 a0_0, .slice A0_1 l0_1.length c0_1]) (t := 25) ?hr ?_; (case hd => rfl); (case hg => rfl); (case hr => first | (go_simp; done) | (go_simp; rfl)); intro g0 hg0 w1 hbox hb; have BD1 := Aside0.mk hbox; have HB1 := Aside0.mk hb; clear hg0 hbox hb) | ((with_reducible refine gate_dst (N := 8) rfl ?_); refine box_event ?hg (N := 8) ?hd (cs := #[.int .i64 0, .slice none 0 0]) (t := 25) ?hr ?_; (case hd => rfl); (case hg => rfl); (case hr => first | (go_simp; done) | (go_simp; rfl)); intro gr hgr w2 hbox hb; have GR := Aside0.mk (show w.heap.size ≤ gr by rw [hgr]; exact HB1.out.size); have BR2 := Aside0.mk hbox; have BD2 := Aside0.mk (blk_below BD1.out hb); have HB2 := Aside0.mk (below_step HB1.out hb); have d20 : w2.cell? ⟨g0, 0, none⟩ = some (.int .i64 a0_0) := (blk_cell BD2.out 0).trans rfl; have d21 : w2.cell? ⟨g0, 1, none⟩ = some (.slice A0_1 l0_1.length c0_1) := (blk_cell BD2.out 1).trans rfl; clear hgr hbox hb) | (go_at_call 17; (with_reducible refine (impl_DiagramValid.calls a0_0 A0_1 c0_1 l0_1 true _ (Kd.C_below HR.out HB2.out) HC.out T0.out).mono ?_); rintro e w3 ⟨rfl, hb⟩; have HB3 := Aside0.mk (below_step HB2.out hb); have BD3 := Aside0.mk (blk_below BD2.out hb); have BR3 := Aside0.mk (blk_below BR2.out hb); have d30 : w3.cell? ⟨g0, 0, none⟩ = some (.int .i64 a0_0) := (blk_cell BD3.out 0).trans rfl; have d31 : w3.cell? ⟨g0, 1, none⟩ = some (.slice A0_1 l0_1.length c0_1) := (blk_cell BD3.out 1).trans rfl; have r30 : w3.cell? ⟨gr, 0, none⟩ = some (.int .i64 0) := (blk_cell BR3.out 0).trans rfl; have r31 : w3.cell? ⟨gr, 1, none⟩ = some (.slice none 0 0) := (blk_cell BR3.out 1).trans rfl; have q30 := blk_frozen BR3.out 0; have q31 := blk_frozen BR3.out 1; clear hb) | (go_at_call 52; (with_reducible refine (impl_in.calls v 0 (wrap64 (a0_0 - 1)) true _ T1.out).mono ?_); rintro e w4 ⟨rfl, hb⟩; replace hb := hb.below; have HB4 := Aside0.mk (below_step HB3.out hb); have BD4 := Aside0.mk (blk_below BD3.out hb); have BR4 := Aside0.mk (blk_below BR3.out hb); have d40 : w4.cell? ⟨g0, 0, none⟩ = some (.int .i64 a0_0) := (blk_cell BD4.out 0).trans rfl; have d41 : w4.cell? ⟨g0, 1, none⟩ = some (.slice A0_1 l0_1.length c0_1) := (blk_cell BD4.out 1).trans rfl; have r40 : w4.cell? ⟨gr, 0, none⟩ = some (.int .i64 0) := (blk_cell BR4.out 0).trans rfl; have r41 : w4.cell? ⟨gr, 1, none⟩ = some (.slice none 0 0) := (blk_cell BR4.out 1).trans rfl; have q40 := blk_frozen BR4.out 0; have q41 := blk_frozen BR4.out 1; clear hb) | (go_at_call 53; (with_reducible refine (impl_Diagram_isPlace.calls a0_0 A0_1 c0_1 l0_1 lo true _ (Kd.C_below HR.out HB4.out) HC.out T2.out).mono ?_); rintro e w5 ⟨rfl, hb⟩; have HB5 := Aside0.mk (below_step HB4.out hb); have BD5 := Aside0.mk (blk_below BD4.out hb); have BR5 := Aside0.mk (blk_below BR4.out hb); have d50 : w5.cell? ⟨g0, 0, none⟩ = some (.int .i64 a0_0) := (blk_cell BD5.out 0).trans rfl; have d51 : w5.cell? ⟨g0, 1, none⟩ = some (.slice A0_1 l0_1.length c0_1) := (blk_cell BD5.out 1).trans rfl; have r50 : w5.cell? ⟨gr, 0, none⟩ = some (.int .i64 0) := (blk_cell BR5.out 0).trans rfl; have r51 : w5.cell? ⟨gr, 1, none⟩ = some (.slice none 0 0) := (blk_cell BR5.out 1).trans rfl; have q50 := blk_frozen BR5.out 0; have q51 := blk_frozen BR5.out 1; clear hb) | (go_at_call 53; (with_reducible refine (impl_Diagram_isPlace.calls a0_0 A0_1 c0_1 l0_1 hi true _ (Kd.C_below HR.out HB5.out) HC.out T3.out).mono ?_); rintro e w6 ⟨rfl, hb⟩; have HB6 := Aside0.mk (below_step HB5.out hb); have BD6 := Aside0.mk (blk_below BD5.out hb); have BR6 := Aside0.mk (blk_below BR5.out hb); have d60 : w6.cell? ⟨g0, 0, none⟩ = some (.int .i64 a0_0) := (blk_cell BD6.out 0).trans rfl; have d61 : w6.cell? ⟨g0, 1, none⟩ = some (.slice A0_1 l0_1.length c0_1) := (blk_cell BD6.out 1).trans rfl; have r60 : w6.cell? ⟨gr, 0, none⟩ = some (.int .i64 0) := (blk_cell BR6.out 0).trans rfl; have r61 : w6.cell? ⟨gr, 1, none⟩ = some (.slice none 0 0) := (blk_cell BR6.out 1).trans rfl; have q60 := blk_frozen BR6.out 0; have q61 := blk_frozen BR6.out 1; clear hb) | (go_at_call 54; (with_reducible refine (impl_Diagram_varAt.calls a0_0 A0_1 c0_1 l0_1 lo t4 _ (Kd.C_below HR.out HB6.out) HC.out T4.out).mono ?_); rintro e w7 ⟨rfl, hb⟩; have HB7 := Aside0.mk (below_step HB6.out hb); have BD7 := Aside0.mk (blk_below BD6.out hb); have BR7 := Aside0.mk (blk_below BR6.out hb); have d70 : w7.cell? ⟨g0, 0, none⟩ = some (.int .i64 a0_0) := (blk_cell BD7.out 0).trans rfl; have d71 : w7.cell? ⟨g0, 1, none⟩ = some (.slice A0_1 l0_1.length c0_1) := (blk_cell BD7.out 1).trans rfl; have r70 : w7.cell? ⟨gr, 0, none⟩ = some (.int .i64 0) := (blk_cell BR7.out 0).trans rfl; have r71 : w7.cell? ⟨gr, 1, none⟩ = some (.slice none 0 0) := (blk_cell BR7.out 1).trans rfl; have q70 := blk_frozen BR7.out 0; have q71 := blk_frozen BR7.out 1; clear hb) | (go_at_call 54; (with_reducible refine (impl_Diagram_varAt.calls a0_0 A0_1 c0_1 l0_1 hi t5 _ (Kd.C_below HR.out HB7.out) HC.out T5.out).mono ?_); rintro e w8 ⟨rfl, hb⟩; have HB8 := Aside0.mk (below_step HB7.out hb); have BD8 := Aside0.mk (blk_below BD7.out hb); have BR8 := Aside0.mk (blk_below BR7.out hb); have d80 : w8.cell? ⟨g0, 0, none⟩ = some (.int .i64 a0_0) := (blk_cell BD8.out 0).trans rfl; have d81 : w8.cell? ⟨g0, 1, none⟩ = some (.slice A0_1 l0_1.length c0_1) := (blk_cell BD8.out 1).trans rfl; have r80 : w8.cell? ⟨gr, 0, none⟩ = some (.int .i64 0) := (blk_cell BR8.out 0).trans rfl; have r81 : w8.cell? ⟨gr, 1, none⟩ = some (.slice none 0 0) := (blk_cell BR8.out 1).trans rfl; have q80 := blk_frozen BR8.out 0; have q81 := blk_frozen BR8.out 1; clear hb))
       refine bodyPost_ret (results_ct rfl _ _ gr 25 #[.int .i64 0, .slice none 0 0] (0, 0) _ rfl (blk_put (blk_put BR8.out 0 _ rfl) 1 _ rfl) Try.underlying25 rfl (by kernel_rfl)) rfl ?_
       exact ⟨_, rfl, Kd.R_nil _ _ _ _ _, below_set (below_set HB8.out GR.out) GR.out⟩
      ·rw [if_neg c5] at h
       have e5 : decide (t5 ≤ v) = false := decide_eq_false c5
       clear c5
       obtain ⟨s, hs, h_⟩ := Option.bind_eq_some_iff.mp h
       obtain ⟨⟨s2, r⟩, hp, hd⟩ := Option.bind_eq_some_iff.mp h_
       have TS := Aside0.mk hs
       have TP := Aside0.mk hp
       have TD := Aside0.mk hd
       clear h h_ hs hp hd
       go_enter Try.func14, Try.ntmps14
       go_wp2_with (first | ((with_reducible refine gate_dst (N := 4) rfl ?_); refine box_event ?hg (N := 4) ?hd (cs := #[.int .i64 a0_0, .slice A0_1 l0_1.length c0_1]) (t := 25) ?hr ?_; (case hd => rfl); (case hg => rfl); (case hr => first | (go_simp; done) | (go_simp; rfl)); intro g0 hg0 w1 hbox hb; have BD1 := Aside0.mk hbox; have HB1 := Aside0.mk hb; clear hg0 hbox hb) | ((with_reducible refine gate_dst (N := 8) rfl ?_); refine box_event ?hg (N := 8) ?hd (cs := #[.int .i64 0, .slice none 0 0]) (t := 25) ?hr ?_; (case hd => rfl); (case hg => rfl); (case hr => first | (go_simp; done) | (go_simp; rfl)); intro gr hgr w2 hbox hb; have GR := Aside0.mk (show w.heap.size ≤ gr by rw [hgr]; exact HB1.out.size); have BR2 := Aside0.mk hbox; have BD2 := Aside0.mk (blk_below BD1.out hb); have HB2 := Aside0.mk (below_step HB1.out hb); have d20 : w2.cell? ⟨g0, 0, none⟩ = some (.int .i64 a0_0) := (blk_cell BD2.out 0).trans rfl; have d21 : w2.cell? ⟨g0, 1, none⟩ = some (.slice A0_1 l0_1.length c0_1) := (blk_cell BD2.out 1).trans rfl; clear hgr hbox hb) | (go_at_call 17; (with_reducible refine (impl_DiagramValid.calls a0_0 A0_1 c0_1 l0_1 true _ (Kd.C_below HR.out HB2.out) HC.out T0.out).mono ?_); rintro e w3 ⟨rfl, hb⟩; have HB3 := Aside0.mk (below_step HB2.out hb); have BD3 := Aside0.mk (blk_below BD2.out hb); have BR3 := Aside0.mk (blk_below BR2.out hb); have d30 : w3.cell? ⟨g0, 0, none⟩ = some (.int .i64 a0_0) := (blk_cell BD3.out 0).trans rfl; have d31 : w3.cell? ⟨g0, 1, none⟩ = some (.slice A0_1 l0_1.length c0_1) := (blk_cell BD3.out 1).trans rfl; have r30 : w3.cell? ⟨gr, 0, none⟩ = some (.int .i64 0) := (blk_cell BR3.out 0).trans rfl; have r31 : w3.cell? ⟨gr, 1, none⟩ = some (.slice none 0 0) := (blk_cell BR3.out 1).trans rfl; have q30 := blk_frozen BR3.out 0; have q31 := blk_frozen BR3.out 1; clear hb) | (go_at_call 52; (with_reducible refine (impl_in.calls v 0 (wrap64 (a0_0 - 1)) true _ T1.out).mono ?_); rintro e w4 ⟨rfl, hb⟩; replace hb := hb.below; have HB4 := Aside0.mk (below_step HB3.out hb); have BD4 := Aside0.mk (blk_below BD3.out hb); have BR4 := Aside0.mk (blk_below BR3.out hb); have d40 : w4.cell? ⟨g0, 0, none⟩ = some (.int .i64 a0_0) := (blk_cell BD4.out 0).trans rfl; have d41 : w4.cell? ⟨g0, 1, none⟩ = some (.slice A0_1 l0_1.length c0_1) := (blk_cell BD4.out 1).trans rfl; have r40 : w4.cell? ⟨gr, 0, none⟩ = some (.int .i64 0) := (blk_cell BR4.out 0).trans rfl; have r41 : w4.cell? ⟨gr, 1, none⟩ = some (.slice none 0 0) := (blk_cell BR4.out 1).trans rfl; have q40 := blk_frozen BR4.out 0; have q41 := blk_frozen BR4.out 1; clear hb) | (go_at_call 53; (with_reducible refine (impl_Diagram_isPlace.calls a0_0 A0_1 c0_1 l0_1 lo true _ (Kd.C_below HR.out HB4.out) HC.out T2.out).mono ?_); rintro e w5 ⟨rfl, hb⟩; have HB5 := Aside0.mk (below_step HB4.out hb); have BD5 := Aside0.mk (blk_below BD4.out hb); have BR5 := Aside0.mk (blk_below BR4.out hb); have d50 : w5.cell? ⟨g0, 0, none⟩ = some (.int .i64 a0_0) := (blk_cell BD5.out 0).trans rfl; have d51 : w5.cell? ⟨g0, 1, none⟩ = some (.slice A0_1 l0_1.length c0_1) := (blk_cell BD5.out 1).trans rfl; have r50 : w5.cell? ⟨gr, 0, none⟩ = some (.int .i64 0) := (blk_cell BR5.out 0).trans rfl; have r51 : w5.cell? ⟨gr, 1, none⟩ = some (.slice none 0 0) := (blk_cell BR5.out 1).trans rfl; have q50 := blk_frozen BR5.out 0; have q51 := blk_frozen BR5.out 1; clear hb) | (go_at_call 53; (with_reducible refine (impl_Diagram_isPlace.calls a0_0 A0_1 c0_1 l0_1 hi true _ (Kd.C_below HR.out HB5.out) HC.out T3.out).mono ?_); rintro e w6 ⟨rfl, hb⟩; have HB6 := Aside0.mk (below_step HB5.out hb); have BD6 := Aside0.mk (blk_below BD5.out hb); have BR6 := Aside0.mk (blk_below BR5.out hb); have d60 : w6.cell? ⟨g0, 0, none⟩ = some (.int .i64 a0_0) := (blk_cell BD6.out 0).trans rfl; have d61 : w6.cell? ⟨g0, 1, none⟩ = some (.slice A0_1 l0_1.length c0_1) := (blk_cell BD6.out 1).trans rfl; have r60 : w6.cell? ⟨gr, 0, none⟩ = some (.int .i64 0) := (blk_cell BR6.out 0).trans rfl; have r61 : w6.cell? ⟨gr, 1, none⟩ = some (.slice none 0 0) := (blk_cell BR6.out 1).trans rfl; have q60 := blk_frozen BR6.out 0; have q61 := blk_frozen BR6.out 1; clear hb) | (go_at_call 54; (with_reducible refine (impl_Diagram_varAt.calls a0_0 A0_1 c0_1 l0_1 lo t4 _ (Kd.C_below HR.out HB6.out) HC.out T4.out).mono ?_); rintro e w7 ⟨rfl, hb⟩; have HB7 := Aside0.mk (below_step HB6.out hb); have BD7 := Aside0.mk (blk_below BD6.out hb); have BR7 := Aside0.mk (blk_below BR6.out hb); have d70 : w7.cell? ⟨g0, 0, none⟩ = some (.int .i64 a0_0) := (blk_cell BD7.out 0).trans rfl; have d71 : w7.cell? ⟨g0, 1, none⟩ = some (.slice A0_1 l0_1.length c0_1) := (blk_cell BD7.out 1).trans rfl; have r70 : w7.cell? ⟨gr, 0, none⟩ = some (.int .i64 0) := (blk_cell BR7.out 0).trans rfl; have r71 : w7.cell? ⟨gr, 1, none⟩ = some (.slice none 0 0) := (blk_cell BR7.out 1).trans rfl; have q70 := blk_frozen BR7.out 0; have q71 := blk_frozen BR7.out 1; clear hb) | (go_at_call 54; (with_reducible refine (impl_Diagram_varAt.calls a0_0 A0_1 c0_1 l0_1 hi t5 _ (Kd.C_below HR.out HB7.out) HC.out T5.out).mono ?_); rintro e w8 ⟨rfl, hb⟩; have HB8 := Aside0.mk (below_step HB7.out hb); have BD8 := Aside0.mk (blk_below BD7.out hb); have BR8 := Aside0.mk (blk_below BR7.out hb); have d80 : w8.cell? ⟨g0, 0, none⟩ = some (.int .i64 a0_0) := (blk_cell BD8.out 0).trans rfl; have d81 : w8.cell? ⟨g0, 1, none⟩ = some (.slice A0_1 l0_1.length c0_1) := (blk_cell BD8.out 1).trans rfl; have r80 : w8.cell? ⟨gr, 0, none⟩ = some (.int .i64 0) := (blk_cell BR8.out 0).trans rfl; have r81 : w8.cell? ⟨gr, 1, none⟩ = some (.slice none 0 0) := (blk_cell BR8.out 1).trans rfl; have q80 := blk_frozen BR8.out 0; have q81 := blk_frozen BR8.out 1; clear hb) | (go_at_call 55; (with_reducible refine (impl_forkingOf.calls a0_0 A0_1 c0_1 l0_1 s _ (Kd.C_below HR.out HB8.out) HC.out TS.out).mono ?_); rintro e wF ⟨g, rfl, hi, hb⟩; have IF := Aside0.mk hi; have HBF := Aside0.mk hb; clear hi hb) | (go_at_call 57; have hfx_ := (fun k_ (hk : wF.heap.size ≤ k_) => Nat.le_trans HBF.out.size hk); (with_reducible refine (impl_forking_fork.calls s s2 v lo hi r _ g w8 _ HBF.out IF.out hfx_ TP.out).mono ?_); rintro e wG ⟨rfl, hi_, hb_, hk_⟩; have IG := Aside0.mk hi_; have HBG := Aside0.mk hb_; clear hi_ hb_ hk_ hfx_) | (go_at_call 56; (with_reducible refine (impl_forking_done.calls s2 r r1 r2 r3 _ _ g _ IG.out TD.out).mono ?_); rintro e wD ⟨v1, rfl, hR, hb⟩; obtain ⟨A5, c5, rfl⟩ := Kd.R_slice hR; have HBD := Aside0.mk (below_then HBG.out HBG.out.size hb); have BRD := Aside0.mk (blk_below BR8.out HBD.out); have RD := Aside0.mk (Kd.R_lower hR (Nat.le_trans HB8.out.size HBG.out.size)); have r90 : wD.cell? ⟨gr, 0, none⟩ = some (.int .i64 0) := (blk_cell BRD.out 0).trans rfl; have r91 : wD.cell? ⟨gr, 1, none⟩ = some (.slice none 0 0) := (blk_cell BRD.out 1).trans rfl; have q90 := blk_frozen BRD.out 0; have q91 := blk_frozen BRD.out 1; clear hR hb))
       refine bodyPost_ret (results_ct rfl _ _ gr 25 #[.int .i64 r1, .slice A5 r2.length c5] (0, 0) _ rfl (blk_put (blk_put BRD.out 0 _ rfl) 1 _ rfl) Try.underlying25 rfl (by kernel_rfl)) rfl ?_
       exact ⟨_, rfl, Kd.R_mono (Kd.R_far (p := ⟨gr, 1, none⟩) (Kd.R_far (p := ⟨gr, 0, none⟩) (Kd.R_types RD.out BRD.out (by decide)) (fun _ hk => hk.2) _) (fun _ hk => hk.2) _) (fun _ _ => trivial), below_set (below_set (below_step HB8.out HBD.out) GR.out) GR.out⟩

/-! ### spec_l8Var: function 99 -/
def spec_l8Var.f (a0_0 : Int) (l0_1 : List (S71)) (a1 : Int) : Option (Int) := if a1 < 2 then (some a0_0) else (if 0 ≤ (wrap64 (a1 - 2)) then (if (wrap64 (a1 - 2)) < (l0_1.length : Int) then (some ((rd_T71 l0_1 (wrap64 (a1 - 2))).f0)) else (none)) else (none))
set_option maxHeartbeats 8000000 in
set_option maxRecDepth 100000 in
theorem spec_l8Var.calls (a0_0 : Int) (A0_1 : Option Addr) (c0_1 : Nat) (l0_1 : List (S71)) (a1 : Int) (r : Int) (w : World) (hr0_1 : Kd.C k71 w A0_1 l0_1.length l0_1) (hc0_1 : l0_1.length ≤ c0_1) (h : spec_l8Var.f a0_0 l0_1 a1 = some r) :
  Calls Try.prog 99 #[.agg #[.int .i64 a0_0, .slice A0_1 l0_1.length c0_1], .int .i64 a1] w fun e w' => e = .returned (.int .i64 r) ∧ Below w.heap.size w w' := by
 have hu25 := Try.underlying25
 have HR0_1 := Aside0.mk hr0_1
 have HC0_1 := Aside0.mk hc0_1
 clear hr0_1 hc0_1
 have HB := Aside0.mk (Below.refl w.heap.size w)
 have H : (if a1 < 2 then (some a0_0) else (if 0 ≤ (wrap64 (a1 - 2)) then (if (wrap64 (a1 - 2)) < (l0_1.length : Int) then (some ((rd_T71 l0_1 (wrap64 (a1 - 2))).f0)) else (none)) else (none))) = some r := h
 clear h
 by_cases c3 : a1 < 2
 ·rw [if_pos c3] at H
  have c3b0 : decide (a1 < 2) = true := decide_eq_true c3
  clear c3
  obtain rfl := Option.some.inj H
  go_enter Try.func99, Try.ntmps99
  go_wp2_with (first | ((with_reducible refine gate_dst (N := 2) rfl ?_); refine box_event ?hg (N := 2) ?hd (cs := #[.int .i64 a0_0, .slice A0_1 l0_1.length c0_1]) (t := 25) ?hr ?_; (case hd => rfl); (case hg => rfl); (case hr => first | (go_simp; done) | (go_simp; rfl)); intro gb235 hg w4 hbox hb; have n0_ := Aside0.mk (below_step (by repeat (first | (with_reducible first | exact HB.out | apply bwA | apply bwN | apply bwD) | exact HB.out)) hb); have n1_ := Aside0.mk (hbox); have n2_ := Aside0.mk ((by rw [hg]; exact (below_size (by repeat (first | (with_reducible first | exact HB.out | apply bwA | apply bwN | apply bwD) | exact HB.out))) : w.heap.size ≤ gb235)); have n3_ := Aside0.mk ((by rw [hg]; exact (below_size (by repeat (first | (with_reducible first | exact HB.out | apply bwA | apply bwN | apply bwD) | exact HB.out))) : w.heap.size ≤ gb235)); clear HB; have HB := n0_; have BK235 := n1_; have GW235 := n2_; have GE235 := n3_; clear n0_ n1_ n2_ n3_; clear hb hbox hg; have hcz5_0 : w4.cell? ⟨gb235, 0, none⟩ = some (.int .i64 a0_0) := (blk_cell BK235.out 0).trans rfl; have hcz5_1 : w4.cell? ⟨gb235, 1, none⟩ = some (.slice A0_1 l0_1.length c0_1) := (blk_cell BK235.out 1).trans rfl; have hfz5_0 := blk_frozen BK235.out 0; have hfz5_1 := blk_frozen BK235.out 1))
  go_ret
  exact ⟨ers, by repeat (first | (with_reducible first | exact HB.out | apply bwA | apply bwN | apply bwD | refine below_set ?_ GE235.out) | exact HB.out)⟩
 ·rw [if_neg c3] at H
  have c3b0 : decide (a1 < 2) = false := decide_eq_false c3
  clear c3
  obtain ⟨ji6, hji6⟩ : ∃ j_ : Int, (wrap64 (a1 - 2)) = j_ := ⟨_, rfl⟩
  replace H : (if 0 ≤ (ji6) then (if (ji6) < (l0_1.length : Int) then (some ((rd_T71 l0_1 (ji6)).f0)) else (none)) else (none)) = some r := by first | (rw [hji6] at H; exact H) | (simp only [hji6] at H ⊢; exact H)
  have hji6w : (IntKind.i64.wrap (a1 - 2)) = ji6 := (i64_w _).trans hji6
  by_cases c7 : 0 ≤ (ji6)
  ·rw [if_pos c7] at H
   have c7b0 : decide (0 ≤ (ji6)) = true := decide_eq_true c7
   clear c7
   by_cases c8 : (ji6) < (l0_1.length : Int)
   ·rw [if_pos c8] at H
    have c8b0 : decide ((ji6) < (l0_1.length : Int)) = true := decide_eq_true c8
    clear c8
    obtain rfl := Option.some.inj H
    go_enter Try.func99, Try.ntmps99
    go_wp2_with (first | ((with_reducible refine gate_dst (N := 2) rfl ?_); refine box_event ?hg (N := 2) ?hd (cs := #[.int .i64 a0_0, .slice A0_1 l0_1.length c0_1]) (t := 25) ?hr ?_; (case hd => rfl); (case hg => rfl); (case hr => first | (go_simp; done) | (go_simp; rfl)); intro gb235 hg w9 hbox hb; have n0_ := Aside0.mk (below_step (by repeat (first | (with_reducible first | exact HB.out | apply bwA | apply bwN | apply bwD) | exact HB.out)) hb); have n1_ := Aside0.mk (hbox); have n2_ := Aside0.mk ((by rw [hg]; exact (below_size (by repeat (first | (with_reducible first | exact HB.out | apply bwA | apply bwN | apply bwD) | exact HB.out))) : w.heap.size ≤ gb235)); have n3_ := Aside0.mk ((by rw [hg]; exact (below_size (by repeat (first | (with_reducible first | exact HB.out | apply bwA | apply bwN | apply bwD) | exact HB.out))) : w.heap.size ≤ gb235)); clear HB; have HB := n0_; have BK235 := n1_; have GW235 := n2_; have GE235 := n3_; clear n0_ n1_ n2_ n3_; clear hb hbox hg; have hcz10_0 : w9.cell? ⟨gb235, 0, none⟩ = some (.int .i64 a0_0) := (blk_cell BK235.out 0).trans rfl; have hcz10_1 : w9.cell? ⟨gb235, 1, none⟩ = some (.slice A0_1 l0_1.length c0_1) := (blk_cell BK235.out 1).trans rfl; have hfz10_0 := blk_frozen BK235.out 0; have hfz10_1 := blk_frozen BK235.out 1; have p236 : 0 ≤ ((ji6) : Int) := oda; have q236 : (ji6) < (l0_1.length : Int) := oda; obtain ⟨ad236, e236, hx236_0, hx236_1, hx236_2⟩ := at_T71 HR0_1.out (ji6) p236 q236; cases e236; replace hx236_0 := bct HB.out hx236_0; replace hx236_1 := bct HB.out hx236_1; replace hx236_2 := bct HB.out hx236_2; replace p236 := eq_true p236; replace q236 := eq_true q236))
    go_ret
    exact ⟨by first | rfl | (simp [errW_none, errW_some] <;> rfl) | (simp only [← hji6]; first | rfl | (simp [errW_none, errW_some] <;> rfl)) | (simp [*, errW_none, errW_some] <;> rfl), by repeat (first | (with_reducible first | exact HB.out | apply bwA | apply bwN | apply bwD | refine below_set ?_ GE235.out) | exact HB.out)⟩
   ·rw [if_neg c8] at H
    exact absurd H (by simp)
  ·rw [if_neg c7] at H
   exact absurd H (by simp)

/-! ### spec_l8Fork: function 59 -/
def spec_l8Fork.j0 : Nat → Bool → Int → List (S71) → Int → Int → Int → Option (Bool)
 | 0, _, _, _, _, _, _ => none
 | k + 1, x27, x238000, x238001, x239000, x239001, x239002 => if x27 = true then (some false) else ((spec_l8Var.f x238000 x238001 x239001).bind fun t242 => (if t242 > x239000 then ((spec_l8Var.f x238000 x238001 x239002).bind fun t243 => (some (decide (t243 > x239000)))) else (some false)))
def spec_l8Fork.f (k : Nat) (a0_0 : Int) (l0_1 : List (S71)) (a1_0 : Int) (a1_1 : Int) (a1_2 : Int) (a2 : Int) : Option (Bool) := (spec_l1In.f a1_0 0 (wrap64 (a0_0 - 1))).bind fun t239 => (if t239 = true then ((spec_l1In.f a1_1 0 a2).bind fun t240 => (if t240 = true then ((spec_l1In.f a1_2 0 a2).bind fun t241 => (spec_l8Fork.j0 k (!t241) a0_0 l0_1 a1_0 a1_1 a1_2)) else (spec_l8Fork.j0 k true a0_0 l0_1 a1_0 a1_1 a1_2))) else (spec_l8Fork.j0 k true a0_0 l0_1 a1_0 a1_1 a1_2))
theorem spec_l8Fork.mono_l : ∀ k, (∀ y0 y1 y2 y3 y4 y5, LeO (spec_l8Fork.j0 k y0 y1 y2 y3 y4 y5) (spec_l8Fork.j0 (k + 1) y0 y1 y2 y3 y4 y5))
 | 0 => fun _ _ _ _ _ _ r h => by simp [spec_l8Fork.j0] at h
 | k + 1 => by
  have ih0 := spec_l8Fork.mono_l k
  ·intro y0 y1 y2 y3 y4 y5
   unfold spec_l8Fork.j0
   repeat' first
   | (with_reducible exact ih0 _ _ _ _ _ _)
   | (with_reducible exact LeO.refl _)
   | (with_reducible exact LeO.none _)
   | (with_reducible refine LeO.ite ?_ ?_)
   | (with_reducible refine LeO.bind ?_ (fun _ => ?_))
   | exact ih0 _ _ _ _ _ _
   | exact LeO.none _
   | refine LeO.ite ?_ ?_
   | refine LeO.bind ?_ (fun _ => ?_)
theorem spec_l8Fork.mono : ∀ a0 a1 a2 a3 a4 a5 k, LeO (spec_l8Fork.f k a0 a1 a2 a3 a4 a5) (spec_l8Fork.f (k + 1) a0 a1 a2 a3 a4 a5) := by
 intro a0 a1 a2 a3 a4 a5 k
 have ih0 := spec_l8Fork.mono_l k
 unfold spec_l8Fork.f
 repeat' first
   | (with_reducible exact ih0 _ _ _ _ _ _)
   | (with_reducible exact LeO.refl _)
   | (with_reducible exact LeO.none _)
   | (with_reducible refine LeO.ite ?_ ?_)
   | (with_reducible refine LeO.bind ?_ (fun _ => ?_))
   | exact ih0 _ _ _ _ _ _
   | exact LeO.none _
   | refine LeO.ite ?_ ?_
   | refine LeO.bind ?_ (fun _ => ?_)
def spec_l8Fork.T3 : Bool × List (List Nat × List Nat) := (true, [([], []), ([], []), ([1], [1]), ([0, 2], [0, 2]), ([], []), ([4], [4]), ([3, 5], [3, 5]), ([6, 3], [6]), ([7], [7]), ([7], [7]), ([9, 7], [7, 9]), ([8, 10, 7, 7], [7, 8, 10]), ([7], [7]), ([12, 7], [7, 12]), ([11, 13, 7], [7, 11, 13]), ([7, 14], [7, 14]), ([15, 11, 0, 1, 2, 3, 4, 5, 6, 7, 8, 9, 10, 11, 12, 13, 14, 15], [15])])
def spec_l8Fork.B3 : List Nat := [0, 0, 2, 7, 0, 16, 63, 127, 255, 255, 767, 2047, 255, 4351, 16383, 32767, 65535]
theorem spec_l8Fork.tab3 : rtab .any (opsOf Try.f59 3) = spec_l8Fork.T3 := by kernel_rfl
theorem spec_l8Fork.bits3 : waitsOk spec_l8Fork.T3.2 spec_l8Fork.B3 = true := by kernel_rfl
set_option maxHeartbeats 8000000 in
set_option maxRecDepth 100000 in
theorem spec_l8Fork.calls (k : Nat) (a0_0 : Int) (A0_1 : Option Addr) (c0_1 : Nat) (l0_1 : List (S71)) (a1_0 : Int) (a1_1 : Int) (a1_2 : Int) (a2 : Int) (r : Bool) (w : World) (hr0_1 : Kd.C k71 w A0_1 l0_1.length l0_1) (hc0_1 : l0_1.length ≤ c0_1) (h : spec_l8Fork.f k a0_0 l0_1 a1_0 a1_1 a1_2 a2 = some r) :
  Calls Try.prog 59 #[.agg #[.int .i64 a0_0, .slice A0_1 l0_1.length c0_1], .agg #[.int .i64 a1_0, .int .i64 a1_1, .int .i64 a1_2], .int .i64 a2] w fun e w' => e = .returned (.bool r) ∧ Below w.heap.size w w' := by
 have hu25 := Try.underlying25
 have hu71 := Try.underlying71
 have HR0_1 := Aside0.mk hr0_1
 have HC0_1 := Aside0.mk hc0_1
 clear hr0_1 hc0_1
 have HB := Aside0.mk (Below.refl w.heap.size w)
 have H : ((spec_l1In.f a1_0 0 (wrap64 (a0_0 - 1))).bind fun t239 => (if t239 = true then ((spec_l1In.f a1_1 0 a2).bind fun t240 => (if t240 = true then ((spec_l1In.f a1_2 0 a2).bind fun t241 => (spec_l8Fork.j0 k (!t241) a0_0 l0_1 a1_0 a1_1 a1_2)) else (spec_l8Fork.j0 k true a0_0 l0_1 a1_0 a1_1 a1_2))) else (spec_l8Fork.j0 k true a0_0 l0_1 a1_0 a1_1 a1_2))) = some r := h
 clear h
 have HC4 := Aside0.mk H
 clear H
 go_enter Try.func59, Try.ntmps59
 go_upto_region 1 with (first | ((with_reducible refine gate_dst (N := 3) rfl ?_); refine box_event ?hg (N := 3) ?hd (cs := #[.int .i64 a0_0, .slice A0_1 l0_1.length c0_1]) (t := 25) ?hr ?_; (case hd => rfl); (case hg => rfl); (case hr => first | (go_simp; done) | (go_simp; rfl)); intro gb237 hg w5 hbox hb; have n0_ := Aside0.mk (below_step (by repeat (first | (with_reducible first | exact HB.out | apply bwA | apply bwN | apply bwD) | exact HB.out)) hb); have n1_ := Aside0.mk (hbox); have n2_ := Aside0.mk ((by rw [hg]; exact (below_size (by repeat (first | (with_reducible first | exact HB.out | apply bwA | apply bwN | apply bwD) | exact HB.out))) : w.heap.size ≤ gb237)); have n3_ := Aside0.mk ((by rw [hg]; exact (below_size (by repeat (first | (with_reducible first | exact HB.out | apply bwA | apply bwN | apply bwD) | exact HB.out))) : w.heap.size ≤ gb237)); clear HB; have HB := n0_; have BK237 := n1_; have GW237 := n2_; have GE237 := n3_; clear n0_ n1_ n2_ n3_; clear hb hbox hg) | ((with_reducible refine gate_dst (N := 4) rfl ?_); refine box_event ?hg (N := 4) ?hd (cs := #[.int .i64 a1_0, .int .i64 a1_1, .int .i64 a1_2]) (t := 71) ?hr ?_; (case hd => rfl); (case hg => rfl); (case hr => first | (go_simp; done) | (go_simp; rfl)); intro gb238 hg w6 hbox hb; have n0_ := Aside0.mk (blk_below (g := gb237) (o := .cells #[.int .i64 a0_0, .slice A0_1 l0_1.length c0_1] 25 (0, 0)) (bvK BK237.out) hb); have n1_ := Aside0.mk (below_step (by repeat (first | (with_reducible first | exact HB.out | apply bwA | apply bwN | apply bwD | refine below_set ?_ GE237.out) | exact HB.out)) hb); have n2_ := Aside0.mk (hbox); have n3_ := Aside0.mk ((by rw [hg]; exact (below_size (by repeat (first | (with_reducible first | exact HB.out | apply bwA | apply bwN | apply bwD | refine below_set ?_ GE237.out) | exact HB.out))) : w.heap.size ≤ gb238)); have n4_ := Aside0.mk ((by rw [hg]; exact (below_size (by repeat (first | (with_reducible first | exact HB.out | apply bwA | apply bwN | apply bwD | refine below_set ?_ GE237.out) | exact HB.out))) : w.heap.size ≤ gb238)); have n5_ := Aside0.mk ((by rw [hg]; exact Nat.ne_of_lt (blk_lt (g := gb237) (o := .cells #[.int .i64 a0_0, .slice A0_1 l0_1.length c0_1] 25 (0, 0)) (bvK BK237.out)) : gb237 ≠ gb238)); have n6_ := Aside0.mk ((by rw [hg]; exact Nat.ne_of_gt (blk_lt (g := gb237) (o := .cells #[.int .i64 a0_0, .slice A0_1 l0_1.length c0_1] 25 (0, 0)) (bvK BK237.out)) : gb238 ≠ gb237)); clear BK237; clear HB; have BK237 := n0_; have HB := n1_; have BK238 := n2_; have GW238 := n3_; have GE238 := n4_; have NB237_238 := n5_; have NB238_237 := n6_; clear n0_ n1_ n2_ n3_ n4_ n5_ n6_; clear hb hbox hg))
 (try simp only [Act.put, List.setIfInBounds_toArray, List.set_cons_zero, List.set_cons_succ])
 go_cut [27] (fun v27 wc => ∃ (kq : Nat) (x27_3 : Bool), v27 = .bool x27_3 ∧ Aside0 (spec_l8Fork.j0 kq x27_3 a0_0 l0_1 a1_0 a1_1 a1_2 = some r) ∧ Aside0 (kq ≤ k) ∧ Aside0 (wc.heap[gb237]? = some (.cells #[.int .i64 a0_0, (.slice A0_1 l0_1.length c0_1)] 25 (0, 0))) ∧ Aside0 (wc.heap[gb238]? = some (.cells #[.int .i64 a1_0, .int .i64 a1_1, .int .i64 a1_2] 71 (0, 0))) ∧ Aside0 (Below w.heap.size w wc))
 case first =>
  have H := HC4.out
  clear HC4
  replace H := Option.bind_eq_some_iff.mp H
  obtain ⟨t239, A70, H⟩ := H
  replace H : (if t239 = true then ((spec_l1In.f a1_1 0 a2).bind fun t240 => (if t240 = true then ((spec_l1In.f a1_2 0 a2).bind fun t241 => (spec_l8Fork.j0 k (!t241) a0_0 l0_1 a1_0 a1_1 a1_2)) else (spec_l8Fork.j0 k true a0_0 l0_1 a1_0 a1_1 a1_2))) else (spec_l8Fork.j0 k true a0_0 l0_1 a1_0 a1_1 a1_2)) = some r := H
  have A7 := Aside0.mk A70
  clear A70
  by_cases c8 : t239 = true
  ·subst c8
   have H1 : ((spec_l1In.f a1_1 0 a2).bind fun t240 => (if t240 = true then ((spec_l1In.f a1_2 0 a2).bind fun t241 => (spec_l8Fork.j0 k (!t241) a0_0 l0_1 a1_0 a1_1 a1_2)) else (spec_l8Fork.j0 k true a0_0 l0_1 a1_0 a1_1 a1_2))) = some r := by rw [if_pos rfl] at H; exact H
   clear H
   have H := H1
   clear H1
   replace H := Option.bind_eq_some_iff.mp H
   obtain ⟨t240, A90, H⟩ := H
   replace H : (if t240 = true then ((spec_l1In.f a1_2 0 a2).bind fun t241 => (spec_l8Fork.j0 k (!t241) a0_0 l0_1 a1_0 a1_1 a1_2)) else (spec_l8Fork.j0 k true a0_0 l0_1 a1_0 a1_1 a1_2)) = some r := H
   have A9 := Aside0.mk A90
   clear A90
   by_cases c10 : t240 = true
   ·subst c10
    have H1 : ((spec_l1In.f a1_2 0 a2).bind fun t241 => (spec_l8Fork.j0 k (!t241) a0_0 l0_1 a1_0 a1_1 a1_2)) = some r := by rw [if_pos rfl] at H; exact H
    clear H
    have H := H1
    clear H1
    replace H := Option.bind_eq_some_iff.mp H
    obtain ⟨t241, A110, H⟩ := H
    replace H : (spec_l8Fork.j0 k (!t241) a0_0 l0_1 a1_0 a1_1 a1_2) = some r := H
    have A11 := Aside0.mk A110
    clear A110
    have H' := Aside0.mk H
    clear H
    have hnb12 := NB238_237.out
    have hnc12 := NB237_238.out
    have hcz13_0 : w6.cell? ⟨gb238, 0, none⟩ = some (.int .i64 a1_0) := (blk_cell BK238.out 0).trans rfl
    have hcz13_1 : w6.cell? ⟨gb238, 1, none⟩ = some (.int .i64 a1_1) := (blk_cell BK238.out 1).trans rfl
    have hcz13_2 : w6.cell? ⟨gb238, 2, none⟩ = some (.int .i64 a1_2) := (blk_cell BK238.out 2).trans rfl
    have hfz13_0 := blk_frozen BK238.out 0
    have hfz13_1 := blk_frozen BK238.out 1
    have hfz13_2 := blk_frozen BK238.out 2
    have hcz14_0 : w6.cell? ⟨gb237, 0, none⟩ = some (.int .i64 a0_0) := (blk_cell BK237.out 0).trans rfl
    have hcz14_1 : w6.cell? ⟨gb237, 1, none⟩ = some (.slice A0_1 l0_1.length c0_1) := (blk_cell BK237.out 1).trans rfl
    have hfz14_0 := blk_frozen BK237.out 0
    have hfz14_1 := blk_frozen BK237.out 1
    go_wp2_with (first | ((with_reducible refine gate_callee (f := 65) rfl ?_); refine goesL_ (some 12) rfl rfl Try.func65 (by kernel_rfl) rfl #[.int .i64 a1_0, .int .i64 0, .int .i64 (wrap64 (a0_0 - 1))] rfl lmB ?_; (with_reducible refine (spec_l1In.calls a1_0 0 (wrap64 (a0_0 - 1)) true _ A7.out).mono ?_); rintro e w' ⟨rfl, ⟨nd, rfl⟩⟩; refine ⟨_, rfl, ?_⟩) | (go_at_call 65; (with_reducible refine (spec_l1In.calls a1_1 0 a2 true _ A9.out).mono ?_); rintro e w' ⟨rfl, ⟨nd, rfl⟩⟩) | (go_at_call 65; (with_reducible refine (spec_l1In.calls a1_2 0 a2 t241 _ A11.out).mono ?_); rintro e w' ⟨rfl, ⟨nd, rfl⟩⟩))
    go_meet
    case rel => exact ⟨_, (!t241), rsd, H', ⟨by first | omega | exact Nat.le_refl _⟩, ⟨bvK BK237.out⟩, ⟨bvK BK238.out⟩, ⟨by repeat (first | (with_reducible first | exact HB.out | apply bwA | apply bwN | apply bwD | refine below_set ?_ GE237.out | refine below_set ?_ GE238.out) | exact HB.out)⟩⟩
   ·replace c10 := Bool.eq_false_iff.mpr c10
    subst c10
    have H1 : (spec_l8Fork.j0 k true a0_0 l0_1 a1_0 a1_1 a1_2) = some r := by rw [if_neg (show ¬ (false = true) by decide)] at H; exact H
    clear H
    have H := H1
    clear H1
    have H' := Aside0.mk H
    clear H
    have hnb15 := NB238_237.out
    have hnc15 := NB237_238.out
    have hcz16_0 : w6.cell? ⟨gb238, 0, none⟩ = some (.int .i64 a1_0) := (blk_cell BK238.out 0).trans rfl
    have hcz16_1 : w6.cell? ⟨gb238, 1, none⟩ = some (.int .i64 a1_1) := (blk_cell BK238.out 1).trans rfl
    have hcz16_2 : w6.cell? ⟨gb238, 2, none⟩ = some (.int .i64 a1_2) := (blk_cell BK238.out 2).trans rfl
    have hfz16_0 := blk_frozen BK238.out 0
    have hfz16_1 := blk_frozen BK238.out 1
    have hfz16_2 := blk_frozen BK238.out 2
    have hcz17_0 : w6.cell? ⟨gb237, 0, none⟩ = some (.int .i64 a0_0) := (blk_cell BK237.out 0).trans rfl
    have hcz17_1 : w6.cell? ⟨gb237, 1, none⟩ = some (.slice A0_1 l0_1.length c0_1) := (blk_cell BK237.out 1).trans rfl
    have hfz17_0 := blk_frozen BK237.out 0
    have hfz17_1 := blk_frozen BK237.out 1
    go_wp2_with (first | ((with_reducible refine gate_callee (f := 65) rfl ?_); refine goesL_ (some 12) rfl rfl Try.func65 (by kernel_rfl) rfl #[.int .i64 a1_0, .int .i64 0, .int .i64 (wrap64 (a0_0 - 1))] rfl lmB ?_; (with_reducible refine (spec_l1In.calls a1_0 0 (wrap64 (a0_0 - 1)) true _ A7.out).mono ?_); rintro e w' ⟨rfl, ⟨nd, rfl⟩⟩; refine ⟨_, rfl, ?_⟩) | (go_at_call 65; (with_reducible refine (spec_l1In.calls a1_1 0 a2 false _ A9.out).mono ?_); rintro e w' ⟨rfl, ⟨nd, rfl⟩⟩))
    go_meet
    case rel => exact ⟨_, (true), rsd, H', ⟨by first | omega | exact Nat.le_refl _⟩, ⟨bvK BK237.out⟩, ⟨bvK BK238.out⟩, ⟨by repeat (first | (with_reducible first | exact HB.out | apply bwA | apply bwN | apply bwD | refine below_set ?_ GE237.out | refine below_set ?_ GE238.out) | exact HB.out)⟩⟩
  ·replace c8 := Bool.eq_false_iff.mpr c8
   subst c8
   have H1 : (spec_l8Fork.j0 k true a0_0 l0_1 a1_0 a1_1 a1_2) = some r := by rw [if_neg (show ¬ (false = true) by decide)] at H; exact H
   clear H
   have H := H1
   clear H1
   have H' := Aside0.mk H
   clear H
   have hnb18 := NB238_237.out
   have hnc18 := NB237_238.out
   have hcz19_0 : w6.cell? ⟨gb238, 0, none⟩ = some (.int .i64 a1_0) := (blk_cell BK238.out 0).trans rfl
   have hcz19_1 : w6.cell? ⟨gb238, 1, none⟩ = some (.int .i64 a1_1) := (blk_cell BK238.out 1).trans rfl
   have hcz19_2 : w6.cell? ⟨gb238, 2, none⟩ = some (.int .i64 a1_2) := (blk_cell BK238.out 2).trans rfl
   have hfz19_0 := blk_frozen BK238.out 0
   have hfz19_1 := blk_frozen BK238.out 1
   have hfz19_2 := blk_frozen BK238.out 2
   have hcz20_0 : w6.cell? ⟨gb237, 0, none⟩ = some (.int .i64 a0_0) := (blk_cell BK237.out 0).trans rfl
   have hcz20_1 : w6.cell? ⟨gb237, 1, none⟩ = some (.slice A0_1 l0_1.length c0_1) := (blk_cell BK237.out 1).trans rfl
   have hfz20_0 := blk_frozen BK237.out 0
   have hfz20_1 := blk_frozen BK237.out 1
   go_wp2_with (first | ((with_reducible refine gate_callee (f := 65) rfl ?_); refine goesL_ (some 12) rfl rfl Try.func65 (by kernel_rfl) rfl #[.int .i64 a1_0, .int .i64 0, .int .i64 (wrap64 (a0_0 - 1))] rfl lmB ?_; (with_reducible refine (spec_l1In.calls a1_0 0 (wrap64 (a0_0 - 1)) false _ A7.out).mono ?_); rintro e w' ⟨rfl, ⟨nd, rfl⟩⟩; refine ⟨_, rfl, ?_⟩))
   go_meet
   case rel => exact ⟨_, (true), rsd, H', ⟨by first | omega | exact Nat.le_refl _⟩, ⟨bvK BK237.out⟩, ⟨bvK BK238.out⟩, ⟨by repeat (first | (with_reducible first | exact HB.out | apply bwA | apply bwN | apply bwD | refine below_set ?_ GE237.out | refine below_set ?_ GE238.out) | exact HB.out)⟩⟩
 case rest =>
  clear HC4
  try clear c1
  try clear p2
  try clear c5
  try clear c6
  try clear p6
  try clear c8
  try clear c10
  try clear c12
  try clear c15
  try clear c18
  try clear hcz13_0
  try clear hcz13_1
  try clear hcz13_2
  try clear hcz14_0
  try clear hcz14_1
  try clear hcz16_0
  try clear hcz16_1
  try clear hcz16_2
  try clear hcz17_0
  try clear hcz17_1
  try clear hcz19_0
  try clear hcz19_1
  try clear hcz19_2
  try clear hcz20_0
  try clear hcz20_1
  try clear hfz13_0
  try clear hfz13_1
  try clear hfz13_2
  try clear hfz14_0
  try clear hfz14_1
  try clear hfz16_0
  try clear hfz16_1
  try clear hfz16_2
  try clear hfz17_0
  try clear hfz17_1
  try clear hfz19_0
  try clear hfz19_1
  try clear hfz19_2
  try clear hfz20_0
  try clear hfz20_1
  obtain ⟨kq, x27_3, rfl, HA, HJ3, BK237, BK238, HB⟩ := hcut
  cases kq with
  | zero => exact absurd HA.out (by simp [spec_l8Fork.j0])
  | succ kj3 =>
   have H := HA.out
   clear HA
   simp only [spec_l8Fork.j0] at H
   by_cases c21 : x27_3 = true
   ·subst c21
    have H1 : (some false) = some r := by rw [if_pos rfl] at H; exact H
    clear H
    have H := H1
    clear H1
    obtain rfl := Option.some.inj H
    go_wp2
    go_ret
    exact ⟨ers, by repeat (first | (with_reducible first | exact HB.out | apply bwA | apply bwN | apply bwD | refine below_set ?_ GE237.out | refine below_set ?_ GE238.out) | exact HB.out)⟩
   ·replace c21 := Bool.eq_false_iff.mpr c21
    subst c21
    have H1 : ((spec_l8Var.f a0_0 l0_1 a1_1).bind fun t242 => (if t242 > a1_0 then ((spec_l8Var.f a0_0 l0_1 a1_2).bind fun t243 => (some (decide (t243 > a1_0)))) else (some false))) = some r := by rw [if_neg (show ¬ (false = true) by decide)] at H; exact H
    clear H
    have H := H1
    clear H1
    replace H := Option.bind_eq_some_iff.mp H
    obtain ⟨t242, A220, H⟩ := H
    replace H : (if t242 > a1_0 then ((spec_l8Var.f a0_0 l0_1 a1_2).bind fun t243 => (some (decide (t243 > a1_0)))) else (some false)) = some r := H
    have A22 := Aside0.mk A220
    clear A220
    by_cases c23 : t242 > a1_0
    ·rw [if_pos c23] at H
     have c23b0 : decide (a1_0 < t242) = true := decide_eq_true c23
     clear c23
     replace H := Option.bind_eq_some_iff.mp H
     obtain ⟨t243, A240, H⟩ := H
     replace H : (some (decide (t243 > a1_0))) = some r := H
     have A24 := Aside0.mk A240
     clear A240
     obtain rfl := Option.some.inj H
     try go_wp2
     have n0_ := Aside0.mk (blk_drew BK237.out)
     have n1_ := Aside0.mk (blk_drew BK238.out)
     have n2_ := Aside0.mk (below_drew1 HB.out)
     clear BK237
     clear BK238
     clear HB
     have BK237 := n0_
     have BK238 := n1_
     have HB := n2_
     clear n0_ n1_ n2_
     refine start_ (n := 17) (S := fun w' => w'.cell? ⟨gb237, 0, none⟩ = some (.int .i64 a0_0) ∧ w'.cell? ⟨gb237, 1, none⟩ = some (.slice A0_1 l0_1.length c0_1) ∧ w'.cell? ⟨gb238, 0, none⟩ = some (.int .i64 a1_0) ∧ w'.cell? ⟨gb238, 1, none⟩ = some (.int .i64 a1_1) ∧ w'.cell? ⟨gb238, 2, none⟩ = some (.int .i64 a1_2)) (ds := []) (Pt.bm 17 0) (by kernel_rfl) rfl rfl ⟨(blk_cell BK237.out 0).trans rfl, (blk_cell BK237.out 1).trans rfl, (blk_cell BK238.out 0).trans rfl, (blk_cell BK238.out 1).trans rfl, (blk_cell BK238.out 2).trans rfl⟩ (fun hHeld => ?_); refine with_tabW spec_l8Fork.tab3 spec_l8Fork.bits3 (fun HT_ HW_ => ?_)
     generalize wc.drew = w25 at BK237 BK238 HB hHeld ⊢
     refine Pt.pu 1 (some 29) (Pt.bm 17 2) (any_of HT_.out (by kernel_rfl)) ?_
     refine Pt.pu 4 (some 32) (Pt.bm 17 18) (any_of HT_.out (by kernel_rfl)) ?_
     refine Pt.tk 0 (some 28) (Pt.bm 17 19) rfl rfl (take_ofW HT_.out HW_.out (by kernel_rfl)) hHeld (Or.inl ⟨by rfl, by rintro w' ⟨s0, s1, s2, s3, s4⟩; go_simp; with_reducible rfl⟩) ?_
     refine Pt.tk 2 (some 30) (Pt.bm 17 23) rfl rfl (take_ofW HT_.out HW_.out (by kernel_rfl)) hHeld (Or.inl ⟨by rfl, by rintro w' ⟨s0, s1, s2, s3, s4⟩; go_simp; with_reducible rfl⟩) ?_
     refine Pt.tk 5 (some 33) (Pt.bm 17 55) rfl rfl (take_ofW HT_.out HW_.out (by kernel_rfl)) hHeld (Or.inl ⟨by rfl, by rintro w' ⟨s0, s1, s2, s3, s4⟩; go_simp; with_reducible rfl⟩) ?_
     refine one_ (i := 3) (N := some 31) (Pt.bm 17 63) rfl rfl (one_of HT_.out (by kernel_rfl)) (by decide) (fun K hK => ?_)
     refine goes_ Try.func99 (by kernel_rfl) rfl #[.agg #[.int .i64 a0_0, .slice A0_1 l0_1.length c0_1], .int .i64 a1_1] (by rfl) rfl rfl lmB ?_
     with_reducible refine (spec_l8Var.calls a0_0 _ _ l0_1 a1_1 t242 _ ?side1 ?side2 A22.out).mono ?_
     (case side1 => repeat (first | exact (Kd.C_below HR0_1.out HB.out) | (with_reducible refine Kd.C_alloc ?_ _) | (with_reducible refine Kd.C_drewN ?_ _) | (with_reducible refine Kd.C_drew ?_)))
     (case side2 => exact HC0_1.out)
     rintro e w26 ⟨rfl, hb⟩
     refine ⟨_, rfl, ?_⟩
     have n0_ := Aside0.mk (blk_below (g := gb237) (o := .cells #[.int .i64 a0_0, .slice A0_1 l0_1.length c0_1] 25 (0, 0)) (bvK BK237.out) hb)
     have n1_ := Aside0.mk (blk_below (g := gb238) (o := .cells #[.int .i64 a1_0, .int .i64 a1_1, .int .i64 a1_2] 71 (0, 0)) (bvK BK238.out) hb)
     have n2_ := Aside0.mk (below_step (by repeat (first | (with_reducible first | exact HB.out | apply bwA | apply bwN | apply bwD | refine below_set ?_ GE237.out | refine below_set ?_ GE238.out) | exact HB.out)) hb)
     clear BK237
     clear BK238
     clear HB
     have BK237 := n0_
     have BK238 := n1_
     have HB := n2_
     clear n0_ n1_ n2_
     (try clear hb)
     (try clear hb2)
     (try clear hk)
     (try clear hi)
     refine hK.out _ _ ⟨(blk_cell BK237.out 0).trans rfl, (blk_cell BK237.out 1).trans rfl, (blk_cell BK238.out 0).trans rfl, (blk_cell BK238.out 1).trans rfl, (blk_cell BK238.out 2).trans rfl⟩ (fun hHeld => ?_)
     clear hK K
     refine norm_ (a' := ?_) ?_ ?_
     rotate_left
     ·show Act.put _ (some 31) _ = _
      simp only [Act.put, List.setIfInBounds_toArray, List.set_cons_zero, List.set_cons_succ, i64_w, i32_w]
      rfl
     refine Pt.pu 6 (some 34) (Pt.bm 17 127) (any_of HT_.out (by kernel_rfl)) ?_
     refine Pt.pu 7 (some 35) (Pt.bm 17 255) (any_of HT_.out (by kernel_rfl)) ?_
     refine Pt.pu 9 (some 37) (Pt.bm 17 767) (any_of HT_.out (by kernel_rfl)) ?_
     refine Pt.pu 12 (some 40) (Pt.bm 17 4863) (any_of HT_.out (by kernel_rfl)) ?_
     refine Pt.tk 8 (some 36) (Pt.bm 17 5119) rfl rfl (take_ofW HT_.out HW_.out (by kernel_rfl)) hHeld (Or.inl ⟨by rfl, by rintro w' ⟨s0, s1, s2, s3, s4⟩; go_simp; with_reducible rfl⟩) ?_
     refine Pt.tk 10 (some 38) (Pt.bm 17 6143) rfl rfl (take_ofW HT_.out HW_.out (by kernel_rfl)) hHeld (Or.inl ⟨by rfl, by rintro w' ⟨s0, s1, s2, s3, s4⟩; go_simp; with_reducible rfl⟩) ?_
     refine Pt.tk 13 (some 41) (Pt.bm 17 14335) rfl rfl (take_ofW HT_.out HW_.out (by kernel_rfl)) hHeld (Or.inl ⟨by rfl, by rintro w' ⟨s0, s1, s2, s3, s4⟩; go_simp; with_reducible rfl⟩) ?_
     refine one_ (i := 11) (N := some 39) (Pt.bm 17 16383) rfl rfl (one_of HT_.out (by kernel_rfl)) (by decide) (fun K hK => ?_)
     refine goes_ Try.func99 (by kernel_rfl) rfl #[.agg #[.int .i64 a0_0, .slice A0_1 l0_1.length c0_1], .int .i64 a1_2] (by rfl) rfl rfl lmB ?_
     with_reducible refine (spec_l8Var.calls a0_0 _ _ l0_1 a1_2 t243 _ ?side1 ?side2 A24.out).mono ?_
     (case side1 => repeat (first | exact (Kd.C_below HR0_1.out HB.out) | (with_reducible refine Kd.C_alloc ?_ _) | (with_reducible refine Kd.C_drewN ?_ _) | (with_reducible refine Kd.C_drew ?_)))
     (case side2 => exact HC0_1.out)
     rintro e w27 ⟨rfl, hb⟩
     refine ⟨_, rfl, ?_⟩
     have n0_ := Aside0.mk (blk_below (g := gb237) (o := .cells #[.int .i64 a0_0, .slice A0_1 l0_1.length c0_1] 25 (0, 0)) (bvK BK237.out) hb)
     have n1_ := Aside0.mk (blk_below (g := gb238) (o := .cells #[.int .i64 a1_0, .int .i64 a1_1, .int .i64 a1_2] 71 (0, 0)) (bvK BK238.out) hb)
     have n2_ := Aside0.mk (below_step (by repeat (first | (with_reducible first | exact HB.out | apply bwA | apply bwN | apply bwD | refine below_set ?_ GE237.out | refine below_set ?_ GE238.out) | exact HB.out)) hb)
     clear BK237
     clear BK238
     clear HB
     have BK237 := n0_
     have BK238 := n1_
     have HB := n2_
     clear n0_ n1_ n2_
     (try clear hb)
     (try clear hb2)
     (try clear hk)
     (try clear hi)
     refine hK.out _ _ ⟨(blk_cell BK237.out 0).trans rfl, (blk_cell BK237.out 1).trans rfl, (blk_cell BK238.out 0).trans rfl, (blk_cell BK238.out 1).trans rfl, (blk_cell BK238.out 2).trans rfl⟩ (fun hHeld => ?_)
     clear hK K
     refine norm_ (a' := ?_) ?_ ?_
     rotate_left
     ·show Act.put _ (some 39) _ = _
      simp only [Act.put, List.setIfInBounds_toArray, List.set_cons_zero, List.set_cons_succ, i64_w, i32_w]
      rfl
     refine Pt.pu 14 (some 42) (Pt.bm 17 32767) (any_of HT_.out (by kernel_rfl)) ?_
     refine Pt.pu 15 (some 43) (Pt.bm 17 65535) (any_of HT_.out (by kernel_rfl)) ?_
     refine Pt.pu 16 (some 6) (Pt.bm 17 131071) (any_of HT_.out (by kernel_rfl)) ?_
     refine done_ (done_of HT_.out (by kernel_rfl)) ?_
     try go_wp2
     go_ret
     exact ⟨ers, by repeat (first | (with_reducible first | exact HB.out | apply bwA | apply bwN | apply bwD | refine below_set ?_ GE237.out | refine below_set ?_ GE238.out) | exact HB.out)⟩
    ·rw [if_neg c23] at H
     have c23b0 : decide (a1_0 < t242) = false := decide_eq_false c23
     clear c23
     obtain rfl := Option.some.inj H
     try go_wp2
     have n0_ := Aside0.mk (blk_drew BK237.out)
     have n1_ := Aside0.mk (blk_drew BK238.out)
     have n2_ := Aside0.mk (below_drew1 HB.out)
     clear BK237
     clear BK238
     clear HB
     have BK237 := n0_
     have BK238 := n1_
     have HB := n2_
     clear n0_ n1_ n2_
     refine start_ (n := 17) (S := fun w' => w'.cell? ⟨gb237, 0, none⟩ = some (.int .i64 a0_0) ∧ w'.cell? ⟨gb237, 1, none⟩ = some (.slice A0_1 l0_1.length c0_1) ∧ w'.cell? ⟨gb238, 0, none⟩ = some (.int .i64 a1_0) ∧ w'.cell? ⟨gb238, 1, none⟩ = some (.int .i64 a1_1) ∧ w'.cell? ⟨gb238, 2, none⟩ = some (.int .i64 a1_2)) (ds := []) (Pt.bm 17 0) (by kernel_rfl) rfl rfl ⟨(blk_cell BK237.out 0).trans rfl, (blk_cell BK237.out 1).trans rfl, (blk_cell BK238.out 0).trans rfl, (blk_cell BK238.out 1).trans rfl, (blk_cell BK238.out 2).trans rfl⟩ (fun hHeld => ?_); refine with_tabW spec_l8Fork.tab3 spec_l8Fork.bits3 (fun HT_ HW_ => ?_)
     generalize wc.drew = w28 at BK237 BK238 HB hHeld ⊢
     refine Pt.pu 1 (some 29) (Pt.bm 17 2) (any_of HT_.out (by kernel_rfl)) ?_
     refine Pt.pu 4 (some 32) (Pt.bm 17 18) (any_of HT_.out (by kernel_rfl)) ?_
     refine Pt.tk 0 (some 28) (Pt.bm 17 19) rfl rfl (take_ofW HT_.out HW_.out (by kernel_rfl)) hHeld (Or.inl ⟨by rfl, by rintro w' ⟨s0, s1, s2, s3, s4⟩; go_simp; with_reducible rfl⟩) ?_
     refine Pt.tk 2 (some 30) (Pt.bm 17 23) rfl rfl (take_ofW HT_.out HW_.out (by kernel_rfl)) hHeld (Or.inl ⟨by rfl, by rintro w' ⟨s0, s1, s2, s3, s4⟩; go_simp; with_reducible rfl⟩) ?_
     refine Pt.tk 5 (some 33) (Pt.bm 17 55) rfl rfl (take_ofW HT_.out HW_.out (by kernel_rfl)) hHeld (Or.inl ⟨by rfl, by rintro w' ⟨s0, s1, s2, s3, s4⟩; go_simp; with_reducible rfl⟩) ?_
     refine one_ (i := 3) (N := some 31) (Pt.bm 17 63) rfl rfl (one_of HT_.out (by kernel_rfl)) (by decide) (fun K hK => ?_)
     refine goes_ Try.func99 (by kernel_rfl) rfl #[.agg #[.int .i64 a0_0, .slice A0_1 l0_1.length c0_1], .int .i64 a1_1] (by rfl) rfl rfl lmB ?_
     with_reducible refine (spec_l8Var.calls a0_0 _ _ l0_1 a1_1 t242 _ ?side1 ?side2 A22.out).mono ?_
     (case side1 => repeat (first | exact (Kd.C_below HR0_1.out HB.out) | (with_reducible refine Kd.C_alloc ?_ _) | (with_reducible refine Kd.C_drewN ?_ _) | (with_reducible refine Kd.C_drew ?_)))
     (case side2 => exact HC0_1.out)
     rintro e w29 ⟨rfl, hb⟩
     refine ⟨_, rfl, ?_⟩
     have n0_ := Aside0.mk (blk_below (g := gb237) (o := .cells #[.int .i64 a0_0, .slice A0_1 l0_1.length c0_1] 25 (0, 0)) (bvK BK237.out) hb)
     have n1_ := Aside0.mk (blk_below (g := gb238) (o := .cells #[.int .i64 a1_0, .int .i64 a1_1, .int .i64 a1_2] 71 (0, 0)) (bvK BK238.out) hb)
     have n2_ := Aside0.mk (below_step (by repeat (first | (with_reducible first | exact HB.out | apply bwA | apply bwN | apply bwD | refine below_set ?_ GE237.out | refine below_set ?_ GE238.out) | exact HB.out)) hb)
     clear BK237
     clear BK238
     clear HB
     have BK237 := n0_
     have BK238 := n1_
     have HB := n2_
     clear n0_ n1_ n2_
     (try clear hb)
     (try clear hb2)
     (try clear hk)
     (try clear hi)
     refine hK.out _ _ ⟨(blk_cell BK237.out 0).trans rfl, (blk_cell BK237.out 1).trans rfl, (blk_cell BK238.out 0).trans rfl, (blk_cell BK238.out 1).trans rfl, (blk_cell BK238.out 2).trans rfl⟩ (fun hHeld => ?_)
     clear hK K
     refine norm_ (a' := ?_) ?_ ?_
     rotate_left
     ·show Act.put _ (some 31) _ = _
      simp only [Act.put, List.setIfInBounds_toArray, List.set_cons_zero, List.set_cons_succ, i64_w, i32_w]
      rfl
     refine Pt.pu 6 (some 34) (Pt.bm 17 127) (any_of HT_.out (by kernel_rfl)) ?_
     refine Pt.pu 7 (some 35) (Pt.bm 17 255) (any_of HT_.out (by kernel_rfl)) ?_
     refine Pt.pn 8 (some 36) (Pt.bm 17 511) (any_of HT_.out (by kernel_rfl)) ?_
     refine Pt.pn 9 (some 37) (Pt.bm 17 1023) (any_of HT_.out (by kernel_rfl)) ?_
     refine Pt.pn 10 (some 38) (Pt.bm 17 2047) (any_of HT_.out (by kernel_rfl)) ?_
     refine Pt.pn 11 (some 39) (Pt.bm 17 4095) (any_of HT_.out (by kernel_rfl)) ?_
     refine Pt.pn 12 (some 40) (Pt.bm 17 8191) (any_of HT_.out (by kernel_rfl)) ?_
     refine Pt.pn 13 (some 41) (Pt.bm 17 16383) (any_of HT_.out (by kernel_rfl)) ?_
     refine Pt.pn 14 (some 42) (Pt.bm 17 32767) (any_of HT_.out (by kernel_rfl)) ?_
     refine Pt.pu 15 (some 43) (Pt.bm 17 65535) (any_of HT_.out (by kernel_rfl)) ?_
     refine Pt.pu 16 (some 6) (Pt.bm 17 131071) (any_of HT_.out (by kernel_rfl)) ?_
     refine done_ (done_of HT_.out (by kernel_rfl)) ?_
     try go_wp2
     go_ret
     exact ⟨ers, by repeat (first | (with_reducible first | exact HB.out | apply bwA | apply bwN | apply bwD | refine below_set ?_ GE237.out | refine below_set ?_ GE238.out) | exact HB.out)⟩

end Go.Proofs.Ytpcompnmadpljaa.QFnAddFork
