-- Written by a program of this session (mk.py). Lean checks it.
import Derived.Test.YtpcckoljocpchaaQFnFixedx0
import Derived.Test.YtpcckoljocpchaaQFnFixedx1
import Derived.Test.YtpcckoljocpchaaQFnFixedx2
import Derived.Test.YtpcckoljocpchaaQFnFixedx5
namespace Go.Proofs.Ytpcckoljocpchaa.QFnFixed
open Go.RowKit Go.Proofs.YtpcckoljocpchaaW.PrintWords Go.Proofs.YtpcckoljocpchaaW.PrintLast Go.Proofs.YtpcckoljocpchaaW.PrintMore
attribute [local go_sem] max2_int min2_int max_two min_two max_three min_three max_four min_four   -- for this text's walks alone
set_option linter.unusedVariables false
set_option linter.unusedSimpArgs false

/-! ### impl_Fixed: function 25 -/
def impl_Fixed.to0 (n : Nat) : List Int := (List.range n).map (fun i => wrap64 (2 * ((i : Nat) : Int)))
def impl_Fixed.at_ (l : List Int) (e : Int) : Int := Go.bits .xor .i64 (rd l (wrap64 (Int.tdiv e 2))) (Go.bits .and .i64 e 1)
def impl_Fixed.in_ (l : List Int) (e : Int) : Prop := 0 ≤ wrap64 (Int.tdiv e 2) ∧ wrap64 (Int.tdiv e 2) < (l.length : Int)
instance (l : List Int) (e : Int) : Decidable (impl_Fixed.in_ l e) := inferInstanceAs (Decidable (_ ∧ _))
def impl_Fixed.lp : List S92 → BS → List Int → Option (BS × List Int)
 | [], s, l => some (s, l)
 | x :: xs, s, l => if impl_Fixed.in_ l x.f0 ∧ impl_Fixed.in_ l x.f1 ∧ l.length < 1000000000 then (impl_builder_and.f s (impl_Fixed.at_ l x.f0) (impl_Fixed.at_ l x.f1)).bind fun t => impl_Fixed.lp xs t.1 (l ++ [t.2]) else none
theorem impl_Fixed.to0_succ (n : Nat) : impl_Fixed.to0 (n + 1) = impl_Fixed.to0 n ++ [wrap64 (2 * (n : Int))] := by
 unfold impl_Fixed.to0
 rw [List.range_succ, List.map_append]
 rfl
theorem impl_Fixed.to0_len (n : Nat) : (impl_Fixed.to0 n).length = n := by simp [impl_Fixed.to0]
def impl_Fixed.f (k : Nat) (a0_0 : Int) (l0_1 : List S92) (edge : Int) (input : Int) (value : Int) : Option (Int × List S92 × Int) := (impl_CircuitValid.f k a0_0 l0_1).bind fun t0 => if t0 = false then some (0, [], -1) else (impl_Circuit_isEdge.f a0_0 l0_1 edge).bind fun t1 => if t1 = false then some (0, [], -1) else (impl_in.f input 0 (wrap64 (a0_0 - 1))).bind fun t2 => if t2 = false then some (0, [], -1) else (impl_in.f value 0 1).bind fun t3 => if t3 = false then some (0, [], -1) else if (0 ≤ a0_0 ∧ a0_0 ≤ 1000000) ∧ (0 ≤ wrap64 (input + 1) ∧ wrap64 (input + 1) < a0_0 + 1) then (impl_building.f a0_0 []).bind fun s => (impl_Fixed.lp l0_1 s ((impl_Fixed.to0 (a0_0.toNat + 1)).set (wrap64 (input + 1)).toNat value)).bind fun p => if impl_Fixed.in_ p.2 edge then impl_builder_done.f p.1 (impl_Fixed.at_ p.2 edge) else none else none
theorem impl_Fixed.mono : ∀ a0_0 l0_1 edge input value k, LeO (impl_Fixed.f k a0_0 l0_1 edge input value) (impl_Fixed.f (k + 1) a0_0 l0_1 edge input value) := fun a0_0 l0_1 edge input value k => LeO.bind (impl_CircuitValid.mono _ _ k) (fun _ => LeO.ite (LeO.refl _) (LeO.bind (LeO.refl _) (fun _ => LeO.ite (LeO.refl _) (LeO.bind (LeO.refl _) (fun _ => LeO.ite (LeO.refl _) (LeO.bind (LeO.refl _) (fun _ => LeO.ite (LeO.refl _) (LeO.refl _))))))))
set_option maxHeartbeats 8000000 in
set_option maxRecDepth 100000 in
theorem impl_Fixed.calls (k : Nat) (a0_0 : Int) (A0_1 : Option Addr) (c0_1 : Nat) (l0_1 : List S92) (edge : Int) (input : Int) (value : Int) (r1 : Int) (r2 : List S92) (r3 : Int) (w : World) (hr : Kd.C k92 w A0_1 l0_1.length l0_1) (hc : l0_1.length ≤ c0_1) (h : impl_Fixed.f k a0_0 l0_1 edge input value = some (r1, r2, r3)) :
  Calls Try.prog 25 #[.agg #[.int .i64 a0_0, .slice A0_1 l0_1.length c0_1], .int .i64 edge, .int .i64 input, .int .i64 value] w fun e w' => ∃ v1_ : Value, e = .returned (.tuple #[.agg #[.int .i64 r1, v1_], .int .i64 r3]) ∧ Kd.R k92 92 w' w.heap.size (fun _ => True) v1_ r2 ∧ Below w.heap.size w w' := by
 have hu28 := Try.underlying28
 have HR := Aside0.mk hr
 have HC := Aside0.mk hc
 unfold impl_Fixed.f at h
 clear hr hc
 obtain ⟨t0, h0, h_⟩ := Option.bind_eq_some_iff.mp h
 clear h
 have h := h_
 have T0 := Aside0.mk h0
 clear h0 h_
 cases t0 with
 | false =>
  rw [if_pos rfl] at h
  simp only [Option.some.injEq, Prod.mk.injEq] at h
  obtain ⟨rfl, rfl, rfl⟩ := h
  go_enter Try.func25, Try.ntmps25
  go_wp2_with (first | ((with_reducible refine gate_dst (N := 4) rfl ?_); refine box_event ?hg (N := 4) ?hd (cs := #[.int .i64 a0_0, .slice A0_1 l0_1.length c0_1]) (t := 28) ?hr ?_; (case hd => rfl); (case hg => rfl); (case hr => first | (go_simp; done) | (go_simp; rfl)); intro g0 hg0 w1 hbox hb; have BD1 := Aside0.mk hbox; have HB1 := Aside0.mk hb; clear hg0 hbox hb) | ((with_reducible refine gate_dst (N := 8) rfl ?_); refine box_event ?hg (N := 8) ?hd (cs := #[.int .i64 0, .slice none 0 0]) (t := 28) ?hr ?_; (case hd => rfl); (case hg => rfl); (case hr => first | (go_simp; done) | (go_simp; rfl)); intro gr hgr w2 hbox hb; have GR := Aside0.mk (show w.heap.size ≤ gr by rw [hgr]; exact HB1.out.size); have BR2 := Aside0.mk hbox; have BD2 := Aside0.mk (blk_below BD1.out hb); have HB2 := Aside0.mk (below_step HB1.out hb); have d20 : w2.cell? ⟨g0, 0, none⟩ = some (.int .i64 a0_0) := (blk_cell BD2.out 0).trans rfl; have d21 : w2.cell? ⟨g0, 1, none⟩ = some (.slice A0_1 l0_1.length c0_1) := (blk_cell BD2.out 1).trans rfl; clear hgr hbox hb) | (go_at_call 23; (with_reducible refine (impl_CircuitValid.calls k a0_0 A0_1 c0_1 l0_1 false _ (Kd.C_below HR.out HB2.out) HC.out T0.out).mono ?_); rintro e w3 ⟨rfl, hb⟩; have HB3 := Aside0.mk (below_step HB2.out hb); have BD3 := Aside0.mk (blk_below BD2.out hb); have BR3 := Aside0.mk (blk_below BR2.out hb); have d30 : w3.cell? ⟨g0, 0, none⟩ = some (.int .i64 a0_0) := (blk_cell BD3.out 0).trans rfl; have d31 : w3.cell? ⟨g0, 1, none⟩ = some (.slice A0_1 l0_1.length c0_1) := (blk_cell BD3.out 1).trans rfl; have r30 : w3.cell? ⟨gr, 0, none⟩ = some (.int .i64 0) := (blk_cell BR3.out 0).trans rfl; have r31 : w3.cell? ⟨gr, 1, none⟩ = some (.slice none 0 0) := (blk_cell BR3.out 1).trans rfl; have q30 := blk_frozen BR3.out 0; have q31 := blk_frozen BR3.out 1; clear hb))
  refine bodyPost_ret (results_ct rfl _ _ gr 28 #[.int .i64 0, .slice none 0 0] (0, 0) _ rfl (blk_put (blk_put BR3.out 0 _ rfl) 1 _ rfl) Try.underlying28 rfl (by kernel_rfl)) rfl ?_
  exact ⟨_, rfl, Kd.R_nil _ _ _ _ _, below_set (below_set HB3.out GR.out) GR.out⟩
 | true =>
  rw [if_neg (by decide)] at h
  obtain ⟨t1, h1, h_⟩ := Option.bind_eq_some_iff.mp h
  clear h
  have h := h_
  have T1 := Aside0.mk h1
  clear h1 h_
  cases t1 with
  | false =>
   rw [if_pos rfl] at h
   simp only [Option.some.injEq, Prod.mk.injEq] at h
   obtain ⟨rfl, rfl, rfl⟩ := h
   go_enter Try.func25, Try.ntmps25
   go_wp2_with (first | ((with_reducible refine gate_dst (N := 4) rfl ?_); refine box_event ?hg (N := 4) ?hd (cs := #[.int .i64 a0_0, .slice A0_1 l0_1.length c0_1]) (t := 28) ?hr ?_; (case hd => rfl); (case hg => rfl); (case hr => first | (go_simp; done) | (go_simp; rfl)); intro g0 hg0 w1 hbox hb; have BD1 := Aside0.mk hbox; have HB1 := Aside0.mk hb; clear hg0 hbox hb) | ((with_reducible refine gate_dst (N := 8) rfl ?_); refine box_event ?hg (N := 8) ?hd (cs := #[.int .i64 0, .slice none 0 0]) (t := 28) ?hr ?_; (case hd => rfl); (case hg => rfl); (case hr => first | (go_simp; done) | (go_simp; rfl)); intro gr hgr w2 hbox hb; have GR := Aside0.mk (show w.heap.size ≤ gr by rw [hgr]; exact HB1.out.size); have BR2 := Aside0.mk hbox; have BD2 := Aside0.mk (blk_below BD1.out hb); have HB2 := Aside0.mk (below_step HB1.out hb); have d20 : w2.cell? ⟨g0, 0, none⟩ = some (.int .i64 a0_0) := (blk_cell BD2.out 0).trans rfl; have d21 : w2.cell? ⟨g0, 1, none⟩ = some (.slice A0_1 l0_1.length c0_1) := (blk_cell BD2.out 1).trans rfl; clear hgr hbox hb) | (go_at_call 23; (with_reducible refine (impl_CircuitValid.calls k a0_0 A0_1 c0_1 l0_1 true _ (Kd.C_below HR.out HB2.out) HC.out T0.out).mono ?_); rintro e w3 ⟨rfl, hb⟩; have HB3 := Aside0.mk (below_step HB2.out hb); have BD3 := Aside0.mk (blk_below BD2.out hb); have BR3 := Aside0.mk (blk_below BR2.out hb); have d30 : w3.cell? ⟨g0, 0, none⟩ = some (.int .i64 a0_0) := (blk_cell BD3.out 0).trans rfl; have d31 : w3.cell? ⟨g0, 1, none⟩ = some (.slice A0_1 l0_1.length c0_1) := (blk_cell BD3.out 1).trans rfl; have r30 : w3.cell? ⟨gr, 0, none⟩ = some (.int .i64 0) := (blk_cell BR3.out 0).trans rfl; have r31 : w3.cell? ⟨gr, 1, none⟩ = some (.slice none 0 0) := (blk_cell BR3.out 1).trans rfl; have q30 := blk_frozen BR3.out 0; have q31 := blk_frozen BR3.out 1; clear hb) | (go_at_call 59; (with_reducible refine (impl_Circuit_isEdge.calls a0_0 A0_1 c0_1 l0_1 edge false _ (Kd.C_below HR.out HB3.out) HC.out T1.out).mono ?_); rintro e w4 ⟨rfl, hb⟩; have HB4 := Aside0.mk (below_step HB3.out hb); have BD4 := Aside0.mk (blk_below BD3.out hb); have BR4 := Aside0.mk (blk_below BR3.out hb); have d40 : w4.cell? ⟨g0, 0, none⟩ = some (.int .i64 a0_0) := (blk_cell BD4.out 0).trans rfl; have d41 : w4.cell? ⟨g0, 1, none⟩ = some (.slice A0_1 l0_1.length c0_1) := (blk_cell BD4.out 1).trans rfl; have r40 : w4.cell? ⟨gr, 0, none⟩ = some (.int .i64 0) := (blk_cell BR4.out 0).trans rfl; have r41 : w4.cell? ⟨gr, 1, none⟩ = some (.slice none 0 0) := (blk_cell BR4.out 1).trans rfl; have q40 := blk_frozen BR4.out 0; have q41 := blk_frozen BR4.out 1; clear hb))
   refine bodyPost_ret (results_ct rfl _ _ gr 28 #[.int .i64 0, .slice none 0 0] (0, 0) _ rfl (blk_put (blk_put BR4.out 0 _ rfl) 1 _ rfl) Try.underlying28 rfl (by kernel_rfl)) rfl ?_
   exact ⟨_, rfl, Kd.R_nil _ _ _ _ _, below_set (below_set HB4.out GR.out) GR.out⟩
  | true =>
   rw [if_neg (by decide)] at h
   obtain ⟨t2, h2, h_⟩ := Option.bind_eq_some_iff.mp h
   clear h
   have h := h_
   have T2 := Aside0.mk h2
   clear h2 h_
   cases t2 with
   | false =>
    rw [if_pos rfl] at h
    simp only [Option.some.injEq, Prod.mk.injEq] at h
    obtain ⟨rfl, rfl, rfl⟩ := h
    go_enter Try.func25, Try.ntmps25
    go_wp2_with (first | ((with_reducible refine gate_dst (N := 4) rfl ?_); refine box_event ?hg (N := 4) ?hd (cs := #[.int .i64 a0_0, .slice A0_1 l0_1.length c0_1]) (t := 28) ?hr ?_; (case hd => rfl); (case hg => rfl); (case hr => first | (go_simp; done) | (go_simp; rfl)); intro g0 hg0 w1 hbox hb; have BD1 := Aside0.mk hbox; have HB1 := Aside0.mk hb; clear hg0 hbox hb) | ((with_reducible refine gate_dst (N := 8) rfl ?_); refine box_event ?hg (N := 8) ?hd (cs := #[.int .i64 0, .slice none 0 0]) (t := 28) ?hr ?_; (case hd => rfl); (case hg => rfl); (case hr => first | (go_simp; done) | (go_simp; rfl)); intro gr hgr w2 hbox hb; have GR := Aside0.mk (show w.heap.size ≤ gr by rw [hgr]; exact HB1.out.size); have BR2 := Aside0.mk hbox; have BD2 := Aside0.mk (blk_below BD1.out hb); have HB2 := Aside0.mk (below_step HB1.out hb); have d20 : w2.cell? ⟨g0, 0, none⟩ = some (.int .i64 a0_0) := (blk_cell BD2.out 0).trans rfl; have d21 : w2.cell? ⟨g0, 1, none⟩ = some (.slice A0_1 l0_1.length c0_1) := (blk_cell BD2.out 1).trans rfl; clear hgr hbox hb) | (go_at_call 23; (with_reducible refine (impl_CircuitValid.calls k a0_0 A0_1 c0_1 l0_1 true _ (Kd.C_below HR.out HB2.out) HC.out T0.out).mono ?_); rintro e w3 ⟨rfl, hb⟩; have HB3 := Aside0.mk (below_step HB2.out hb); have BD3 := Aside0.mk (blk_below BD2.out hb); have BR3 := Aside0.mk (blk_below BR2.out hb); have d30 : w3.cell? ⟨g0, 0, none⟩ = some (.int .i64 a0_0) := (blk_cell BD3.out 0).trans rfl; have d31 : w3.cell? ⟨g0, 1, none⟩ = some (.slice A0_1 l0_1.length c0_1) := (blk_cell BD3.out 1).trans rfl; have r30 : w3.cell? ⟨gr, 0, none⟩ = some (.int .i64 0) := (blk_cell BR3.out 0).trans rfl; have r31 : w3.cell? ⟨gr, 1, none⟩ = some (.slice none 0 0) := (blk_cell BR3.out 1).trans rfl; have q30 := blk_frozen BR3.out 0; have q31 := blk_frozen BR3.out 1; clear hb) | (go_at_call 59; (with_reducible refine (impl_Circuit_isEdge.calls a0_0 A0_1 c0_1 l0_1 edge true _ (Kd.C_below HR.out HB3.out) HC.out T1.out).mono ?_); rintro e w4 ⟨rfl, hb⟩; have HB4 := Aside0.mk (below_step HB3.out hb); have BD4 := Aside0.mk (blk_below BD3.out hb); have BR4 := Aside0.mk (blk_below BR3.out hb); have d40 : w4.cell? ⟨g0, 0, none⟩ = some (.int .i64 a0_0) := (blk_cell BD4.out 0).trans rfl; have d41 : w4.cell? ⟨g0, 1, none⟩ = some (.slice A0_1 l0_1.length c0_1) := (blk_cell BD4.out 1).trans rfl; have r40 : w4.cell? ⟨gr, 0, none⟩ = some (.int .i64 0) := (blk_cell BR4.out 0).trans rfl; have r41 : w4.cell? ⟨gr, 1, none⟩ = some (.slice none 0 0) := (blk_cell BR4.out 1).trans rfl; have q40 := blk_frozen BR4.out 0; have q41 := blk_frozen BR4.out 1; clear hb) | (go_at_call 73; (with_reducible refine (impl_in.calls input 0 (wrap64 (a0_0 - 1)) false _ T2.out).mono ?_); rintro e w5 ⟨rfl, hb⟩; replace hb := hb.below; have HB5 := Aside0.mk (below_step HB4.out hb); have BD5 := Aside0.mk (blk_below BD4.out hb); have BR5 := Aside0.mk (blk_below BR4.out hb); have d50 : w5.cell? ⟨g0, 0, none⟩ = some (.int .i64 a0_0) := (blk_cell BD5.out 0).trans rfl; have d51 : w5.cell? ⟨g0, 1, none⟩ = some (.slice A0_1 l0_1.length c0_1) := (blk_cell BD5.out 1).trans rfl; have r50 : w5.cell? ⟨gr, 0, none⟩ = some (.int .i64 0) := (blk_cell BR5.out 0).trans rfl; have r51 : w5.cell? ⟨gr, 1, none⟩ = some (.slice none 0 0) := (blk_cell BR5.out 1).trans rfl; have q50 := blk_frozen BR5.out 0; have q51 := blk_frozen BR5.out 1; clear hb))
    refine bodyPost_ret (results_ct rfl _ _ gr 28 #[.int .i64 0, .slice none 0 0] (0, 0) _ rfl (blk_put (blk_put BR5.out 0 _ rfl) 1 _ rfl) Try.underlying28 rfl (by kernel_rfl)) rfl ?_
    exact ⟨_, rfl, Kd.R_nil _ _ _ _ _, below_set (below_set HB5.out GR.out) GR.out⟩
   | true =>
    rw [if_neg (by decide)] at h
    obtain ⟨t3, h3, h_⟩ := Option.bind_eq_some_iff.mp h
    clear h
    have h := h_
    have T3 := Aside0.mk h3
    clear h3 h_
    cases t3 with
    | false =>
     rw [if_pos rfl] at h
     simp only [Option.some.injEq, Prod.mk.injEq] at h
     obtain ⟨rfl, rfl, rfl⟩ := h
     go_enter Try.func25, Try.ntmps25
     go_wp2_with (first | ((with_reducible refine gate_dst (N := 4) rfl ?_); refine box_event ?hg (N := 4) ?hd (cs := #[.int .i64 a0_0, .slice A0_1 l0_1.length c0_1]) (t := 28) ?hr ?_; (case hd => rfl); (case hg => rfl); (case hr => first | (go_simp; done) | (go_simp; rfl)); intro g0 hg0 w1 hbox hb; have BD1 := Aside0.mk hbox; have HB1 := Aside0.mk hb; clear hg0 hbox hb) | ((with_reducible refine gate_dst (N := 8) rfl ?_); refine box_event ?hg (N := 8) ?hd (cs := #[.int .i64 0, .slice none 0 0]) (t := 28) ?hr ?_; (case hd => rfl); (case hg => rfl); (case hr => first | (go_simp; done) | (go_simp; rfl)); intro gr hgr w2 hbox hb; have GR := Aside0.mk (show w.heap.size ≤ gr by rw [hgr]; exact HB1.out.size); have BR2 := Aside0.mk hbox; have BD2 := Aside0.mk (blk_below BD1.out hb); have HB2 := Aside0.mk (below_step HB1.out hb); have d20 : w2.cell? ⟨g0, 0, none⟩ = some (.int .i64 a0_0) := (blk_cell BD2.out 0).trans rfl; have d21 : w2.cell? ⟨g0, 1, none⟩ = some (.slice A0_1 l0_1.length c0_1) := (blk_cell BD2.out 1).trans rfl; clear hgr hbox hb) | (go_at_call 23; (with_reducible refine (impl_CircuitValid.calls k a0_0 A0_1 c0_1 l0_1 true _ (Kd.C_below HR.out HB2.out) HC.out T0.out).mono ?_); rintro e w3 ⟨rfl, hb⟩; have HB3 := Aside0.mk (below_step HB2.out hb); have BD3 := Aside0.mk (blk_below BD2.out hb); have BR3 := Aside0.mk (blk_below BR2.out hb); have d30 : w3.cell? ⟨g0, 0, none⟩ = some (.int .i64 a0_0) := (blk_cell BD3.out 0).trans rfl; have d31 : w3.cell? ⟨g0, 1, none⟩ = some (.slice A0_1 l0_1.length c0_1) := (blk_cell BD3.out 1).trans rfl; have r30 : w3.cell? ⟨gr, 0, none⟩ = some (.int .i64 0) := (blk_cell BR3.out 0).trans rfl; have r31 : w3.cell? ⟨gr, 1, none⟩ = some (.slice none 0 0) := (blk_cell BR3.out 1).trans rfl; have q30 := blk_frozen BR3.out 0; have q31 := blk_frozen BR3.out 1; clear hb) | (go_at_call 59; (with_reducible refine (impl_Circuit_isEdge.calls a0_0 A0_1 c0_1 l0_1 edge true _ (Kd.C_below HR.out HB3.out) HC.out T1.out).mono ?_); rintro e w4 ⟨rfl, hb⟩; have HB4 := Aside0.mk (below_step HB3.out hb); have BD4 := Aside0.mk (blk_below BD3.out hb); have BR4 := Aside0.mk (blk_below BR3.out hb); have d40 : w4.cell? ⟨g0, 0, none⟩ = some (.int .i64 a0_0) := (blk_cell BD4.out 0).trans rfl; have d41 : w4.cell? ⟨g0, 1, none⟩ = some (.slice A0_1 l0_1.length c0_1) := (blk_cell BD4.out 1).trans rfl; have r40 : w4.cell? ⟨gr, 0, none⟩ = some (.int .i64 0) := (blk_cell BR4.out 0).trans rfl; have r41 : w4.cell? ⟨gr, 1, none⟩ = some (.slice none 0 0) := (blk_cell BR4.out 1).trans rfl; have q40 := blk_frozen BR4.out 0; have q41 := blk_frozen BR4.out 1; clear hb) | (go_at_call 73; (with_reducible refine (impl_in.calls input 0 (wrap64 (a0_0 - 1)) true _ T2.out).mono ?_); rintro e w5 ⟨rfl, hb⟩; replace hb := hb.below; have HB5 := Aside0.mk (below_step HB4.out hb); have BD5 := Aside0.mk (blk_below BD4.out hb); have BR5 := Aside0.mk (blk_below BR4.out hb); have d50 : w5.cell? ⟨g0, 0, none⟩ = some (.int .i64 a0_0) := (blk_cell BD5.out 0).trans rfl; have d51 : w5.cell? ⟨g0, 1, none⟩ = some (.slice A0_1 l0_1.length c0_1) := (blk_cell BD5.out 1).trans rfl; have r50 : w5.cell? ⟨gr, 0, none⟩ = some (.int .i64 0) := (blk_cell BR5.out 0).trans rfl; have r51 : w5.cell? ⟨gr, 1, none⟩ = some (.slice none 0 0) := (blk_cell BR5.out 1).trans rfl; have q50 := blk_frozen BR5.out 0; have q51 := blk_frozen BR5.out 1; clear hb) | (go_at_call 73; (with_reducible refine (impl_in.calls value 0 1 false _ T3.out).mono ?_); rintro e w6 ⟨rfl, hb⟩; replace hb := hb.below; have HB6 := Aside0.mk (below_step HB5.out hb); have BD6 := Aside0.mk (blk_below BD5.out hb); have BR6 := Aside0.mk (blk_below BR5.out hb); have d60 : w6.cell? ⟨g0, 0, none⟩ = some (.int .i64 a0_0) := (blk_cell BD6.out 0).trans rfl; have d61 : w6.cell? ⟨g0, 1, none⟩ = some (.slice A0_1 l0_1.length c0_1) := (blk_cell BD6.out 1).trans rfl; have r60 : w6.cell? ⟨gr, 0, none⟩ = some (.int .i64 0) := (blk_cell BR6.out 0).trans rfl; have r61 : w6.cell? ⟨gr, 1, none⟩ = some (.slice none 0 0) := (blk_cell BR6.out 1).trans rfl; have q60 := blk_frozen BR6.out 0; have q61 := blk_frozen BR6.out 1; clear hb))
     refine bodyPost_ret (results_ct rfl _ _ gr 28 #[.int .i64 0, .slice none 0 0] (0, 0) _ rfl (blk_put (blk_put BR6.out 0 _ rfl) 1 _ rfl) Try.underlying28 rfl (by kernel_rfl)) rfl ?_
     exact ⟨_, rfl, Kd.R_nil _ _ _ _ _, below_set (below_set HB6.out GR.out) GR.out⟩
    | true =>
     rw [if_neg (by decide)] at h
     by_cases cg : (0 ≤ a0_0 ∧ a0_0 ≤ 1000000) ∧ (0 ≤ wrap64 (input + 1) ∧ wrap64 (input + 1) < a0_0 + 1)
     rotate_left
     ·rw [if_neg cg] at h
      cases h
     rw [if_pos cg] at h
     obtain ⟨⟨ca, cb⟩, cc, cd⟩ := cg
     obtain ⟨s, hs, h_⟩ := Option.bind_eq_some_iff.mp h
     obtain ⟨⟨s2, p2⟩, hp, hd⟩ := Option.bind_eq_some_iff.mp h_
     have TS := Aside0.mk hs
     have TP := Aside0.mk hp
     have TD := Aside0.mk hd
     have CI := Aside0.mk (And.intro cc cd)
     obtain ⟨m, hm⟩ : ∃ m, a0_0.toNat + 1 = m := ⟨_, rfl⟩
     have HM := Aside0.mk (show (m : Int) = a0_0 + 1 ∧ m ≤ 1000001 by omega)
     have HWN := Aside0.mk (show wrap64 (1 + a0_0) = (m : Int) by unfold wrap64; omega)
     rw [hm] at hp
     have TP := Aside0.mk hp
     clear h h_ hs hp hd ca cb cc cd hm
     go_enter Try.func25, Try.ntmps25
     go_wp2_with (first | ((with_reducible refine gate_dst (N := 4) rfl ?_); refine box_event ?hg (N := 4) ?hd (cs := #[.int .i64 a0_0, .slice A0_1 l0_1.length c0_1]) (t := 28) ?hr ?_; (case hd => rfl); (case hg => rfl); (case hr => first | (go_simp; done) | (go_simp; rfl)); intro g0 hg0 w1 hbox hb; have BD1 := Aside0.mk hbox; have HB1 := Aside0.mk hb; clear hg0 hbox hb) | ((with_reducible refine gate_dst (N := 8) rfl ?_); refine box_event ?hg (N := 8) ?hd (cs := #[.int .i64 0, .slice none 0 0]) (t := 28) ?hr ?_; (case hd => rfl); (case hg => rfl); (case hr => first | (go_simp; done) | (go_simp; rfl)); intro gr hgr w2 hbox hb; have GR := Aside0.mk (show w.heap.size ≤ gr by rw [hgr]; exact HB1.out.size); have BR2 := Aside0.mk hbox; have BD2 := Aside0.mk (blk_below BD1.out hb); have HB2 := Aside0.mk (below_step HB1.out hb); have d20 : w2.cell? ⟨g0, 0, none⟩ = some (.int .i64 a0_0) := (blk_cell BD2.out 0).trans rfl; have d21 : w2.cell? ⟨g0, 1, none⟩ = some (.slice A0_1 l0_1.length c0_1) := (blk_cell BD2.out 1).trans rfl; clear hgr hbox hb) | (go_at_call 23; (with_reducible refine (impl_CircuitValid.calls k a0_0 A0_1 c0_1 l0_1 true _ (Kd.C_below HR.out HB2.out) HC.out T0.out).mono ?_); rintro e w3 ⟨rfl, hb⟩; have HB3 := Aside0.mk (below_step HB2.out hb); have BD3 := Aside0.mk (blk_below BD2.out hb); have BR3 := Aside0.mk (blk_below BR2.out hb); have d30 : w3.cell? ⟨g0, 0, none⟩ = some (.int .i64 a0_0) := (blk_cell BD3.out 0).trans rfl; have d31 : w3.cell? ⟨g0, 1, none⟩ = some (.slice A0_1 l0_1.length c0_1) := (blk_cell BD3.out 1).trans rfl; have r30 : w3.cell? ⟨gr, 0, none⟩ = some (.int .i64 0) := (blk_cell BR3.out 0).trans rfl; have r31 : w3.cell? ⟨gr, 1, none⟩ = some (.slice none 0 0) := (blk_cell BR3.out 1).trans rfl; have q30 := blk_frozen BR3.out 0; have q31 := blk_frozen BR3.out 1; clear hb) | (go_at_call 59; (with_reducible refine (impl_Circuit_isEdge.calls a0_0 A0_1 c0_1 l0_1 edge true _ (Kd.C_below HR.out HB3.out) HC.out T1.out).mono ?_); rintro e w4 ⟨rfl, hb⟩; have HB4 := Aside0.mk (below_step HB3.out hb); have BD4 := Aside0.mk (blk_below BD3.out hb); have BR4 := Aside0.mk (blk_below BR3.out hb); have d40 : w4.cell? ⟨g0, 0, none⟩ = some (.int .i64 a0_0) := (blk_cell BD4.out 0).trans rfl; have d41 : w4.cell? ⟨g0, 1, none⟩ = some (.slice A0_1 l0_1.length c0_1) := (blk_cell BD4.out 1).trans rfl; have r40 : w4.cell? ⟨gr, 0, none⟩ = some (.int .i64 0) := (blk_cell BR4.out 0).trans rfl; have r41 : w4.cell? ⟨gr, 1, none⟩ = some (.slice none 0 0) := (blk_cell BR4.out 1).trans rfl; have q40 := blk_frozen BR4.out 0; have q41 := blk_frozen BR4.out 1; clear hb) | (go_at_call 73; (with_reducible refine (impl_in.calls input 0 (wrap64 (a0_0 - 1)) true _ T2.out).mono ?_); rintro e w5 ⟨rfl, hb⟩; replace hb := hb.below; have HB5 := Aside0.mk (below_step HB4.out hb); have BD5 := Aside0.mk (blk_below BD4.out hb); have BR5 := Aside0.mk (blk_below BR4.out hb); have d50 : w5.cell? ⟨g0, 0, none⟩ = some (.int .i64 a0_0) := (blk_cell BD5.out 0).trans rfl; have d51 : w5.cell? ⟨g0, 1, none⟩ = some (.slice A0_1 l0_1.length c0_1) := (blk_cell BD5.out 1).trans rfl; have r50 : w5.cell? ⟨gr, 0, none⟩ = some (.int .i64 0) := (blk_cell BR5.out 0).trans rfl; have r51 : w5.cell? ⟨gr, 1, none⟩ = some (.slice none 0 0) := (blk_cell BR5.out 1).trans rfl; have q50 := blk_frozen BR5.out 0; have q51 := blk_frozen BR5.out 1; clear hb) | (go_at_call 73; (with_reducible refine (impl_in.calls value 0 1 true _ T3.out).mono ?_); rintro e w6 ⟨rfl, hb⟩; replace hb := hb.below; have HB6 := Aside0.mk (below_step HB5.out hb); have BD6 := Aside0.mk (blk_below BD5.out hb); have BR6 := Aside0.mk (blk_below BR5.out hb); have d60 : w6.cell? ⟨g0, 0, none⟩ = some (.int .i64 a0_0) := (blk_cell BD6.out 0).trans rfl; have d61 : w6.cell? ⟨g0, 1, none⟩ = some (.slice A0_1 l0_1.length c0_1) := (blk_cell BD6.out 1).trans rfl; have r60 : w6.cell? ⟨gr, 0, none⟩ = some (.int .i64 0) := (blk_cell BR6.out 0).trans rfl; have r61 : w6.cell? ⟨gr, 1, none⟩ = some (.slice none 0 0) := (blk_cell BR6.out 1).trans rfl; have q60 := blk_frozen BR6.out 0; have q61 := blk_frozen BR6.out 1; clear hb) | (go_at_call 60; (with_reducible refine (impl_building.calls0 a0_0 s _ TS.out).mono ?_); rintro e wF ⟨g, rfl, hi, hb⟩; have IF := Aside0.mk (IsB.mono (IF_base HB6.out.size hi) (fun k_ (hk_ : _) => Nat.le_trans HB6.out.size hk_)); have HBF := Aside0.mk (below_step HB6.out hb); have BDF := Aside0.mk (blk_below BD6.out hb); have BRF := Aside0.mk (blk_below BR6.out hb); have f0 : wF.cell? ⟨g0, 0, none⟩ = some (.int .i64 a0_0) := (blk_cell BDF.out 0).trans rfl; clear hi hb) | ((with_reducible refine gate_dst (N := 42) rfl ?_); (try (refine gate_guard (by rfl) ?_; dsimp only)); refine Kd.R_lit (Kd.int .i64) _ 3 ?hg (N := 42) ?hd (xs := ([] : List Int)) (inner := []) (ok := fun _ => True) (okp := fun _ => True) ?hr ?hp (fun _ hk => hk) trivial (Below.refl _ _) (Nat.le_refl _) (by simp) ?_; (case hd => rfl); (case hg => rfl); (case hr => first | (go_simp; done) | (go_simp; rfl)); (case hp => exact (Reps.none _ _)); intro vT wT hoT hb hg_ hnew_; clear hg_ hnew_; have HT := Aside0.mk (Kd.R_lower hoT HBF.out.size); have IT := Aside0.mk (IF.out.below hb); have HBT := Aside0.mk (below_step HBF.out hb); have BDT := Aside0.mk (blk_below BDF.out hb); have BRT := Aside0.mk (blk_below BRF.out hb); have ft0 : wT.cell? ⟨g0, 0, none⟩ = some (.int .i64 a0_0) := (blk_cell BDT.out 0).trans rfl; clear hb hoT))
     go_loopg [11, 46] m (fun gg s11 s46 wr => ∃ (i : Nat), s46 = .int .i64 (i : Int) ∧ Aside0 (i + gg = m) ∧ Aside0 (Kd.R (Kd.int .i64) 3 wr w.heap.size (fun _ => True) s11 (impl_Fixed.to0 i)) ∧ Aside0 (IsB wr w.heap.size (fun k => w.heap.size ≤ k) g s) ∧ Aside0 (wr.heap[g0]? = some (.cells #[.int .i64 a0_0, .slice A0_1 l0_1.length c0_1] 28 (0, 0))) ∧ Aside0 (wr.heap[gr]? = some (.cells #[.int .i64 0, .slice none 0 0] 28 (0, 0))) ∧ Aside0 (Below w.heap.size w wr))
     case atStart => exact ⟨0, rfl, ⟨by omega⟩, HT, IT, BDT, BRT, HBT⟩
     case round =>
      clear HT IT BDT BRT HBT
      obtain ⟨i, rfl, HI, HT, IT, BD, BR, HB⟩ := hrel
      by_cases c2 : i < m
      ·obtain ⟨k1, rfl⟩ : ∃ k1, gk = k1 + 1 := ⟨gk - 1, by have := HI.out; omega⟩
       have c2b : decide ((i : Int) < (m : Int)) = true := decide_eq_true (by omega)
       have c2e : decide ((i : Int) < wrap64 (1 + a0_0)) = true := by rw [HWN.out]; exact c2b
       have hw2 : wrap64 ((i : Int) + 1) = (i : Int) + 1 := by have := HM.out; unfold wrap64; omega
       have hw2' : (IntKind.i64.wrap ((i : Int) + 1)) = (i : Int) + 1 := (i64_w _).trans hw2
       have LM := Aside0.mk (show ((impl_Fixed.to0 i).length + 1) * 8 ≤ 140737488355328 by rw [impl_Fixed.to0_len]; have := HM.out; omega)
       go_wp2_with ((with_reducible refine gate_builtin (b := .append) (xs := #[.tmp 49, .tmp 52]) rfl ?_); at_builtin; refine Kd.R_append (Kd.int .i64) (w0 := w) w.heap.size rfl (.tmp 49) (.tmp 52) 38 3 (.int .i64 0) 8 rfl Try.underlying38 info3 rfl (by decide) (by omega) u11 (impl_Fixed.to0 i) (wrap64 (2 * (i : Int))) [.int .i64 (wrap64 (2 * (i : Int)))] (fun _ => True) (fun _ => False) rfl rfl ?aP (fun _ hk => hk.elim) ?aF ?aO ?aB ?aS ?aL ?_; (case aP => exact rfl); (case aB => exact HB.out); (case aF => exact (fun _ _ => trivial)); (case aO => exact HT.out); (case aS => exact HB.out.size); (case aL => exact LM.out); intro v1 w5 ho hb hg hat; rw [← impl_Fixed.to0_succ] at ho; have n0 := Aside0.mk ho; have n1 := Aside0.mk (IT.out.over HT.out hg); have n2 := Aside0.mk (blk_grown BD.out hg (Kd.R_ne HT.out BD.out (by decide))); have n3 := Aside0.mk (blk_grown BR.out hg (Kd.R_ne HT.out BR.out (by decide))); have n4 := Aside0.mk hb; clear ho hb hg hat HT IT BD BR HB)
       go_roundg k1
       case measure => exact Nat.lt_succ_self _
       case rel => exact ⟨i + 1, by first | rfl | (simp only [Int.natCast_add]; rfl) | simp [hw2, hw2'], ⟨by have := HI.out; omega⟩, n0, n1, n2, n3, n4⟩
      ·have hi : m = i := by have := HI.out; omega
       subst hi
       have c2b : decide ((m : Int) < (m : Int)) = false := decide_eq_false (by omega)
       have c2e : decide ((m : Int) < wrap64 (1 + a0_0)) = false := by rw [HWN.out]; exact c2b
       have p13 : 0 ≤ wrap64 (input + 1) := CI.out.1
       have q13 : wrap64 (input + 1) < ((impl_Fixed.to0 m).length : Int) := by rw [impl_Fixed.to0_len]; have := CI.out.2; have := HM.out; omega
       have HL0 := Aside0.mk (impl_Fixed.to0_len m)
       obtain ⟨y0, hy0⟩ : ∃ y0, y0 = impl_Fixed.to0 m := ⟨_, rfl⟩
       have HY0 := Aside0.mk hy0
       rw [← hy0] at HT q13 HL0
       clear hy0
       obtain ⟨go13, co13, eo13, gb13, gl13, cl13, HG13⟩ := Kd.R_form HT.out (by have := HL0.out; omega)
       cases eo13
       have GB13 := Aside0.mk gb13
       obtain ⟨hx13_0, hf13_0⟩ := Kd.R_celln 0 HT.out (wrap64 (input + 1)) p13 q13
       replace p13 := eq_true p13
       replace q13 := eq_true q13
       have HP14 := Kd.R_putg HT.out (wrap64 (input + 1)) value
       have fd1 : wr.cell? ⟨g0, 1, none⟩ = some (.slice A0_1 l0_1.length c0_1) := (blk_cell BD.out 1).trans rfl
       clear gb13 gl13 HG13
       go_wp2_with ((with_reducible refine gate_store (t := 3) (p := 59) rfl ?_); refine store_event (t := 3) (p := 59) (v := ?vo_w) (w1 := (wr.setCell ⟨go13, (wrap64 (input + 1)).toNat, none⟩ (.int .i64 value))) ?hg ?ho ?hn ?hr ?_; (case ho => rfl); (case hg => rfl); (case hn => rfl); (case hr => first | (go_simp; done) | (go_simp; rfl)); intro w15 hw; have hg : wr.grownBy w15 (some go13) := (by rw [hw]; exact HP14.2); have n0 := Aside0.mk (show Kd.R (Kd.int .i64) 3 w15 w.heap.size (fun _ => True) (.slice (some ⟨go13, 0, none⟩) y0.length co13) (y0.set (wrap64 (input + 1)).toNat value) by rw [hw]; exact HP14.1); have n1 := Aside0.mk (IT.out.over HT.out hg); have n2 := Aside0.mk (blk_grown BD.out hg (Kd.R_ne HT.out BD.out (by decide))); have n3 := Aside0.mk (blk_grown BR.out hg (Kd.R_ne HT.out BR.out (by decide))); have n4 := Aside0.mk ((by rw [hw]; exact below_set HB.out GB13.out : Below w.heap.size w w15)); clear HP14 hx13_0 hf13_0 fd1 p13 q13 hw hg HT IT BD BR HB; have fd1 : w15.cell? ⟨g0, 1, none⟩ = some (.slice A0_1 l0_1.length c0_1) := (blk_cell n2.out 1).trans rfl)
       go_loopg [11, 63] l0_1.length (fun gg s11 s63 wr => ∃ (i : Nat) (sB : BS) (toL : List Int), s63 = .int .i64 (i : Int) ∧ Aside0 (i + gg = l0_1.length) ∧ Aside0 (impl_Fixed.lp (l0_1.drop i) sB toL = some (s2, p2)) ∧ Aside0 (Kd.R (Kd.int .i64) 3 wr w.heap.size (fun _ => True) s11 toL) ∧ Aside0 (IsB wr w.heap.size (fun k => w.heap.size ≤ k) g sB) ∧ Aside0 (wr.heap[g0]? = some (.cells #[.int .i64 a0_0, .slice A0_1 l0_1.length c0_1] 28 (0, 0))) ∧ Aside0 (wr.heap[gr]? = some (.cells #[.int .i64 0, .slice none 0 0] 28 (0, 0))) ∧ Aside0 (Below w.heap.size w wr))
       case atStart => exact ⟨0, s, _, rfl, ⟨by omega⟩, ⟨by rw [List.drop_zero]; exact TP.out⟩, ⟨by rw [← HY0.out]; first | exact n0.out | (have := n0.out; rw [show y0.length = (y0.set (wrap64 (input + 1)).toNat value).length by simp] at this; exact this)⟩, n1, n2, n3, n4⟩
       case round =>
        clear n0 n1 n2 n3 n4 fd1
        obtain ⟨i, sB, toL, rfl, HI, HLP, HT, IT, BD, BR, HB⟩ := hrel
        obtain ⟨AT, cT, rfl⟩ := Kd.R_slice HT.out
        by_cases c3 : i < l0_1.length
        ·obtain ⟨k1, rfl⟩ : ∃ k1, gk = k1 + 1 := ⟨gk - 1, by have := HI.out; omega⟩
         have c3a : (i : Int) < (l0_1.length : Int) := by omega
         have c3b : decide ((i : Int) < (l0_1.length : Int)) = true := decide_eq_true c3a
         have c3c : (0 : Int) ≤ (i : Int) := by omega
         have c3d : decide ((0 : Int) ≤ (i : Int)) = true := decide_eq_true c3c
         obtain ⟨ad, rfl, hx0, hx1⟩ := at_T92 HR.out (i : Int) c3c c3a
         obtain ⟨x, hx⟩ : ∃ x, rd_T92 l0_1 (i : Int) = x := ⟨_, rfl⟩
         have hxe : l0_1[i] = x := by rw [← hx]; unfold rd_T92; rw [List.getD_eq_getElem?_getD, Int.toNat_natCast, List.getElem?_eq_getElem c3]; rfl
         have hlp := HLP.out
         rw [List.drop_eq_getElem_cons c3, hxe, impl_Fixed.lp] at hlp
         rw [hx] at hx0 hx1
         simp only [Int.toNat_natCast] at hx0 hx1
         replace hx0 := bct HB.out hx0
         replace hx1 := bct HB.out hx1
         by_cases cj : impl_Fixed.in_ toL x.f0 ∧ impl_Fixed.in_ toL x.f1 ∧ toL.length < 1000000000
         rotate_left
         ·rw [if_neg cj] at hlp
          cases hlp
         rw [if_pos cj] at hlp
         obtain ⟨⟨p0, q0⟩, ⟨p1, q1⟩, lt⟩ := cj
         obtain ⟨⟨sC, rC⟩, ha, hlp⟩ := Option.bind_eq_some_iff.mp hlp
         have HA := Aside0.mk ha
         have HLP := Aside0.mk hlp
         have LT := Aside0.mk (show (toL.length + 1) * 8 ≤ 140737488355328 by omega)
         have PQ := Aside0.mk (And.intro (And.intro p0 q0) (And.intro p1 q1))
         have hw2 : wrap64 ((i : Int) + 1) = (i : Int) + 1 := by
          have h1 := (Kd.C_max HR.out)
          unfold wrap64; omega
         have hw2' : (IntKind.i64.wrap ((i : Int) + 1)) = (i : Int) + 1 := (i64_w _).trans hw2
         clear hx hxe ha hlp lt p0 q0 p1 q1
         go_wp2_with ((with_reducible refine gate_dst (N := 14) rfl ?_); refine box_event ?hg (N := 14) ?hd (cs := #[.int .i64 0, .int .i64 0]) (t := 92) ?hr ?_; (case hd => rfl); (case hg => rfl); (case hr => first | (go_simp; done) | (go_simp; rfl)); intro gb hgb w7 hbox hb; have BX0 := Aside0.mk hbox; have HB7 := Aside0.mk hb; have hz0 : w7.cell? ⟨gb, 0, none⟩ = some (.int .i64 0) := (blk_cell BX0.out 0).trans rfl; have hz1 : w7.cell? ⟨gb, 1, none⟩ = some (.int .i64 0) := (blk_cell BX0.out 1).trans rfl; have hy0 := blk_frozen BX0.out 0; have hy1 := blk_frozen BX0.out 1; have HGB := Aside0.mk hgb; clear hgb hbox hb)
         have n0 : Aside0 (Below wr.heap.size wr ((w7.setCell ⟨gb, 0, none⟩ (.int .i64 x.f0)).setCell ⟨gb, 1, none⟩ (.int .i64 x.f1))) := ⟨below_set (below_set HB7.out (Nat.le_of_eq HGB.out.symm)) (Nat.le_of_eq HGB.out.symm)⟩
         have n1 : Aside0 (((w7.setCell ⟨gb, 0, none⟩ (.int .i64 x.f0)).setCell ⟨gb, 1, none⟩ (.int .i64 x.f1)).heap[gb]? = some (.cells #[.int .i64 x.f0, .int .i64 x.f1] 92 (0, 0))) := ⟨blk_put (blk_put BX0.out 0 _ rfl) 1 _ rfl⟩
         generalize ((w7.setCell ⟨gb, 0, none⟩ (.int .i64 x.f0)).setCell ⟨gb, 1, none⟩ (.int .i64 x.f1)) = w8 at n0 n1 ⊢
         clear hz0 hz1 hy0 hy1 BX0 HB7 hx0 hx1
         have HT8 := Aside0.mk (Kd.R_drew (Kd.R_below HT.out n0.out))
         have p0 : 0 ≤ wrap64 (Int.tdiv x.f0 2) := PQ.out.1.1
         have q0 : wrap64 (Int.tdiv x.f0 2) < (toL.length : Int) := PQ.out.1.2
         have p1 : 0 ≤ wrap64 (Int.tdiv x.f1 2) := PQ.out.2.1
         have q1 : wrap64 (Int.tdiv x.f1 2) < (toL.length : Int) := PQ.out.2.2
         obtain ⟨aT, eT, t0⟩ := Kd.at_int (Kd.R_reads' HT8.out).2.2 (wrap64 (Int.tdiv x.f0 2)) p0 q0
         cases eT
         obtain ⟨aT2, eT, t1⟩ := Kd.at_int (Kd.R_reads' HT8.out).2.2 (wrap64 (Int.tdiv x.f1 2)) p1 q1
         cases eT
         have AT9 : Aside0 (∀ (W : World), Kd.R (Kd.int .i64) 3 W w.heap.size (fun _ => True) (.slice (some aT) toL.length cT) toL → W.cell? (aT.add (wrap64 (Int.tdiv x.f0 2)).toNat) = some (.int .i64 (rd toL (wrap64 (Int.tdiv x.f0 2)))) ∧ W.cell? (aT.add (wrap64 (Int.tdiv x.f1 2)).toNat) = some (.int .i64 (rd toL (wrap64 (Int.tdiv x.f1 2))))) := ⟨fun W hW => by
          obtain ⟨b0, e0, u0⟩ := Kd.at_int (Kd.R_reads' hW).2.2 (wrap64 (Int.tdiv x.f0 2)) PQ.out.1.1 PQ.out.1.2
          cases e0
          obtain ⟨b1, e1, u1⟩ := Kd.at_int (Kd.R_reads' hW).2.2 (wrap64 (Int.tdiv x.f1 2)) PQ.out.2.1 PQ.out.2.2
          cases e1
          exact ⟨u0, u1⟩⟩
         replace p0 := eq_true p0
         replace q0 := eq_true q0
         replace p1 := eq_true p1
         replace q1 := eq_true q1
         refine start_ (n := 26) (S := fun w' => w'.cell? ⟨gb, 0, none⟩ = some (.int .i64 x.f0) ∧ w'.cell? ⟨gb, 1, none⟩ = some (.int .i64 x.f1) ∧ w'.cell? (aT.add (wrap64 (Int.tdiv x.f0 2)).toNat) = some (.int .i64 (rd toL (wrap64 (Int.tdiv x.f0 2)))) ∧ w'.cell? (aT.add (wrap64 (Int.tdiv x.f1 2)).toNat) = some (.int .i64 (rd toL (wrap64 (Int.tdiv x.f1 2))))) (ds := [24]) (Pt.bm 26 0) (by kernel_rfl) rfl rfl ⟨(blk_cell (blk_drew n1.out) 0).trans rfl, (blk_cell (blk_drew n1.out) 1).trans rfl, t0, t1⟩ (fun hHeld => ?_)
         have HB9 := Aside0.mk (below_step n0.out (below_drew (Below.refl _ _)))
         have BB9 := Aside0.mk (blk_drew n1.out)
         clear t0 t1 n0 n1
         generalize w8.drew = w9 at HB9 BB9 HT8 hHeld ⊢
         have IT9 := Aside0.mk (IT.out.sep HB9.out (Nat.le_of_eq HGB.out.symm))
         have BD9 := Aside0.mk (blk_below BD.out HB9.out)
         have BR9 := Aside0.mk (blk_below BR.out HB9.out)
         have HBB := Aside0.mk (below_step HB.out HB9.out)
         clear HT IT BD BR HB
         refine Pt.pu 0 (some 67) (Pt.bm 26 1) (by kernel_rfl) ?_
         refine Pt.pu 1 (some 68) (Pt.bm 26 3) (by kernel_rfl) ?_
         refine Pt.pu 2 (some 69) (Pt.bm 26 7) (by kernel_rfl) ?_
         refine Pt.pu 3 (some 70) (Pt.bm 26 15) (by kernel_rfl) ?_
         refine Pt.tk 4 (some 71) (Pt.bm 26 31) rfl rfl (by kernel_rfl) hHeld (Or.inl ⟨by rfl, by rintro w' ⟨s0, s1, s2, s3⟩; go_simp; with_reducible rfl⟩) ?_
         refine Pt.pu 5 (some 72) (Pt.bm 26 63) (by kernel_rfl) ?_
         refine Pt.pu 6 (some 73) (Pt.bm 26 127) (by kernel_rfl) ?_
         refine Pt.tk 7 (some 74) (Pt.bm 26 255) rfl rfl (by kernel_rfl) hHeld (Or.inl ⟨by rfl, by rintro w' ⟨s0, s1, s2, s3⟩; go_simp; with_reducible rfl⟩) ?_
         refine Pt.pu 8 (some 75) (Pt.bm 26 511) (by kernel_rfl) ?_
         refine Pt.tk 9 (some 76) (Pt.bm 26 1023) rfl rfl (by kernel_rfl) hHeld (Or.inl ⟨by rfl, by rintro w' ⟨s0, s1, s2, s3⟩; go_simp; with_reducible rfl⟩) ?_
         refine Pt.pu 10 (some 77) (Pt.bm 26 2047) (by kernel_rfl) ?_
         refine Pt.pu 11 (some 78) (Pt.bm 26 4095) (by kernel_rfl) ?_
         refine Pt.pu 12 (some 79) (Pt.bm 26 8191) (by kernel_rfl) ?_
         refine Pt.pu 13 (some 80) (Pt.bm 26 16383) (by kernel_rfl) ?_
         refine Pt.tk 14 (some 81) (Pt.bm 26 32767) rfl rfl (by kernel_rfl) hHeld (Or.inl ⟨by rfl, by rintro w' ⟨s0, s1, s2, s3⟩; go_simp; with_reducible rfl⟩) ?_
         refine Pt.pu 15 (some 82) (Pt.bm 26 65535) (by kernel_rfl) ?_
         refine Pt.pu 16 (some 83) (Pt.bm 26 131071) (by kernel_rfl) ?_
         refine Pt.tk 17 (some 84) (Pt.bm 26 262143) rfl rfl (by kernel_rfl) hHeld (Or.inl ⟨by rfl, by rintro w' ⟨s0, s1, s2, s3⟩; go_simp; with_reducible rfl⟩) ?_
         refine Pt.pu 18 (some 85) (Pt.bm 26 524287) (by kernel_rfl) ?_
         refine Pt.tk 19 (some 86) (Pt.bm 26 1048575) rfl rfl (by kernel_rfl) hHeld (Or.inl ⟨by rfl, by rintro w' ⟨s0, s1, s2, s3⟩; go_simp; with_reducible rfl⟩) ?_
         refine Pt.pu 20 (some 87) (Pt.bm 26 2097151) (by kernel_rfl) ?_
         refine Pt.pu 21 (some 88) (Pt.bm 26 4194303) (by kernel_rfl) ?_
         refine one_ (i := 22) (N := some 89) (Pt.bm 26 8388607) rfl rfl (by kernel_rfl) (by decide) (fun K hK => ?_)
         refine goes_ Try.func77 (by kernel_rfl) rfl #[.pointer (some ⟨g, 0, none⟩), .int .i64 (impl_Fixed.at_ toL x.f0), .int .i64 (impl_Fixed.at_ toL x.f1)] (by rfl) rfl rfl (by (try simp only [List.map_toArray, List.map_cons, List.map_nil]); first | done | rfl) ?_
         refine (impl_builder_and.calls sB sC _ _ rC _ g w _ HBB.out IT9.out (fun k hk => ⟨Nat.le_trans HBB.out.size hk, fun e_ => by have := blk_lt BB9.out; omega, fun ⟨_, _, _, hc_⟩ => by have := blk_lt hc_; omega⟩) HA.out).mono ?_
         rintro e w10 ⟨rfl, hi, hb, hk⟩
         refine ⟨_, rfl, ?_⟩
         have IT10 := Aside0.mk (IsB.mono hi (fun k hk_ => hk_.1))
         have BB10 := Aside0.mk (blk_kept BB9.out hk (fun h_ => h_.2.1 rfl))
         have BD10 := Aside0.mk (blk_kept BD9.out hk (fun h_ => h_.2.2 ⟨_, _, .inr rfl, BD9.out⟩))
         have BR10 := Aside0.mk (blk_kept BR9.out hk (fun h_ => h_.2.2 ⟨_, _, .inr rfl, BR9.out⟩))
         have HT10 := Aside0.mk (Kd.R_mono (ok' := fun _ => True) (Kd.R_kept (Kd.R_bound HT8.out) hk (fun k hk_ h_ => by
          obtain ⟨_, _, _, q, hq, cells, hc⟩ := hk_
          rw [List.mem_singleton.mp hq] at hc
          exact h_.2.2 ⟨_, _, .inl rfl, hc⟩)) (fun _ _ => trivial))
         have HB10 := Aside0.mk hb
         obtain ⟨u0, u1⟩ := AT9.out _ HT10.out
         refine hK.out _ _ ⟨(blk_cell BB10.out 0).trans rfl, (blk_cell BB10.out 1).trans rfl, u0, u1⟩ (fun hHeld => ?_)
         clear hK K u0 u1 hi hb hk HBB IT9 BB9 BD9 BR9 HT8 HB9
         refine norm_ (a' := ?_) ?_ ?_
         rotate_left
         ·show Act.put _ (some 89) _ = _
          simp only [Act.put, List.setIfInBounds_toArray, List.set_cons_zero, List.set_cons_succ, i64_w, i32_w]
          rfl
         refine one_ (i := 23) (N := some 90) (Pt.bm 26 16777215) rfl rfl (by kernel_rfl) (by decide) (fun K hK => ?_)
         refine value_ (w1 := ?_) (v := ?_) (by rfl) rfl ?_ ?_
         rotate_left 2
         ·go_simp
          constructor
          ·rfl
          ·rfl
         obtain ⟨u0, u1⟩ := AT9.out _ (Kd.R_alloc HT10.out _)
         refine hK.out _ _ ⟨(blk_cell (blk_alloc BB10.out _) 0).trans rfl, (blk_cell (blk_alloc BB10.out _) 1).trans rfl, u0, u1⟩ (fun hHeld => ?_)
         clear hK K u0 u1
         refine norm_ (a' := ?_) ?_ ?_
         rotate_left
         ·show Act.put _ (some 90) _ = _
          simp only [Act.put, List.setIfInBounds_toArray, List.set_cons_zero, List.set_cons_succ, i64_w, i32_w]
          rfl
         refine last_ (i := 24) (N := some 91) (Pt.bm 26 33554431) rfl rfl (by kernel_rfl) (by decide) (fun K hK => ?_)
         refine Kd.R_append_step (Kd.int .i64) (w0 := w) w.heap.size (by rfl) (.tmp 67) (.tmp 90) 38 3 (.int .i64 0) 8 rfl Try.underlying38 info3 rfl (by decide) (by omega) (.slice (some aT) toL.length cT) toL rC [.int .i64 rC] (fun _ => True) (fun _ => False) rfl rfl rfl (fun _ hk => hk.elim) (fun _ _ => trivial) HT10.out HB10.out HB10.out.size LT.out ?_
         intro v1 w11 ho hb hg _
         obtain ⟨A1, cc1, rfl⟩ := Kd.R_slice ho
         have IT11 := Aside0.mk (IT10.out.over HT10.out hg)
         have BD11 := Aside0.mk (blk_grown BD10.out hg (Kd.R_ne HT10.out BD10.out (by decide)))
         have BR11 := Aside0.mk (blk_grown BR10.out hg (Kd.R_ne HT10.out BR10.out (by decide)))
         have HT11 := Aside0.mk ho
         have HB11 := Aside0.mk hb
         refine hK.out _ _ ?_
         clear hK K ho hb hg hHeld IT10 BD10 BR10 BB10 HT10 HB10
         refine norm_ (a' := ?_) ?_ ?_
         rotate_left
         ·show Act.put _ (some 91) _ = _
          simp only [Act.put, List.setIfInBounds_toArray, List.set_cons_zero, List.set_cons_succ, i64_w, i32_w]
          rfl
         refine Pt.pu 25 (some 11) (Pt.bm 26 67108863) (by kernel_rfl) ?_
         refine done_ (by kernel_rfl) ?_
         go_wp2
         go_roundg k1
         case measure => exact Nat.lt_succ_self _
         case rel => exact ⟨i + 1, sC, toL ++ [rC], by first | rfl | (simp only [Int.natCast_add]; rfl) | simp [hw2, hw2'], ⟨by have := HI.out; omega⟩, HLP, ⟨by have h_ := HT11.out; rw [show (toL ++ [rC]).length = toL.length + 1 by simp] at h_; exact h_⟩, IT11, BD11, BR11, HB11⟩
        ·have hi : i = l0_1.length := by have := HI.out; omega
         subst hi
         have c3b : decide ((l0_1.length : Int) < (l0_1.length : Int)) = false := decide_eq_false (by omega)
         have hlp := HLP.out
         rw [List.drop_length, impl_Fixed.lp] at hlp
         obtain ⟨rfl, rfl⟩ := Prod.mk.inj (Option.some.inj hlp)
         have hd := TD.out
         try simp only at hd
         by_cases ce : impl_Fixed.in_ toL edge
         rotate_left
         ·rw [if_neg ce] at hd
          cases hd
         rw [if_pos ce] at hd
         have TD : Aside0 (impl_builder_done.f sB (Go.bits .xor .i64 (rd toL (wrap64 (Int.tdiv edge 2))) (Go.bits .and .i64 edge 1)) = some (r1, r2, r3)) := ⟨hd⟩
         obtain ⟨p0, q0⟩ := ce
         obtain ⟨aT, eT, t0⟩ := Kd.at_int (Kd.R_reads' HT.out).2.2 (wrap64 (Int.tdiv edge 2)) p0 q0
         cases eT
         replace p0 := eq_true p0
         replace q0 := eq_true q0
         clear hlp hd
         go_wp2_with (go_at_call 61; (with_reducible refine (impl_builder_done.calls sB _ r1 r2 r3 _ _ g _ IT.out TD.out).mono ?_); rintro e wD ⟨v1, rfl, hR, hb⟩; obtain ⟨A5, c5, rfl⟩ := Kd.R_slice hR; have HBD := Aside0.mk (below_step HB.out hb); have BRD := Aside0.mk (blk_below BR.out hb); have RD := Aside0.mk (Kd.R_lower hR HB.out.size); have r90 : wD.cell? ⟨gr, 0, none⟩ = some (.int .i64 0) := (blk_cell BRD.out 0).trans rfl; have r91 : wD.cell? ⟨gr, 1, none⟩ = some (.slice none 0 0) := (blk_cell BRD.out 1).trans rfl; have q90 := blk_frozen BRD.out 0; have q91 := blk_frozen BRD.out 1; clear hR hb)
         refine bodyPost_ret (results_ct rfl _ _ gr 28 #[.int .i64 r1, .slice A5 r2.length c5] (0, 0) _ rfl (blk_put (blk_put BRD.out 0 _ rfl) 1 _ rfl) Try.underlying28 rfl (by kernel_rfl)) rfl ?_
         exact ⟨_, rfl, Kd.R_mono (Kd.R_far (p := ⟨gr, 1, none⟩) (Kd.R_far (p := ⟨gr, 0, none⟩) (Kd.R_types RD.out BRD.out (by decide)) (fun _ hk => hk.2) _) (fun _ hk => hk.2) _) (fun _ _ => trivial), below_set (below_set HBD.out GR.out) GR.out⟩

/-- A state of type 121 at block g of W; what its slices lead to came in by w0. -/
def IsS121 (w0 W : World) (g : Nat) (f0 : List Int) (f1 : Int) : Prop := ∃ A0 c0, W.heap[g]? = some (.cells #[.slice A0 f0.length c0, .int .i64 f1] 121 (0, 0)) ∧ w0.heap.size ≤ g ∧ Kd.C (Kd.int .u8) w0 A0 f0.length f0
theorem IsS121.grown {w0 W : World} {g : Nat} {f0 : List Int} {f1 : Int} {W1 : World} {row : Option Nat} (h : IsS121 w0 W g f0 f1) (hw : W.grownBy W1 row) (hne : some g ≠ row) : IsS121 w0 W1 g f0 f1 := by
 obtain ⟨A0, c0, hb, hg, hr0⟩ := h
 exact ⟨A0, c0, blk_grown hb hw hne, hg, hr0⟩
theorem IsS121.own_neN {w0 W : World} {g : Nat} {f0 : List Int} {f1 : Int} {α : Type} {d : Kd α} {e : Nat} {base : Nat} {ok : Nat → Prop} {v : Value} {xs : List α} (h : IsS121 w0 W g f0 f1) (ho : Kd.N d e W base ok v xs) (ht : e ≠ 121) : some g ≠ v.ownBlock := by
 obtain ⟨A0, c0, hb, hg, hr0⟩ := h
 exact Kd.N_ne ho hb ht
theorem IsS121.fresh {w0 W : World} {g : Nat} {f0 : List Int} {f1 : Int} (h : IsS121 w0 W g f0 f1) : ∀ k, W.heap.size ≤ k → k ≠ g := by
 obtain ⟨A0, c0, hb, hg, hr0⟩ := h
 exact Kd.freshB hb
theorem IsS121.kept {w0 W : World} {g : Nat} {f0 : List Int} {f1 : Int} {W1 : World} {S : Nat → Prop} (h : IsS121 w0 W g f0 f1) (hk : Kept W W1 S) (hne : ¬ S g) : IsS121 w0 W1 g f0 f1 := by
 obtain ⟨A0, c0, hb, hg, hr0⟩ := h
 exact ⟨A0, c0, blk_kept hb hk hne, hg, hr0⟩
theorem IsS121.below {w0 W : World} {g : Nat} {f0 : List Int} {f1 : Int} {W1 : World} (h : IsS121 w0 W g f0 f1) (hw : Below W.heap.size W W1) : IsS121 w0 W1 g f0 f1 := h.grown (grown_of_below hw none) (by simp)
theorem IsS121.alloc {w0 W : World} {g : Nat} {f0 : List Int} {f1 : Int} (h : IsS121 w0 W g f0 f1) (o : Obj) : IsS121 w0 (W.alloc o) g f0 f1 := h.below (below_alloc (Below.refl _ _) o)
theorem IsS121.drewN {w0 W : World} {g : Nat} {f0 : List Int} {f1 : Int} (h : IsS121 w0 W g f0 f1) (m : Nat) : IsS121 w0 (W.drewN m) g f0 f1 := h
theorem IsS121.drew {w0 W : World} {g : Nat} {f0 : List Int} {f1 : Int} (h : IsS121 w0 W g f0 f1) : IsS121 w0 W.drew g f0 f1 := h
theorem IsS121.at_ {w0 W : World} {g : Nat} {f0 : List Int} {f1 : Int} {w' : World} {m : Nat} (hq : W.drewN m = w') (h : IsS121 w0 W g f0 f1) : IsS121 w0 w' g f0 f1 := by subst hq; exact IsS121.drewN h m
theorem IsS121.apart {w0 W : World} {g : Nat} {f0 : List Int} {f1 : Int} {α : Type} {d : Kd α} {e : Nat} {base : Nat} {ok : Nat → Prop} {v : Value} {xs : List α} (h : IsS121 w0 W g f0 f1) (ho : d.R e W base ok v xs) (ht : ∀ q, q ∈ e :: d.E → q ≠ 121) : d.R e W base (fun k => ok k ∧ k ≠ g) v xs := by
 obtain ⟨A0, c0, hb, hg, hr0⟩ := h
 exact Kd.R_types ho hb ht
theorem IsS121.own_ne {w0 W : World} {g : Nat} {f0 : List Int} {f1 : Int} {α : Type} {d : Kd α} {e : Nat} {base : Nat} {ok : Nat → Prop} {v : Value} {xs : List α} (h : IsS121 w0 W g f0 f1) (ho : d.R e W base ok v xs) (ht : e ≠ 121) : some g ≠ v.ownBlock := by
 obtain ⟨A0, c0, hb, hg, hr0⟩ := h
 exact Kd.R_ne ho hb ht
theorem IsS121.apartQ {w0 W : World} {g : Nat} {f0 : List Int} {f1 : Int} {α : Type} {d : Kd α} {e : Nat} {base : Nat} {ok : Nat → Prop} {v : Value} {xs : List α} (h : IsS121 w0 W g f0 f1) (ho : d.Q e W base ok v xs) (ht : ∀ q, q ∈ e :: d.E → q ≠ 121) : d.Q e W base (fun k => ok k ∧ k ≠ g) v xs := by
 obtain ⟨A0, c0, hb, hg, hr0⟩ := h
 exact Kd.Q_types ho hb ht
theorem IsS121.own_neQ {w0 W : World} {g : Nat} {f0 : List Int} {f1 : Int} {α : Type} {d : Kd α} {e : Nat} {base : Nat} {ok : Nat → Prop} {v : Value} {xs : List α} (h : IsS121 w0 W g f0 f1) (ho : d.Q e W base ok v xs) (ht : e ≠ 121) : some g ≠ v.ownBlock := by
 obtain ⟨A0, c0, hb, hg, hr0⟩ := h
 exact Kd.Q_ne ho hb ht
theorem IsS121.apartS {w0 W : World} {g : Nat} {f0 : List Int} {f1 : Int} {α : Type} {d : Kd α} {e : Nat} {base : Nat} {ok : Nat → Prop} {v : Value} {xs : List α} (h : IsS121 w0 W g f0 f1) (ho : d.S e W base ok v xs) (ht : ∀ q, q ∈ e :: d.E → q ≠ 121) : d.S e W base (fun k => ok k ∧ k ≠ g) v xs := by
 obtain ⟨A0, c0, hb, hg, hr0⟩ := h
 exact Kd.S_types ho hb ht
theorem IsS121.own_neS {w0 W : World} {g : Nat} {f0 : List Int} {f1 : Int} {α : Type} {d : Kd α} {e : Nat} {base : Nat} {ok : Nat → Prop} {v : Value} {xs : List α} (h : IsS121 w0 W g f0 f1) (ho : d.S e W base ok v xs) (ht : e ≠ 121) : some g ≠ v.ownBlock := by
 obtain ⟨A0, c0, hb, hg, hr0⟩ := h
 exact Kd.S_ne ho hb ht
theorem IsS121.lt {w0 W : World} {g : Nat} {f0 : List Int} {f1 : Int} (h : IsS121 w0 W g f0 f1) : g < W.heap.size := by
 obtain ⟨A0, c0, hb, hg, hr0⟩ := h
 exact blk_lt hb
theorem IsS121.ge {w0 W : World} {g : Nat} {f0 : List Int} {f1 : Int} (h : IsS121 w0 W g f0 f1) : w0.heap.size ≤ g := by
 obtain ⟨A0, c0, hb, hg, hr0⟩ := h
 exact hg
theorem IsS121.ne_blk {w0 W : World} {g : Nat} {f0 : List Int} {f1 : Int} {a : Nat} {cs : Array Value} {t : TypeId} {fr : Nat × Nat} (h : IsS121 w0 W g f0 f1) (hb2 : W.heap[a]? = some (.cells cs t fr)) (ht : t ≠ 121) : g ≠ a := by
 obtain ⟨A0, c0, hb, hg, hr0⟩ := h
 rintro rfl
 rw [hb] at hb2
 injection hb2 with hb2
 injection hb2 with _ ht2
 exact ht ht2.symm
theorem IsS121.far {w0 W : World} {g : Nat} {f0 : List Int} {f1 : Int} {p : Addr} (h : IsS121 w0 W g f0 f1) (hne : g ≠ p.block) (u : Value) : IsS121 w0 (W.setCell p u) g f0 f1 := by
 obtain ⟨A0, c0, hb, hg, hr0⟩ := h
 exact ⟨A0, c0, blk_far hb hne u, hg, hr0⟩
theorem cellS121_0 {W : World} {g : Nat} {A0 : Option Addr} {c0 : Nat} {f0 : List Int} {f1 : Int} (h : W.heap[g]? = some (.cells #[.slice A0 f0.length c0, .int .i64 f1] 121 (0, 0))) : W.cell? ⟨g, 0, none⟩ = some (.slice A0 f0.length c0) := (blk_cell h 0).trans rfl
theorem cellS121_1 {W : World} {g : Nat} {A0 : Option Addr} {c0 : Nat} {f0 : List Int} {f1 : Int} (h : W.heap[g]? = some (.cells #[.slice A0 f0.length c0, .int .i64 f1] 121 (0, 0))) : W.cell? ⟨g, 1, none⟩ = some (.int .i64 f1) := (blk_cell h 1).trans rfl
theorem IsS121.set_1 {w0 W : World} {g : Nat} {f0 : List Int} {f1 : Int} (h : IsS121 w0 W g f0 f1) (x : Int) : IsS121 w0 (W.setCell ⟨g, 1, none⟩ (.int .i64 x)) g f0 x := by
 obtain ⟨A0, c0, hb, hg, hr0⟩ := h
 exact ⟨A0, c0, by simpa using blk_set hb 1 (.int .i64 x), hg, hr0⟩
theorem IsS121.new (w0 W : World) (A0 : Option Addr) (c0 : Nat) (f0 : List Int) (f1 : Int) (hB : Below w0.heap.size w0 W) (hr0 : Kd.C (Kd.int .u8) w0 A0 f0.length f0) : IsS121 w0 (W.alloc (.cells #[.slice A0 f0.length c0, .int .i64 f1] 121)) W.heap.size f0 f1 := ⟨A0, c0, by simpa using heap_alloc_new W _, hB.size, hr0⟩

/-! ### spec_l40Open: function 67 -/
def spec_l40Open.f (l0 : List Int) : Option (List Int × Int) := if (l0.length : Int) > 2000 then (if 2000 ≤ (l0.length : Int) then (some (l0.take 2000, 0)) else (none)) else (some (l0, 0))
set_option maxHeartbeats 8000000 in
set_option maxRecDepth 100000 in
theorem spec_l40Open.calls (A0 : Option Addr) (c0 : Nat) (l0 : List Int) (r1 : List Int) (r2 : Int) (w0 w : World) (hB : Below w0.heap.size w0 w) (hr0 : Kd.C (Kd.int .u8) w0 A0 l0.length l0) (hc0 : l0.length ≤ c0) (h : spec_l40Open.f l0 = some (r1, r2)) :
  Calls Try.prog 67 #[.slice A0 l0.length c0] w fun e w' => ∃ g_ : Nat, e = .returned (.pointer (some ⟨g_, 0, none⟩)) ∧ IsS121 w0 w' g_ r1 r2 ∧ Below w0.heap.size w0 w' ∧ Below w.heap.size w w' := by
 have hu121 := Try.underlying121
 have HR0 := Aside0.mk hr0
 have HC0 := Aside0.mk hc0
 clear hr0 hc0
 have HBW := Aside0.mk (Below.refl w.heap.size w)
 have HW0 := Aside0.mk hB.size
 have HB := Aside0.mk hB
 clear hB
 have H : (if (l0.length : Int) > 2000 then (if 2000 ≤ (l0.length : Int) then (some (l0.take 2000, 0)) else (none)) else (some (l0, 0))) = some (r1, r2) := h
 clear h
 by_cases c2 : (l0.length : Int) > 2000
 ·rw [if_pos c2] at H
  have c2b0 : decide (2000 < (l0.length : Int)) = true := decide_eq_true c2
  have c2b1 : decide (2000 < l0.length) = true := decide_eq_true (by omega)
  clear c2
  by_cases c3 : 2000 ≤ (l0.length : Int)
  ·rw [if_pos c3] at H
   have c3b0 := eq_true c3
   have c3b1 : decide (2000 ≤ (l0.length : Int)) = true := decide_eq_true c3
   clear c3
   simp only [Option.some.injEq, Prod.mk.injEq] at H
   obtain ⟨rfl, rfl⟩ := H
   obtain ⟨i04, hi04, _, hsz4, _⟩ := info_parts info5
   obtain ⟨hcut4, hA4, hC4⟩ := print_take_of (P := Try.prog) (Value.int .u8) 0 35 5 .i64 Try.underlying35 hi04 hsz4 A0 c0 l0 2000 (by omega) (oda) HC0.out
   have HR202 := Aside0.mk (Kd.C_of_reads (h1 := fun _ => rfl) (hA4 _ (Kd.reads_of_C HR0.out)))
   have HC202 := Aside0.mk hC4
   clear hA4 hC4 hi04 hsz4
   go_enter Try.func67, Try.ntmps67
   go_wp2_with (first | ((with_reducible refine gate_dst (N := 10) rfl ?_); refine box_event ?hg (N := 10) ?hd (cs := #[.slice A0 (l0.take 2000).length c0, .int .i64 0]) (t := 121) ?hr ?_; (case hd => rfl); (case hg => rfl); (case hr => first | (go_simp; done) | (go_simp; rfl)); intro gb203 hg w5 hbox hb; have n0_ := Aside0.mk (below_step HBW.out hb); have n1_ := Aside0.mk (below_step hbB hb); have n2_ := Aside0.mk (hbox); have n3_ := Aside0.mk ((by rw [hg]; exact (below_size (by repeat (first | (with_reducible first | exact HBW.out | apply bwA | apply bwN | apply bwD) | exact HBW.out))) : w.heap.size ≤ gb203)); have n4_ := Aside0.mk ((Nat.le_trans HW0.out (by rw [hg]; exact (below_size (by repeat (first | (with_reducible first | exact HBW.out | apply bwA | apply bwN | apply bwD) | exact HBW.out))) : w.heap.size ≤ gb203) : w0.heap.size ≤ gb203)); clear HBW; clear HB; have HBW := n0_; have HB := n1_; have BK203 := n2_; have GW203 := n3_; have GE203 := n4_; clear n0_ n1_ n2_ n3_ n4_; clear hb hbox hg))
   go_ret
   exact ⟨_, rfl, (show IsS121 w0 _ gb203 (l0.take 2000) 0 from ⟨_, _, by (with_reducible repeat (first | refine blk_drewN ?_ _ | refine blk_drew ?_ | refine blk_alloc ?_ _)); exact BK203.out, GE203.out, HR202.out⟩), hbC, by repeat (first | (with_reducible first | exact HBW.out | apply bwA | apply bwN | apply bwD | refine below_set ?_ GW203.out) | exact HBW.out)⟩
  ·rw [if_neg c3] at H
   exact absurd H (by simp)
 ·rw [if_neg c2] at H
  have c2b0 : decide (2000 < (l0.length : Int)) = false := decide_eq_false c2
  have c2b1 : decide (2000 < l0.length) = false := decide_eq_false (by omega)
  clear c2
  simp only [Option.some.injEq, Prod.mk.injEq] at H
  obtain ⟨rfl, rfl⟩ := H
  go_enter Try.func67, Try.ntmps67
  go_wp2_with (first | ((with_reducible refine gate_dst (N := 10) rfl ?_); refine box_event ?hg (N := 10) ?hd (cs := #[.slice A0 l0.length c0, .int .i64 0]) (t := 121) ?hr ?_; (case hd => rfl); (case hg => rfl); (case hr => first | (go_simp; done) | (go_simp; rfl)); intro gb204 hg w6 hbox hb; have n0_ := Aside0.mk (below_step HBW.out hb); have n1_ := Aside0.mk (below_step hbB hb); have n2_ := Aside0.mk (hbox); have n3_ := Aside0.mk ((by rw [hg]; exact (below_size (by repeat (first | (with_reducible first | exact HBW.out | apply bwA | apply bwN | apply bwD) | exact HBW.out))) : w.heap.size ≤ gb204)); have n4_ := Aside0.mk ((Nat.le_trans HW0.out (by rw [hg]; exact (below_size (by repeat (first | (with_reducible first | exact HBW.out | apply bwA | apply bwN | apply bwD) | exact HBW.out))) : w.heap.size ≤ gb204) : w0.heap.size ≤ gb204)); clear HBW; clear HB; have HBW := n0_; have HB := n1_; have BK204 := n2_; have GW204 := n3_; have GE204 := n4_; clear n0_ n1_ n2_ n3_ n4_; clear hb hbox hg))
  go_ret
  exact ⟨_, rfl, (show IsS121 w0 _ gb204 l0 0 from ⟨_, _, by (with_reducible repeat (first | refine blk_drewN ?_ _ | refine blk_drew ?_ | refine blk_alloc ?_ _)); exact BK204.out, GE204.out, HR0.out⟩), hbC, by repeat (first | (with_reducible first | exact HBW.out | apply bwA | apply bwN | apply bwD | refine below_set ?_ GW204.out) | exact HBW.out)⟩

/-! ### spec_l40Rd_pick: function 79 -/
def spec_l40Rd_pick.j0 : Nat → Int → Bool → List Int → Int → Option (Int × Int)
 | 0, _, _, _, _ => none
 | k + 1, x1, x24, x1000, x1001 => if x24 = true then (some (0, x1001)) else (if (wrap64 (x1001 - 1)) < (x1000.length : Int) then (if 0 ≤ (wrap64 (x1001 - 1)) then (if x1 = 0 then (none) else (some (Int.tmod (wrap64 (rd x1000 (wrap64 (x1001 - 1)))) x1, x1001))) else (none)) else (if (x1000.length : Int) = 0 then (none) else (if 0 ≤ (Int.tmod (wrap64 (x1001 - 1)) (x1000.length : Int)) then (if (Int.tmod (wrap64 (x1001 - 1)) (x1000.length : Int)) < (x1000.length : Int) then (if 0 ≤ (Int.tmod (wrap64 ((wrap64 ((wrap64 (x1001 - 1)) * 7)) + 3)) (x1000.length : Int)) then (if (Int.tmod (wrap64 ((wrap64 ((wrap64 (x1001 - 1)) * 7)) + 3)) (x1000.length : Int)) < (x1000.length : Int) then (if x1 = 0 then (none) else (some (Int.tmod (Go.bits .xor .i64 (wrap64 ((wrap64 ((wrap64 ((wrap64 ((wrap64 (rd x1000 (Int.tmod (wrap64 (x1001 - 1)) (x1000.length : Int)))) * 131)) + (wrap64 ((wrap64 (rd x1000 (Int.tmod (wrap64 ((wrap64 ((wrap64 (x1001 - 1)) * 7)) + 3)) (x1000.length : Int)))) * 1117)))) + (wrap64 ((wrap64 (x1001 - 1)) * 29)))) + (wrap64 ((wrap64 (Int.tdiv (wrap64 (x1001 - 1)) (x1000.length : Int))) * 53)))) (wrap64 (Int.tdiv (wrap64 ((wrap64 ((wrap64 ((wrap64 ((wrap64 (rd x1000 (Int.tmod (wrap64 (x1001 - 1)) (x1000.length : Int)))) * 131)) + (wrap64 ((wrap64 (rd x1000 (Int.tmod (wrap64 ((wrap64 ((wrap64 (x1001 - 1)) * 7)) + 3)) (x1000.length : Int)))) * 1117)))) + (wrap64 ((wrap64 (x1001 - 1)) * 29)))) + (wrap64 ((wrap64 (Int.tdiv (wrap64 (x1001 - 1)) (x1000.length : Int))) * 53)))) 64))) x1, x1001))) else (none)) else (none)) else (none)) else (none))))
def spec_l40Rd_pick.f (k : Nat) (s0_0 : List Int) (s0_1 : Int) (a1 : Int) : Option (Int × Int) := if a1 < 1 then (spec_l40Rd_pick.j0 k a1 true s0_0 (wrap64 (s0_1 + 1))) else (spec_l40Rd_pick.j0 k a1 ((s0_0.length : Int) == 0) s0_0 (wrap64 (s0_1 + 1)))
theorem spec_l40Rd_pick.mono_l : ∀ k, (∀ y0 y1 y2 y3, LeO (spec_l40Rd_pick.j0 k y0 y1 y2 y3) (spec_l40Rd_pick.j0 (k + 1) y0 y1 y2 y3))
 | 0 => fun _ _ _ _ r h => by simp [spec_l40Rd_pick.j0] at h
 | k + 1 => by
  have ih0 := spec_l40Rd_pick.mono_l k
  ·intro y0 y1 y2 y3
   unfold spec_l40Rd_pick.j0
   repeat' first
   | (with_reducible exact ih0 _ _ _ _)
   | (with_reducible exact LeO.refl _)
   | (with_reducible exact LeO.none _)
   | (with_reducible refine LeO.ite ?_ ?_)
   | (with_reducible refine LeO.bind ?_ (fun _ => ?_))
   | exact ih0 _ _ _ _
   | exact LeO.none _
   | refine LeO.ite ?_ ?_
   | refine LeO.bind ?_ (fun _ => ?_)
theorem spec_l40Rd_pick.mono : ∀ a0 a1 a2 k, LeO (spec_l40Rd_pick.f k a0 a1 a2) (spec_l40Rd_pick.f (k + 1) a0 a1 a2) := by
 intro a0 a1 a2 k
 have ih0 := spec_l40Rd_pick.mono_l k
 unfold spec_l40Rd_pick.f
 repeat' first
   | (with_reducible exact ih0 _ _ _ _)
   | (with_reducible exact LeO.refl _)
   | (with_reducible exact LeO.none _)
   | (with_reducible refine LeO.ite ?_ ?_)
   | (with_reducible refine LeO.bind ?_ (fun _ => ?_))
   | exact ih0 _ _ _ _
   | exact LeO.none _
   | refine LeO.ite ?_ ?_
   | refine LeO.bind ?_ (fun _ => ?_)
set_option maxHeartbeats 8000000 in
set_option maxRecDepth 100000 in
theorem spec_l40Rd_pick.calls (k : Nat) (g : Nat) (s0_0 : List Int) (s0_1 : Int) (a1 : Int) (r1 : Int) (r2 : Int) (w0 w : World) (hI : IsS121 w0 w g s0_0 s0_1) (hB : Below w0.heap.size w0 w) (h : spec_l40Rd_pick.f k s0_0 s0_1 a1 = some (r1, r2)) :
  Calls Try.prog 79 #[.pointer (some ⟨g, 0, none⟩), .int .i64 a1] w fun e w' => e = .returned (.int .i64 r1) ∧ IsS121 w0 w' g s0_0 r2 ∧ Below w0.heap.size w0 w' ∧ KeepBut w w' g none := by
 have HI0 := Aside0.mk hI
 have HK := Aside0.mk (KeepBut.refl w g none)
 have HL := Aside0.mk hB.size
 clear hI
 have HW0 := Aside0.mk hB.size
 have HB := Aside0.mk hB
 clear hB
 have H : (if a1 < 1 then (spec_l40Rd_pick.j0 k a1 true s0_0 (wrap64 (s0_1 + 1))) else (spec_l40Rd_pick.j0 k a1 ((s0_0.length : Int) == 0) s0_0 (wrap64 (s0_1 + 1)))) = some (r1, r2) := h
 clear h
 have HC3 := Aside0.mk H
 clear H
 obtain ⟨ASz4_0, cSz4_0, HGz4, hgz4, HSz4_0⟩ := HI0.out
 have hcz4_0 := cellS121_0 HGz4
 have hcz4_1 := cellS121_1 HGz4
 have hfz4_1 := blk_frozen HGz4 1
 clear HGz4 hgz4
 go_enter Try.func79, Try.ntmps79
 iterate 5 (go_upto_region 2 with (fail); try go_quiet (fail))
 go_cut [24] (fun v24 wc => ∃ (kq : Nat) (x24_2 : Bool), v24 = .bool x24_2 ∧ Aside0 (spec_l40Rd_pick.j0 kq a1 x24_2 s0_0 (wrap64 (s0_1 + 1)) = some (r1, r2)) ∧ Aside0 (kq ≤ k) ∧ Aside0 (IsS121 w0 wc g s0_0 (wrap64 (s0_1 + 1))) ∧ Aside0 (KeepBut w wc g none) ∧ Aside0 (Below w0.heap.size w0 wc))
 case first =>
  have H := HC3.out
  clear HC3
  by_cases c5 : a1 < 1
  ·rw [if_pos c5] at H
   have c5b0 : decide (a1 < 1) = true := decide_eq_true c5
   clear c5
   (first | rw [c5b0] | (simp only [i64_w, i32_w]; rw [c5b0]) | skip)
   have H' := Aside0.mk H
   clear H
   go_wp2
   repeat (go_quiet (fail); try go_wp2)
   go_meet
   case rel => exact ⟨_, (true), rsd, H', ⟨by first | omega | exact Nat.le_refl _⟩, ⟨by repeat (first | (with_reducible first | exact HI0.out | apply IsS121.alloc | apply IsS121.drewN | apply IsS121.drew | apply IsS121.set_1) | exact HI0.out)⟩, ⟨by repeat (first | (with_reducible first | exact HK.out | apply KeepBut.set_ | apply keep_drewN | apply keep_drew | apply keep_alloc) | exact HK.out)⟩, ⟨by repeat (first | (with_reducible first | exact HB.out | apply bwA | apply bwN | apply bwD | refine below_set ?_ (IsS121.ge HI0.out)) | exact HB.out)⟩⟩
  ·rw [if_neg c5] at H
   have c5b0 : decide (a1 < 1) = false := decide_eq_false c5
   clear c5
   (first | rw [c5b0] | (simp only [i64_w, i32_w]; rw [c5b0]) | skip)
   have H' := Aside0.mk H
   clear H
   obtain ⟨ASz6_0, cSz6_0, HGz6, hgz6, HSz6_0⟩ := HI0.out
   have hcz6_0 := cellS121_0 HGz6
   have hcz6_1 := cellS121_1 HGz6
   have hfz6_1 := blk_frozen HGz6 1
   clear HGz6 hgz6
   go_wp2
   repeat (go_quiet (fail); try go_wp2)
   go_meet
   case rel => exact ⟨_, (((s0_0.length : Int) == 0)), rsd, H', ⟨by first | omega | exact Nat.le_refl _⟩, ⟨by repeat (first | (with_reducible first | exact HI0.out | apply IsS121.alloc | apply IsS121.drewN | apply IsS121.drew | apply IsS121.set_1) | exact HI0.out)⟩, ⟨by repeat (first | (with_reducible first | exact HK.out | apply KeepBut.set_ | apply keep_drewN | apply keep_drew | apply keep_alloc) | exact HK.out)⟩, ⟨by repeat (first | (with_reducible first | exact HB.out | apply bwA | apply bwN | apply bwD | refine below_set ?_ (IsS121.ge HI0.out)) | exact HB.out)⟩⟩
 case rest =>
  clear HC3
  try clear p2
  try clear c5
  try clear c5b0
  try clear p6
  try clear hcz4_0
  try clear hcz4_1
  try clear hcz6_0
  try clear hcz6_1
  try clear hfz4_1
  try clear hfz6_1
  obtain ⟨kq, x24_2, rfl, HA, HJ2, HI0, HK, HB⟩ := hcut
  cases kq with
  | zero => exact absurd HA.out (by simp [spec_l40Rd_pick.j0])
  | succ kj2 =>
   have H := HA.out
   clear HA
   simp only [spec_l40Rd_pick.j0] at H
   by_cases c7 : x24_2 = true
   ·subst c7
    have H1 : (some (0, (wrap64 (s0_1 + 1)))) = some (r1, r2) := by rw [if_pos rfl] at H; exact H
    clear H
    have H := H1
    clear H1
    simp only [Option.some.injEq, Prod.mk.injEq] at H
    obtain ⟨rfl, rfl⟩ := H
    go_wp2
    repeat (go_quiet (fail); try go_wp2)
    go_ret
    exact ⟨ers, by repeat (first | (with_reducible first | exact HI0.out | apply IsS121.alloc | apply IsS121.drewN | apply IsS121.drew | apply IsS121.set_1) | exact HI0.out), by repeat (first | (with_reducible first | exact HB.out | apply bwA | apply bwN | apply bwD | refine below_set ?_ (IsS121.ge HI0.out)) | exact HB.out), by repeat (first | (with_reducible first | exact HK.out | apply KeepBut.set_ | apply keep_drewN | apply keep_drew | apply keep_alloc) | exact HK.out)⟩
   ·replace c7 := Bool.eq_false_iff.mpr c7
    subst c7
    have H1 : (if (wrap64 ((wrap64 (s0_1 + 1)) - 1)) < (s0_0.length : Int) then (if 0 ≤ (wrap64 ((wrap64 (s0_1 + 1)) - 1)) then (if a1 = 0 then (none) else (some (Int.tmod (wrap64 (rd s0_0 (wrap64 ((wrap64 (s0_1 + 1)) - 1)))) a1, (wrap64 (s0_1 + 1))))) else (none)) else (if (s0_0.length : Int) = 0 then (none) else (if 0 ≤ (Int.tmod (wrap64 ((wrap64 (s0_1 + 1)) - 1)) (s0_0.length : Int)) then (if (Int.tmod (wrap64 ((wrap64 (s0_1 + 1)) - 1)) (s0_0.length : Int)) < (s0_0.length : Int) then (if 0 ≤ (Int.tmod (wrap64 ((wrap64 ((wrap64 ((wrap64 (s0_1 + 1)) - 1)) * 7)) + 3)) (s0_0.length : Int)) then (if (Int.tmod (wrap64 ((wrap64 ((wrap64 ((wrap64 (s0_1 + 1)) - 1)) * 7)) + 3)) (s0_0.length : Int)) < (s0_0.length : Int) then (if a1 = 0 then (none) else (some (Int.tmod (Go.bits .xor .i64 (wrap64 ((wrap64 ((wrap64 ((wrap64 ((wrap64 (rd s0_0 (Int.tmod (wrap64 ((wrap64 (s0_1 + 1)) - 1)) (s0_0.length : Int)))) * 131)) + (wrap64 ((wrap64 (rd s0_0 (Int.tmod (wrap64 ((wrap64 ((wrap64 ((wrap64 (s0_1 + 1)) - 1)) * 7)) + 3)) (s0_0.length : Int)))) * 1117)))) + (wrap64 ((wrap64 ((wrap64 (s0_1 + 1)) - 1)) * 29)))) + (wrap64 ((wrap64 (Int.tdiv (wrap64 ((wrap64 (s0_1 + 1)) - 1)) (s0_0.length : Int))) * 53)))) (wrap64 (Int.tdiv (wrap64 ((wrap64 ((wrap64 ((wrap64 ((wrap64 (rd s0_0 (Int.tmod (wrap64 ((wrap64 (s0_1 + 1)) - 1)) (s0_0.length : Int)))) * 131)) + (wrap64 ((wrap64 (rd s0_0 (Int.tmod (wrap64 ((wrap64 ((wrap64 ((wrap64 (s0_1 + 1)) - 1)) * 7)) + 3)) (s0_0.length : Int)))) * 1117)))) + (wrap64 ((wrap64 ((wrap64 (s0_1 + 1)) - 1)) * 29)))) + (wrap64 ((wrap64 (Int.tdiv (wrap64 ((wrap64 (s0_1 + 1)) - 1)) (s0_0.length : Int))) * 53)))) 64))) a1, (wrap64 (s0_1 + 1))))) else (none)) else (none)) else (none)) else (none)))) = some (r1, r2) := by rw [if_neg (show ¬ (false = true) by decide)] at H; exact H
    clear H
    have H := H1
    clear H1
    by_cases c8 : (wrap64 ((wrap64 (s0_1 + 1)) - 1)) < (s0_0.length : Int)
    ·rw [if_pos c8] at H
     have c8b0 : decide ((wrap64 ((wrap64 (s0_1 + 1)) - 1)) < (s0_0.length : Int)) = true := decide_eq_true c8
     clear c8
     obtain ⟨ji9, hji9⟩ : ∃ j_ : Int, (wrap64 ((wrap64 (s0_1 + 1)) - 1)) = j_ := ⟨_, rfl⟩
     replace H : (if 0 ≤ (ji9) then (if a1 = 0 then (none) else (some (Int.tmod (wrap64 (rd s0_0 (ji9))) a1, (wrap64 (s0_1 + 1))))) else (none)) = some (r1, r2) := by first | (rw [hji9] at H; exact H) | (simp only [hji9] at H ⊢; exact H)
     (try rw [hji9] at c8b0)
     have hji9w : (IntKind.i64.wrap ((wrap64 (s0_1 + 1)) - 1)) = ji9 := (i64_w _).trans hji9
     by_cases c10 : 0 ≤ (ji9)
     ·rw [if_pos c10] at H
      have c10b0 : decide (0 ≤ (ji9)) = true := decide_eq_true c10
      clear c10
      by_cases c11 : a1 = 0
      ·rw [if_pos c11] at H
       exact absurd H (by simp)
      ·rw [if_neg c11] at H
       have c11b0 : (a1 == 0) = false := beq_eq_false_iff_ne.mpr c11
       have c11b1 : (a1 != 0) = true := bne_iff_ne.mpr c11
       simp only [Option.some.injEq, Prod.mk.injEq] at H
       obtain ⟨rfl, rfl⟩ := H
       obtain ⟨ASz12_0, cSz12_0, HGz12, hgz12, HSz12_0⟩ := HI0.out
       have hcz12_0 := cellS121_0 HGz12
       have hcz12_1 := cellS121_1 HGz12
       have hfz12_1 := blk_frozen HGz12 1
       clear HGz12 hgz12
       have p205 : 0 ≤ ((ji9) : Int) := oda
       have q205 : (ji9) < (s0_0.length : Int) := oda
       obtain ⟨ad205, e205, hx205_0⟩ := Kd.at_int HSz12_0 (ji9) p205 q205
       cases e205
       replace hx205_0 := pw_cell_below HB.out hx205_0
       replace p205 := eq_true p205
       replace q205 := eq_true q205
       go_wp2
       repeat (go_quiet (fail); try go_wp2)
       go_ret
       exact ⟨by first | rfl | (simp [errW_none, errW_some] <;> rfl) | (simp only [← hji9]; first | rfl | (simp [errW_none, errW_some] <;> rfl)) | (simp [*, errW_none, errW_some] <;> rfl), by repeat (first | (with_reducible first | exact HI0.out | apply IsS121.alloc | apply IsS121.drewN | apply IsS121.drew | apply IsS121.set_1) | exact HI0.out), by repeat (first | (with_reducible first | exact HB.out | apply bwA | apply bwN | apply bwD | refine below_set ?_ (IsS121.ge HI0.out)) | exact HB.out), by repeat (first | (with_reducible first | exact HK.out | apply KeepBut.set_ | apply keep_drewN | apply keep_drew | apply keep_alloc) | exact HK.out)⟩
     ·rw [if_neg c10] at H
      exact absurd H (by simp)
    ·rw [if_neg c8] at H
     have c8b0 : decide ((wrap64 ((wrap64 (s0_1 + 1)) - 1)) < (s0_0.length : Int)) = false := decide_eq_false c8
     clear c8
     by_cases c13 : (s0_0.length : Int) = 0
     ·rw [if_pos c13] at H
      exact absurd H (by simp)
     ·rw [if_neg c13] at H
      have c13b0 : ((s0_0.length : Int) == 0) = false := beq_eq_false_iff_ne.mpr c13
      have c13b1 : ((s0_0.length : Int) != 0) = true := bne_iff_ne.mpr c13
      have c13b2 : ¬ (s0_0 = []) := fun h_ => c13 (by rw [h_]; rfl)
      obtain ⟨ji14, hji14⟩ : ∃ j_ : Int, (Int.tmod (wrap64 ((wrap64 (s0_1 + 1)) - 1)) (s0_0.length : Int)) = j_ := ⟨_, rfl⟩
      replace H : (if 0 ≤ (ji14) then (if (ji14) < (s0_0.length : Int) then (if 0 ≤ (Int.tmod (wrap64 ((wrap64 ((wrap64 ((wrap64 (s0_1 + 1)) - 1)) * 7)) + 3)) (s0_0.length : Int)) then (if (Int.tmod (wrap64 ((wrap64 ((wrap64 ((wrap64 (s0_1 + 1)) - 1)) * 7)) + 3)) (s0_0.length : Int)) < (s0_0.length : Int) then (if a1 = 0 then (none) else (some (Int.tmod (Go.bits .xor .i64 (wrap64 ((wrap64 ((wrap64 ((wrap64 ((wrap64 (rd s0_0 (ji14))) * 131)) + (wrap64 ((wrap64 (rd s0_0 (Int.tmod (wrap64 ((wrap64 ((wrap64 ((wrap64 (s0_1 + 1)) - 1)) * 7)) + 3)) (s0_0.length : Int)))) * 1117)))) + (wrap64 ((wrap64 ((wrap64 (s0_1 + 1)) - 1)) * 29)))) + (wrap64 ((wrap64 (Int.tdiv (wrap64 ((wrap64 (s0_1 + 1)) - 1)) (s0_0.length : Int))) * 53)))) (wrap64 (Int.tdiv (wrap64 ((wrap64 ((wrap64 ((wrap64 ((wrap64 (rd s0_0 (ji14))) * 131)) + (wrap64 ((wrap64 (rd s0_0 (Int.tmod (wrap64 ((wrap64 ((wrap64 ((wrap64 (s0_1 + 1)) - 1)) * 7)) + 3)) (s0_0.length : Int)))) * 1117)))) + (wrap64 ((wrap64 ((wrap64 (s0_1 + 1)) - 1)) * 29)))) + (wrap64 ((wrap64 (Int.tdiv (wrap64 ((wrap64 (s0_1 + 1)) - 1)) (s0_0.length : Int))) * 53)))) 64))) a1, (wrap64 (s0_1 + 1))))) else (none)) else (none)) else (none)) else (none)) = some (r1, r2) := by first | (rw [hji14] at H; exact H) | (simp only [hji14] at H ⊢; exact H)
      by_cases c15 : 0 ≤ (ji14)
      ·rw [if_pos c15] at H
       have c15b0 : decide (0 ≤ (ji14)) = true := decide_eq_true c15
       clear c15
       by_cases c16 : (ji14) < (s0_0.length : Int)
       ·rw [if_pos c16] at H
        have c16b0 : decide ((ji14) < (s0_0.length : Int)) = true := decide_eq_true c16
        clear c16
        obtain ⟨ji17, hji17⟩ : ∃ j_ : Int, (Int.tmod (wrap64 ((wrap64 ((wrap64 ((wrap64 (s0_1 + 1)) - 1)) * 7)) + 3)) (s0_0.length : Int)) = j_ := ⟨_, rfl⟩
        replace H : (if 0 ≤ (ji17) then (if (ji17) < (s0_0.length : Int) then (if a1 = 0 then (none) else (some (Int.tmod (Go.bits .xor .i64 (wrap64 ((wrap64 ((wrap64 ((wrap64 ((wrap64 (rd s0_0 (ji14))) * 131)) + (wrap64 ((wrap64 (rd s0_0 (ji17))) * 1117)))) + (wrap64 ((wrap64 ((wrap64 (s0_1 + 1)) - 1)) * 29)))) + (wrap64 ((wrap64 (Int.tdiv (wrap64 ((wrap64 (s0_1 + 1)) - 1)) (s0_0.length : Int))) * 53)))) (wrap64 (Int.tdiv (wrap64 ((wrap64 ((wrap64 ((wrap64 ((wrap64 (rd s0_0 (ji14))) * 131)) + (wrap64 ((wrap64 (rd s0_0 (ji17))) * 1117)))) + (wrap64 ((wrap64 ((wrap64 (s0_1 + 1)) - 1)) * 29)))) + (wrap64 ((wrap64 (Int.tdiv (wrap64 ((wrap64 (s0_1 + 1)) - 1)) (s0_0.length : Int))) * 53)))) 64))) a1, (wrap64 (s0_1 + 1))))) else (none)) else (none)) = some (r1, r2) := by first | (rw [hji17] at H; exact H) | (simp only [hji17] at H ⊢; exact H)
        by_cases c18 : 0 ≤ (ji17)
        ·rw [if_pos c18] at H
         have c18b0 : decide (0 ≤ (ji17)) = true := decide_eq_true c18
         clear c18
         by_cases c19 : (ji17) < (s0_0.length : Int)
         ·rw [if_pos c19] at H
          have c19b0 : decide ((ji17) < (s0_0.length : Int)) = true := decide_eq_true c19
          clear c19
          by_cases c20 : a1 = 0
          ·rw [if_pos c20] at H
           exact absurd H (by simp)
          ·rw [if_neg c20] at H
           have c20b0 : (a1 == 0) = false := beq_eq_false_iff_ne.mpr c20
           have c20b1 : (a1 != 0) = true := bne_iff_ne.mpr c20
           simp only [Option.some.injEq, Prod.mk.injEq] at H
           obtain ⟨rfl, rfl⟩ := H
           obtain ⟨ASz21_0, cSz21_0, HGz21, hgz21, HSz21_0⟩ := HI0.out
           have hcz21_0 := cellS121_0 HGz21
           have hcz21_1 := cellS121_1 HGz21
           have hfz21_1 := blk_frozen HGz21 1
           clear HGz21 hgz21
           have p206 : 0 ≤ ((ji14) : Int) := oda
           have q206 : (ji14) < (s0_0.length : Int) := oda
           obtain ⟨ad206, e206, hx206_0⟩ := Kd.at_int HSz21_0 (ji14) p206 q206
           cases e206
           replace hx206_0 := pw_cell_below HB.out hx206_0
           replace p206 := eq_true p206
           replace q206 := eq_true q206
           have p207 : 0 ≤ ((ji17) : Int) := oda
           have q207 : (ji17) < (s0_0.length : Int) := oda
           obtain ⟨ad207, e207, hx207_0⟩ := Kd.at_int HSz21_0 (ji17) p207 q207
           obtain rfl : ad206 = ad207 := (by injection e207)
           replace hx207_0 := pw_cell_below HB.out hx207_0
           replace p207 := eq_true p207
           replace q207 := eq_true q207
           go_wp2
           repeat (go_quiet (fail); try go_wp2)
           go_ret
           exact ⟨by first | rfl | (simp [errW_none, errW_some] <;> rfl) | (simp only [← hji14, ← hji17]; first | rfl | (simp [errW_none, errW_some] <;> rfl)) | (simp [*, errW_none, errW_some] <;> rfl), by repeat (first | (with_reducible first | exact HI0.out | apply IsS121.alloc | apply IsS121.drewN | apply IsS121.drew | apply IsS121.set_1) | exact HI0.out), by repeat (first | (with_reducible first | exact HB.out | apply bwA | apply bwN | apply bwD | refine below_set ?_ (IsS121.ge HI0.out)) | exact HB.out), by repeat (first | (with_reducible first | exact HK.out | apply KeepBut.set_ | apply keep_drewN | apply keep_drew | apply keep_alloc) | exact HK.out)⟩
         ·rw [if_neg c19] at H
          exact absurd H (by simp)
        ·rw [if_neg c18] at H
         exact absurd H (by simp)
       ·rw [if_neg c16] at H
        exact absurd H (by simp)
      ·rw [if_neg c15] at H
       exact absurd H (by simp)

/-! ### spec_l40Rd_num: function 80 -/
def spec_l40Rd_num.f (k : Nat) (s0_0 : List Int) (s0_1 : Int) (l1 : List Int) : Option (Int × Int) := (spec_l40Rd_pick.f k s0_0 s0_1 (l1.length : Int)).bind fun bt208 => (if 0 ≤ bt208.1 then (if bt208.1 < (l1.length : Int) then (some (rd l1 bt208.1, bt208.2)) else (none)) else (none))
theorem spec_l40Rd_num.mono : ∀ a0 a1 a2 k, LeO (spec_l40Rd_num.f k a0 a1 a2) (spec_l40Rd_num.f (k + 1) a0 a1 a2) := by
 intro a0 a1 a2 k
 unfold spec_l40Rd_num.f
 repeat' first
   | (with_reducible exact spec_l40Rd_pick.mono _ _ _ _)
   | (with_reducible exact LeO.refl _)
   | (with_reducible exact LeO.none _)
   | (with_reducible refine LeO.ite ?_ ?_)
   | (with_reducible refine LeO.bind ?_ (fun _ => ?_))
   | exact spec_l40Rd_pick.mono _ _ _ _
   | exact LeO.none _
   | refine LeO.ite ?_ ?_
   | refine LeO.bind ?_ (fun _ => ?_)
set_option maxHeartbeats 8000000 in
set_option maxRecDepth 100000 in
theorem spec_l40Rd_num.calls (k : Nat) (g : Nat) (s0_0 : List Int) (s0_1 : Int) (A1 : Option Addr) (c1 : Nat) (l1 : List Int) (r1 : Int) (r2 : Int) (w0 w : World) (hI : IsS121 w0 w g s0_0 s0_1) (hB : Below w0.heap.size w0 w) (hr1 : Kd.C (Kd.int .i64) w A1 l1.length l1) (hc1 : l1.length ≤ c1) (hf1 : ∀ ad, A1 = some ad → 0 < l1.length → ad.block ≠ g) (h : spec_l40Rd_num.f k s0_0 s0_1 l1 = some (r1, r2)) :
  Calls Try.prog 80 #[.pointer (some ⟨g, 0, none⟩), .slice A1 l1.length c1] w fun e w' => e = .returned (.int .i64 r1) ∧ IsS121 w0 w' g s0_0 r2 ∧ Below w0.heap.size w0 w' ∧ KeepBut w w' g none := by
 have HR1 := Aside0.mk hr1
 have HC1 := Aside0.mk hc1
 clear hr1 hc1
 have HI0 := Aside0.mk hI
 have HK := Aside0.mk (KeepBut.refl w g none)
 have HL := Aside0.mk hB.size
 clear hI
 have HW0 := Aside0.mk hB.size
 have HB := Aside0.mk hB
 clear hB
 have H : ((spec_l40Rd_pick.f k s0_0 s0_1 (l1.length : Int)).bind fun bt208 => (if 0 ≤ bt208.1 then (if bt208.1 < (l1.length : Int) then (some (rd l1 bt208.1, bt208.2)) else (none)) else (none))) = some (r1, r2) := h
 clear h
 replace H := Option.bind_eq_some_iff.mp H
 obtain ⟨⟨t208, t209⟩, A30, H⟩ := H
 replace H : (if 0 ≤ t208 then (if t208 < (l1.length : Int) then (some (rd l1 t208, t209)) else (none)) else (none)) = some (r1, r2) := H
 have A3 := Aside0.mk A30
 clear A30
 by_cases c4 : 0 ≤ t208
 ·rw [if_pos c4] at H
  have c4b0 : decide (0 ≤ t208) = true := decide_eq_true c4
  clear c4
  by_cases c5 : t208 < (l1.length : Int)
  ·rw [if_pos c5] at H
   have c5b0 : decide (t208 < (l1.length : Int)) = true := decide_eq_true c5
   clear c5
   simp only [Option.some.injEq, Prod.mk.injEq] at H
   obtain ⟨rfl, rfl⟩ := H
   go_enter Try.func80, Try.ntmps80
   go_wp2_with (first | ((with_reducible refine gate_callee (f := 79) rfl ?_); refine goesL_ (some 9) rfl rfl Try.func79 (by kernel_rfl) rfl #[.pointer (some ⟨g, 0, none⟩), .int .i64 (l1.length : Int)] rfl lmB ?_; (with_reducible refine (spec_l40Rd_pick.calls k g s0_0 s0_1 (l1.length : Int) t208 t209 w0 _ ?side1 ?side2 A3.out).mono ?_); (case side1 => repeat (first | (with_reducible first | exact HI0.out | apply IsS121.alloc | apply IsS121.drewN | apply IsS121.drew | apply IsS121.set_1) | exact HI0.out)); (case side2 => repeat (first | (with_reducible first | exact HB.out | apply bwA | apply bwN | apply bwD | refine below_set ?_ (IsS121.ge HI0.out)) | exact HB.out)); rintro e w6 ⟨rfl, hi, hb, hk⟩; refine ⟨_, rfl, ?_⟩; have n0_ := Aside0.mk (KeepBut.trans (by repeat (first | (with_reducible first | exact HK.out | apply KeepBut.set_ | apply keep_drewN | apply keep_drew | apply keep_alloc) | exact HK.out)) hk (.inl rfl)); have n1_ := Aside0.mk (hb); have n2_ := Aside0.mk (hi); clear HK; clear HB; clear HI0; have HK := n0_; have HB := n1_; have HI0 := n2_; clear n0_ n1_ n2_; (try clear hb); (try clear hb2); (try clear hk); (try clear hi); have p210 : 0 ≤ (t208 : Int) := oda; have q210 : t208 < (l1.length : Int) := oda; obtain ⟨ad210, e210, hx210_0⟩ := Kd.at_int HR1.out t208 p210 q210; cases e210; replace hx210_0 := keep_cell HK.out hx210_0 (by first | (rw [add_block]; exact hf1 _ rfl (by omega)) | exact hf1 _ rfl (by omega) | exact hf1 ad210 rfl (by omega)); replace p210 := eq_true p210; replace q210 := eq_true q210))
   go_ret
   exact ⟨ers, by repeat (first | (with_reducible first | exact HI0.out | apply IsS121.alloc | apply IsS121.drewN | apply IsS121.drew | apply IsS121.set_1) | exact HI0.out), by repeat (first | (with_reducible first | exact HB.out | apply bwA | apply bwN | apply bwD | refine below_set ?_ (IsS121.ge HI0.out)) | exact HB.out), by repeat (first | (with_reducible first | exact HK.out | apply KeepBut.set_ | apply keep_drewN | apply keep_drew | apply keep_alloc) | exact HK.out)⟩
  ·rw [if_neg c5] at H
   exact absurd H (by simp)
 ·rw [if_neg c4] at H
  exact absurd H (by simp)

/-! ### spec_l7Some: function 68 -/
def spec_l7Some.f (k : Nat) (s0_0 : List Int) (s0_1 : Int) (a1_0 : Int) (l1_1 : List (S92)) : Option (Int × Int) := (spec_l7Nodes.f a1_0 l1_1).bind fun t212 => ((spec_l40Rd_pick.f k s0_0 s0_1 15).bind fun bt213 => (if bt213.1 = 0 then ((spec_l40Rd_num.f k s0_0 bt213.2 (([wrap64 (2 * t212), (-1)] : List Int))).bind fun bt218 => (some (bt218.1, bt218.2))) else ((spec_l40Rd_pick.f k s0_0 bt213.2 2).bind fun bt220 => (if bt220.1 = 0 then ((spec_l40Rd_pick.f k s0_0 bt220.2 4).bind fun bt222 => (some (wrap64 ((wrap64 ((wrap64 (2 * t212)) - 1)) - bt222.1), bt222.2))) else ((spec_l40Rd_pick.f k s0_0 bt220.2 (wrap64 (2 * t212))).bind fun bt224 => (some (bt224.1, bt224.2)))))))
theorem spec_l7Some.mono : ∀ a0 a1 a2 a3 k, LeO (spec_l7Some.f k a0 a1 a2 a3) (spec_l7Some.f (k + 1) a0 a1 a2 a3) := by
 intro a0 a1 a2 a3 k
 unfold spec_l7Some.f
 repeat' first
   | (with_reducible exact spec_l40Rd_num.mono _ _ _ _)
   | (with_reducible exact spec_l40Rd_pick.mono _ _ _ _)
   | (with_reducible exact LeO.refl _)
   | (with_reducible exact LeO.none _)
   | (with_reducible refine LeO.ite ?_ ?_)
   | (with_reducible refine LeO.bind ?_ (fun _ => ?_))
   | exact spec_l40Rd_num.mono _ _ _ _
   | exact spec_l40Rd_pick.mono _ _ _ _
   | exact LeO.none _
   | refine LeO.ite ?_ ?_
   | refine LeO.bind ?_ (fun _ => ?_)
set_option maxHeartbeats 8000000 in
set_option maxRecDepth 100000 in
theorem spec_l7Some.calls (k : Nat) (g : Nat) (s0_0 : List Int) (s0_1 : Int) (a1_0 : Int) (A1_1 : Option Addr) (c1_1 : Nat) (l1_1 : List (S92)) (r1 : Int) (r2 : Int) (w0 w : World) (hI : IsS121 w0 w g s0_0 s0_1) (hB : Below w0.heap.size w0 w) (hr1_1 : ∀ W_, KeepBut w W_ g none → Kd.C k92 W_ A1_1 l1_1.length l1_1) (hc1_1 : l1_1.length ≤ c1_1) (h : spec_l7Some.f k s0_0 s0_1 a1_0 l1_1 = some (r1, r2)) :
  Calls Try.prog 68 #[.pointer (some ⟨g, 0, none⟩), .agg #[.int .i64 a1_0, .slice A1_1 l1_1.length c1_1]] w fun e w' => e = .returned (.int .i64 r1) ∧ IsS121 w0 w' g s0_0 r2 ∧ Below w0.heap.size w0 w' ∧ KeepBut w w' g none := by
 have hu28 := Try.underlying28
 have HR1_1 := Aside0.mk hr1_1
 have HC1_1 := Aside0.mk hc1_1
 clear hr1_1 hc1_1
 have HI0 := Aside0.mk hI
 have HK := Aside0.mk (KeepBut.refl w g none)
 have HL := Aside0.mk hB.size
 clear hI
 have HW0 := Aside0.mk hB.size
 have HB := Aside0.mk hB
 clear hB
 have H : ((spec_l7Nodes.f a1_0 l1_1).bind fun t212 => ((spec_l40Rd_pick.f k s0_0 s0_1 15).bind fun bt213 => (if bt213.1 = 0 then ((spec_l40Rd_num.f k s0_0 bt213.2 (([wrap64 (2 * t212), (-1)] : List Int))).bind fun bt218 => (some (bt218.1, bt218.2))) else ((spec_l40Rd_pick.f k s0_0 bt213.2 2).bind fun bt220 => (if bt220.1 = 0 then ((spec_l40Rd_pick.f k s0_0 bt220.2 4).bind fun bt222 => (some (wrap64 ((wrap64 ((wrap64 (2 * t212)) - 1)) - bt222.1), bt222.2))) else ((spec_l40Rd_pick.f k s0_0 bt220.2 (wrap64 (2 * t212))).bind fun bt224 => (some (bt224.1, bt224.2)))))))) = some (r1, r2) := h
 clear h
 replace H := Option.bind_eq_some_iff.mp H
 obtain ⟨t212, A30, H⟩ := H
 replace H : ((spec_l40Rd_pick.f k s0_0 s0_1 15).bind fun bt213 => (if bt213.1 = 0 then ((spec_l40Rd_num.f k s0_0 bt213.2 (([wrap64 (2 * t212), (-1)] : List Int))).bind fun bt218 => (some (bt218.1, bt218.2))) else ((spec_l40Rd_pick.f k s0_0 bt213.2 2).bind fun bt220 => (if bt220.1 = 0 then ((spec_l40Rd_pick.f k s0_0 bt220.2 4).bind fun bt222 => (some (wrap64 ((wrap64 ((wrap64 (2 * t212)) - 1)) - bt222.1), bt222.2))) else ((spec_l40Rd_pick.f k s0_0 bt220.2 (wrap64 (2 * t212))).bind fun bt224 => (some (bt224.1, bt224.2))))))) = some (r1, r2) := H
 have A3 := Aside0.mk A30
 clear A30
 replace H := Option.bind_eq_some_iff.mp H
 obtain ⟨⟨t213, t214⟩, A40, H⟩ := H
 replace H : (if t213 = 0 then ((spec_l40Rd_num.f k s0_0 t214 (([wrap64 (2 * t212), (-1)] : List Int))).bind fun bt218 => (some (bt218.1, bt218.2))) else ((spec_l40Rd_pick.f k s0_0 t214 2).bind fun bt220 => (if bt220.1 = 0 then ((spec_l40Rd_pick.f k s0_0 bt220.2 4).bind fun bt222 => (some (wrap64 ((wrap64 ((wrap64 (2 * t212)) - 1)) - bt222.1), bt222.2))) else ((spec_l40Rd_pick.f k s0_0 bt220.2 (wrap64 (2 * t212))).bind fun bt224 => (some (bt224.1, bt224.2)))))) = some (r1, r2) := H
 have A4 := Aside0.mk A40
 clear A40
 by_cases c5 : t213 = 0
 ·rw [if_pos c5] at H
  have c5b0 : (t213 == 0) = true := beq_iff_eq.mpr c5
  have c5b1 : (t213 != 0) = false := bne_eq_false_iff_eq.mpr c5
  clear c5
  obtain ⟨y215, hy215⟩ : ∃ y_ : List Int, y_ = (([wrap64 (2 * t212), (-1)] : List Int)) := ⟨_, rfl⟩
  replace H : ((spec_l40Rd_num.f k s0_0 t214 y215).bind fun bt218 => (some (bt218.1, bt218.2))) = some (r1, r2) := by first | (rw [hy215]; with_reducible exact H) | (have H2_ := (Option.bind_some _ _).symm.trans H; rw [hy215]; with_reducible exact H2_) | (have H2_ := (Option.bind_some _ _).symm.trans H; with_reducible exact H2_) | with_reducible exact H | (rw [hy215]; exact H) | exact H
  have Ny215 := Aside0.mk hy215
  clear hy215
  replace H := Option.bind_eq_some_iff.mp H
  obtain ⟨⟨t218, t219⟩, A60, H⟩ := H
  replace H : (some (t218, t219)) = some (r1, r2) := H
  have A6 := Aside0.mk A60
  clear A60
  simp only [Option.some.injEq, Prod.mk.injEq] at H
  obtain ⟨rfl, rfl⟩ := H
  go_enter Try.func68, Try.ntmps68
  go_wp2_with (first | ((with_reducible refine gate_dst (N := 3) rfl ?_); refine box_event ?hg (N := 3) ?hd (cs := #[.int .i64 a1_0, .slice A1_1 l1_1.length c1_1]) (t := 28) ?hr ?_; (case hd => rfl); (case hg => rfl); (case hr => first | (go_simp; done) | (go_simp; rfl)); intro gb211 hg w7 hbox hb; have n0_ := Aside0.mk (IsS121.below (by repeat (first | (with_reducible first | exact HI0.out | apply IsS121.alloc | apply IsS121.drewN | apply IsS121.drew | apply IsS121.set_1) | exact HI0.out)) hb); have n1_ := Aside0.mk (KeepBut.trans (by repeat (first | (with_reducible first | exact HK.out | apply KeepBut.set_ | apply keep_drewN | apply keep_drew | apply keep_alloc) | exact HK.out)) (KeepBut.of_below hb g none) (.inl rfl)); have n2_ := Aside0.mk (below_step (by repeat (first | (with_reducible first | exact HB.out | apply bwA | apply bwN | apply bwD | refine below_set ?_ (IsS121.ge HI0.out)) | exact HB.out)) hb); have n3_ := Aside0.mk (hbox); have n4_ := Aside0.mk ((by rw [hg]; exact (keep_size (w := w) (g := g) (row := none) (by repeat (first | (with_reducible first | exact HK.out | apply KeepBut.set_ | apply keep_drewN | apply keep_drew | apply keep_alloc) | exact HK.out))) : w.heap.size ≤ gb211)); have n5_ := Aside0.mk ((Nat.le_trans HW0.out (by rw [hg]; exact (keep_size (w := w) (g := g) (row := none) (by repeat (first | (with_reducible first | exact HK.out | apply KeepBut.set_ | apply keep_drewN | apply keep_drew | apply keep_alloc) | exact HK.out))) : w.heap.size ≤ gb211) : w0.heap.size ≤ gb211)); have n6_ := Aside0.mk ((by rw [hg]; exact Nat.ne_of_lt (IsS121.lt (show IsS121 w0 _ g s0_0 s0_1 from by repeat (first | (with_reducible first | exact HI0.out | apply IsS121.alloc | apply IsS121.drewN | apply IsS121.drew | apply IsS121.set_1) | exact HI0.out))) : g ≠ gb211)); have n7_ := Aside0.mk ((by rw [hg]; exact Nat.ne_of_gt (IsS121.lt (show IsS121 w0 _ g s0_0 s0_1 from by repeat (first | (with_reducible first | exact HI0.out | apply IsS121.alloc | apply IsS121.drewN | apply IsS121.drew | apply IsS121.set_1) | exact HI0.out))) : gb211 ≠ g)); clear HI0; clear HK; clear HB; have HI0 := n0_; have HK := n1_; have HB := n2_; have BK211 := n3_; have GW211 := n4_; have GE211 := n5_; have NB0_211 := n6_; have NB211_0 := n7_; clear n0_ n1_ n2_ n3_ n4_ n5_ n6_ n7_; clear hb hbox hg; have hnb8 := NB211_0.out; have hnc8 := NB0_211.out; have hcz9_0 : w7.cell? ⟨gb211, 0, none⟩ = some (.int .i64 a1_0) := (blk_cell BK211.out 0).trans rfl; have hcz9_1 : w7.cell? ⟨gb211, 1, none⟩ = some (.slice A1_1 l1_1.length c1_1) := (blk_cell BK211.out 1).trans rfl; have hfz9_0 := blk_frozen BK211.out 0; have hfz9_1 := blk_frozen BK211.out 1) | ((with_reducible refine gate_callee (f := 105) rfl ?_); refine goesL_ (some 7) rfl rfl Try.func105 (by kernel_rfl) rfl #[.agg #[.int .i64 a1_0, .slice A1_1 l1_1.length c1_1]] rfl lmB ?_; (with_reducible refine (spec_l7Nodes.calls a1_0 _ _ l1_1 t212 _ ?side1 ?side2 A3.out).mono ?_); (case side1 => exact Kd.C_foot_now HR1_1.out (by repeat (first | (with_reducible first | exact HK.out | apply KeepBut.set_ | apply keep_drewN | apply keep_drew | apply keep_alloc | refine keep_far ?_ GW211.out _) | exact HK.out))); (case side2 => exact HC1_1.out); rintro e w10 ⟨rfl, hb⟩; refine ⟨_, rfl, ?_⟩; have n0_ := Aside0.mk (IsS121.below (by repeat (first | (with_reducible first | exact HI0.out | apply IsS121.alloc | apply IsS121.drewN | apply IsS121.drew | apply IsS121.set_1 | refine IsS121.far ?_ NB0_211.out _) | exact HI0.out)) hb); have n1_ := Aside0.mk (blk_below (g := gb211) (o := .cells #[.int .i64 a1_0, .slice A1_1 l1_1.length c1_1] 28 (0, 0)) (bvK BK211.out) hb); have n2_ := Aside0.mk (KeepBut.trans (by repeat (first | (with_reducible first | exact HK.out | apply KeepBut.set_ | apply keep_drewN | apply keep_drew | apply keep_alloc | refine keep_far ?_ GW211.out _) | exact HK.out)) (KeepBut.of_below hb g none) (.inl rfl)); have n3_ := Aside0.mk (below_step (by repeat (first | (with_reducible first | exact HB.out | apply bwA | apply bwN | apply bwD | refine below_set ?_ (IsS121.ge HI0.out) | refine below_set ?_ GE211.out) | exact HB.out)) hb); clear HI0; clear BK211; clear HK; clear HB; have HI0 := n0_; have BK211 := n1_; have HK := n2_; have HB := n3_; clear n0_ n1_ n2_ n3_; (try clear hb); (try clear hb2); (try clear hk); (try clear hi)) | ((with_reducible refine gate_callee (f := 79) rfl ?_); refine goesL_ (some 10) rfl rfl Try.func79 (by kernel_rfl) rfl #[.pointer (some ⟨g, 0, none⟩), .int .i64 15] rfl lmB ?_; (with_reducible refine (spec_l40Rd_pick.calls k g s0_0 s0_1 15 t213 t214 w0 _ ?side1 ?side2 A4.out).mono ?_); (case side1 => repeat (first | (with_reducible first | exact HI0.out | apply IsS121.alloc | apply IsS121.drewN | apply IsS121.drew | apply IsS121.set_1 | refine IsS121.far ?_ NB0_211.out _) | exact HI0.out)); (case side2 => repeat (first | (with_reducible first | exact HB.out | apply bwA | apply bwN | apply bwD | refine below_set ?_ (IsS121.ge HI0.out) | refine below_set ?_ GE211.out) | exact HB.out)); rintro e w11 ⟨rfl, hi, hb, hk⟩; refine ⟨_, rfl, ?_⟩; have n0_ := Aside0.mk (KeepBut.blk hk (g' := gb211) (o := .cells #[.int .i64 a1_0, .slice A1_1 l1_1.length c1_1] 28 (0, 0)) (bvK BK211.out) NB211_0.out (by simp)); have n1_ := Aside0.mk (KeepBut.trans (by repeat (first | (with_reducible first | exact HK.out | apply KeepBut.set_ | apply keep_drewN | apply keep_drew | apply keep_alloc | refine keep_far ?_ GW211.out _) | exact HK.out)) hk (.inl rfl)); have n2_ := Aside0.mk (hb); have n3_ := Aside0.mk (hi); clear BK211; clear HK; clear HB; clear HI0; have BK211 := n0_; have HK := n1_; have HB := n2_; have HI0 := n3_; clear n0_ n1_ n2_ n3_; (try clear hb); (try clear hb2); (try clear hk); (try clear hi)) | ((with_reducible refine gate_dst (N := 14) rfl ?_); refine Kd.R_lit (Kd.int .i64) _ 3 ?hg (N := 14) ?hd (xs := ([wrap64 (2 * t212), (-1)] : List Int)) (inner := [.int .i64 (wrap64 (2 * t212)), .int .i64 (-1)]) (ok := fun _ => True) (okp := fun _ => True) ?hr ?hp (fun _ hk => hk) trivial (Below.refl _ _) (Nat.le_refl _) (by simp) ?_; (case hd => rfl); (case hg => rfl); (case hr => first | (go_simp; done) | (go_simp; rfl)); (case hp => exact (Reps.one (show Kd.M (Kd.int .i64) _ _ _ (wrap64 (2 * t212)) [.int .i64 (wrap64 (2 * t212))] from rfl) (Reps.one (show Kd.M (Kd.int .i64) _ _ _ (-1) [.int .i64 (-1)] from rfl) (Reps.none _ _)))); intro v216 w12 ho13 hb hg_ hnew_; clear hg_ hnew_; (first | rw [← Ny215.out] at ho13 | (simp only [Int.reduceToNat] at ho13; rw [← Ny215.out] at ho13)); have n0_ := Aside0.mk (Kd.R_lower ho13 (keep_size (w := w) (g := g) (row := none) (by repeat (first | (with_reducible first | exact HK.out | apply KeepBut.set_ | apply keep_drewN | apply keep_drew | apply keep_alloc | refine keep_far ?_ GW211.out _) | exact HK.out)))); have n1_ := Aside0.mk (IsS121.below (by repeat (first | (with_reducible first | exact HI0.out | apply IsS121.alloc | apply IsS121.drewN | apply IsS121.drew | apply IsS121.set_1 | refine IsS121.far ?_ NB0_211.out _) | exact HI0.out)) hb); have n2_ := Aside0.mk (blk_below (g := gb211) (o := .cells #[.int .i64 a1_0, .slice A1_1 l1_1.length c1_1] 28 (0, 0)) (bvK BK211.out) hb); have n3_ := Aside0.mk (KeepBut.trans (by repeat (first | (with_reducible first | exact HK.out | apply KeepBut.set_ | apply keep_drewN | apply keep_drew | apply keep_alloc | refine keep_far ?_ GW211.out _) | exact HK.out)) (KeepBut.of_below hb g none) (.inl rfl)); have n4_ := Aside0.mk (below_step (by repeat (first | (with_reducible first | exact HB.out | apply bwA | apply bwN | apply bwD | refine below_set ?_ (IsS121.ge HI0.out) | refine below_set ?_ GE211.out) | exact HB.out)) hb); clear HI0; clear BK211; clear HK; clear HB; have HO217 := n0_; have HI0 := n1_; have BK211 := n2_; have HK := n3_; have HB := n4_; clear n0_ n1_ n2_ n3_ n4_; clear hb ho13; obtain ⟨Ao14, co14, eo14⟩ := Kd.R_slice HO217.out; subst eo14) | ((with_reducible refine gate_callee (f := 80) rfl ?_); refine goesL_ (some 15) rfl rfl Try.func80 (by kernel_rfl) rfl #[.pointer (some ⟨g, 0, none⟩), .slice Ao14 y215.length co14] rfl lmB ?_; (with_reducible refine (spec_l40Rd_num.calls k g s0_0 t214 _ _ y215 t218 t219 w0 _ ?side1 ?side2 ?side3 ?side4 ?side5 A6.out).mono ?_); (case side1 => repeat (first | (with_reducible first | exact HI0.out | apply IsS121.alloc | apply IsS121.drewN | apply IsS121.drew | apply IsS121.set_1 | refine IsS121.far ?_ NB0_211.out _) | exact HI0.out)); (case side2 => repeat (first | (with_reducible first | exact HB.out | apply bwA | apply bwN | apply bwD | refine below_set ?_ (IsS121.ge HI0.out) | refine below_set ?_ GE211.out) | exact HB.out)); (case side3 => exact kcR (Kd.R_reads' HO217.out).2.2); (case side4 => exact (Kd.R_reads' HO217.out).2.1); (case side5 => exact far_slice (IsS121.own_ne HI0.out HO217.out (by decide))); rintro e w15 ⟨rfl, hi, hb, hk⟩; refine ⟨_, rfl, ?_⟩; have n0_ := Aside0.mk (KeepBut.blk hk (g' := gb211) (o := .cells #[.int .i64 a1_0, .slice A1_1 l1_1.length c1_1] 28 (0, 0)) (bvK BK211.out) NB211_0.out (by simp)); have n1_ := Aside0.mk (Kd.R_mono (Kd.R_keep (IsS121.apart (show IsS121 w0 _ g s0_0 t214 from by repeat (first | (with_reducible first | exact HI0.out | apply IsS121.alloc | apply IsS121.drewN | apply IsS121.drew | apply IsS121.set_1 | refine IsS121.far ?_ NB0_211.out _) | exact HI0.out)) (rvR HO217.out) (by decide)) hk (fun _ h => h.2)) (fun _ h => h.1)); have n2_ := Aside0.mk (KeepBut.trans (by repeat (first | (with_reducible first | exact HK.out | apply KeepBut.set_ | apply keep_drewN | apply keep_drew | apply keep_alloc | refine keep_far ?_ GW211.out _) | exact HK.out)) hk (.inl rfl)); have n3_ := Aside0.mk (hb); have n4_ := Aside0.mk (hi); clear BK211; clear HO217; clear HK; clear HB; clear HI0; have BK211 := n0_; have HO217 := n1_; have HK := n2_; have HB := n3_; have HI0 := n4_; clear n0_ n1_ n2_ n3_ n4_; (try clear hb); (try clear hb2); (try clear hk); (try clear hi)))
  go_ret
  exact ⟨ers, by repeat (first | (with_reducible first | exact HI0.out | apply IsS121.alloc | apply IsS121.drewN | apply IsS121.drew | apply IsS121.set_1 | refine IsS121.far ?_ NB0_211.out _) | exact HI0.out), by repeat (first | (with_reducible first | exact HB.out | apply bwA | apply bwN | apply bwD | refine below_set ?_ (IsS121.ge HI0.out) | refine below_set ?_ GE211.out) | exact HB.out), by repeat (first | (with_reducible first | exact HK.out | apply KeepBut.set_ | apply keep_drewN | apply keep_drew | apply keep_alloc | refine keep_far ?_ GW211.out _) | exact HK.out)⟩
 ·rw [if_neg c5] at H
  have c5b0 : (t213 == 0) = false := beq_eq_false_iff_ne.mpr c5
  have c5b1 : (t213 != 0) = true := bne_iff_ne.mpr c5
  replace H := Option.bind_eq_some_iff.mp H
  obtain ⟨⟨t220, t221⟩, A160, H⟩ := H
  replace H : (if t220 = 0 then ((spec_l40Rd_pick.f k s0_0 t221 4).bind fun bt222 => (some (wrap64 ((wrap64 ((wrap64 (2 * t212)) - 1)) - bt222.1), bt222.2))) else ((spec_l40Rd_pick.f k s0_0 t221 (wrap64 (2 * t212))).bind fun bt224 => (some (bt224.1, bt224.2)))) = some (r1, r2) := H
  have A16 := Aside0.mk A160
  clear A160
  by_cases c17 : t220 = 0
  ·rw [if_pos c17] at H
   have c17b0 : (t220 == 0) = true := beq_iff_eq.mpr c17
   have c17b1 : (t220 != 0) = false := bne_eq_false_iff_eq.mpr c17
   clear c17
   replace H := Option.bind_eq_some_iff.mp H
   obtain ⟨⟨t222, t223⟩, A180, H⟩ := H
   replace H : (some (wrap64 ((wrap64 ((wrap64 (2 * t212)) - 1)) - t222), t223)) = some (r1, r2) := H
   have A18 := Aside0.mk A180
   clear A180
   simp only [Option.some.injEq, Prod.mk.injEq] at H
   obtain ⟨rfl, rfl⟩ := H
   go_enter Try.func68, Try.ntmps68
   go_wp2_with (first | ((with_reducible refine gate_dst (N := 3) rfl ?_); refine box_event ?hg (N := 3) ?hd (cs := #[.int .i64 a1_0, .slice A1_1 l1_1.length c1_1]) (t := 28) ?hr ?_; (case hd => rfl); (case hg => rfl); (case hr => first | (go_simp; done) | (go_simp; rfl)); intro gb211 hg w19 hbox hb; have n0_ := Aside0.mk (IsS121.below (by repeat (first | (with_reducible first | exact HI0.out | apply IsS121.alloc | apply IsS121.drewN | apply IsS121.drew | apply IsS121.set_1) | exact HI0.out)) hb); have n1_ := Aside0.mk (KeepBut.trans (by repeat (first | (with_reducible first | exact HK.out | apply KeepBut.set_ | apply keep_drewN | apply keep_drew | apply keep_alloc) | exact HK.out)) (KeepBut.of_below hb g none) (.inl rfl)); have n2_ := Aside0.mk (below_step (by repeat (first | (with_reducible first | exact HB.out | apply bwA | apply bwN | apply bwD | refine below_set ?_ (IsS121.ge HI0.out)) | exact HB.out)) hb); have n3_ := Aside0.mk (hbox); have n4_ := Aside0.mk ((by rw [hg]; exact (keep_size (w := w) (g := g) (row := none) (by repeat (first | (with_reducible first | exact HK.out | apply KeepBut.set_ | apply keep_drewN | apply keep_drew | apply keep_alloc) | exact HK.out))) : w.heap.size ≤ gb211)); have n5_ := Aside0.mk ((Nat.le_trans HW0.out (by rw [hg]; exact (keep_size (w := w) (g := g) (row := none) (by repeat (first | (with_reducible first | exact HK.out | apply KeepBut.set_ | apply keep_drewN | apply keep_drew | apply keep_alloc) | exact HK.out))) : w.heap.size ≤ gb211) : w0.heap.size ≤ gb211)); have n6_ := Aside0.mk ((by rw [hg]; exact Nat.ne_of_lt (IsS121.lt (show IsS121 w0 _ g s0_0 s0_1 from by repeat (first | (with_reducible first | exact HI0.out | apply IsS121.alloc | apply IsS121.drewN | apply IsS121.drew | apply IsS121.set_1) | exact HI0.out))) : g ≠ gb211)); have n7_ := Aside0.mk ((by rw [hg]; exact Nat.ne_of_gt (IsS121.lt (show IsS121 w0 _ g s0_0 s0_1 from by repeat (first | (with_reducible first | exact HI0.out | apply IsS121.alloc | apply IsS121.drewN | apply IsS121.drew | apply IsS121.set_1) | exact HI0.out))) : gb211 ≠ g)); clear HI0; clear HK; clear HB; have HI0 := n0_; have HK := n1_; have HB := n2_; have BK211 := n3_; have GW211 := n4_; have GE211 := n5_; have NB0_211 := n6_; have NB211_0 := n7_; clear n0_ n1_ n2_ n3_ n4_ n5_ n6_ n7_; clear hb hbox hg; have hnb20 := NB211_0.out; have hnc20 := NB0_211.out; have hcz21_0 : w19.cell? ⟨gb211, 0, none⟩ = some (.int .i64 a1_0) := (blk_cell BK211.out 0).trans rfl; have hcz21_1 : w19.cell? ⟨gb211, 1, none⟩ = some (.slice A1_1 l1_1.length c1_1) := (blk_cell BK211.out 1).trans rfl; have hfz21_0 := blk_frozen BK211.out 0; have hfz21_1 := blk_frozen BK211.out 1) | ((with_reducible refine gate_callee (f := 105) rfl ?_); refine goesL_ (some 7) rfl rfl Try.func105 (by kernel_rfl) rfl #[.agg #[.int .i64 a1_0, .slice A1_1 l1_1.length c1_1]] rfl lmB ?_; (with_reducible refine (spec_l7Nodes.calls a1_0 _ _ l1_1 t212 _ ?side1 ?side2 A3.out).mono ?_); (case side1 => exact Kd.C_foot_now HR1_1.out (by repeat (first | (with_reducible first | exact HK.out | apply KeepBut.set_ | apply keep_drewN | apply keep_drew | apply keep_alloc | refine keep_far ?_ GW211.out _) | exact HK.out))); (case side2 => exact HC1_1.out); rintro e w22 ⟨rfl, hb⟩; refine ⟨_, rfl, ?_⟩; have n0_ := Aside0.mk (IsS121.below (by repeat (first | (with_reducible first | exact HI0.out | apply IsS121.alloc | apply IsS121.drewN | apply IsS121.drew | apply IsS121.set_1 | refine IsS121.far ?_ NB0_211.out _) | exact HI0.out)) hb); have n1_ := Aside0.mk (blk_below (g := gb211) (o := .cells #[.int .i64 a1_0, .slice A1_1 l1_1.length c1_1] 28 (0, 0)) (bvK BK211.out) hb); have n2_ := Aside0.mk (KeepBut.trans (by repeat (first | (with_reducible first | exact HK.out | apply KeepBut.set_ | apply keep_drewN | apply keep_drew | apply keep_alloc | refine keep_far ?_ GW211.out _) | exact HK.out)) (KeepBut.of_below hb g none) (.inl rfl)); have n3_ := Aside0.mk (below_step (by repeat (first | (with_reducible first | exact HB.out | apply bwA | apply bwN | apply bwD | refine below_set ?_ (IsS121.ge HI0.out) | refine below_set ?_ GE211.out) | exact HB.out)) hb); clear HI0; clear BK211; clear HK; clear HB; have HI0 := n0_; have BK211 := n1_; have HK := n2_; have HB := n3_; clear n0_ n1_ n2_ n3_; (try clear hb); (try clear hb2); (try clear hk); (try clear hi)) | ((with_reducible refine gate_callee (f := 79) rfl ?_); refine goesL_ (some 10) rfl rfl Try.func79 (by kernel_rfl) rfl #[.pointer (some ⟨g, 0, none⟩), .int .i64 15] rfl lmB ?_; (with_reducible refine (spec_l40Rd_pick.calls k g s0_0 s0_1 15 t213 t214 w0 _ ?side1 ?side2 A4.out).mono ?_); (case side1 => repeat (first | (with_reducible first | exact HI0.out | apply IsS121.alloc | apply IsS121.drewN | apply IsS121.drew | apply IsS121.set_1 | refine IsS121.far ?_ NB0_211.out _) | exact HI0.out)); (case side2 => repeat (first | (with_reducible first | exact HB.out | apply bwA | apply bwN | apply bwD | refine below_set ?_ (IsS121.ge HI0.out) | refine below_set ?_ GE211.out) | exact HB.out)); rintro e w23 ⟨rfl, hi, hb, hk⟩; refine ⟨_, rfl, ?_⟩; have n0_ := Aside0.mk (KeepBut.blk hk (g' := gb211) (o := .cells #[.int .i64 a1_0, .slice A1_1 l1_1.length c1_1] 28 (0, 0)) (bvK BK211.out) NB211_0.out (by simp)); have n1_ := Aside0.mk (KeepBut.trans (by repeat (first | (with_reducible first | exact HK.out | apply KeepBut.set_ | apply keep_drewN | apply keep_drew | apply keep_alloc | refine keep_far ?_ GW211.out _) | exact HK.out)) hk (.inl rfl)); have n2_ := Aside0.mk (hb); have n3_ := Aside0.mk (hi); clear BK211; clear HK; clear HB; clear HI0; have BK211 := n0_; have HK := n1_; have HB := n2_; have HI0 := n3_; clear n0_ n1_ n2_ n3_; (try clear hb); (try clear hb2); (try clear hk); (try clear hi)) | ((with_reducible refine gate_callee (f := 79) rfl ?_); refine goesL_ (some 17) rfl rfl Try.func79 (by kernel_rfl) rfl #[.pointer (some ⟨g, 0, none⟩), .int .i64 2] rfl lmB ?_; (with_reducible refine (spec_l40Rd_pick.calls k g s0_0 t214 2 t220 t221 w0 _ ?side1 ?side2 A16.out).mono ?_); (case side1 => repeat (first | (with_reducible first | exact HI0.out | apply IsS121.alloc | apply IsS121.drewN | apply IsS121.drew | apply IsS121.set_1 | refine IsS121.far ?_ NB0_211.out _) | exact HI0.out)); (case side2 => repeat (first | (with_reducible first | exact HB.out | apply bwA | apply bwN | apply bwD | refine below_set ?_ (IsS121.ge HI0.out) | refine below_set ?_ GE211.out) | exact HB.out)); rintro e w24 ⟨rfl, hi, hb, hk⟩; refine ⟨_, rfl, ?_⟩; have n0_ := Aside0.mk (KeepBut.blk hk (g' := gb211) (o := .cells #[.int .i64 a1_0, .slice A1_1 l1_1.length c1_1] 28 (0, 0)) (bvK BK211.out) NB211_0.out (by simp)); have n1_ := Aside0.mk (KeepBut.trans (by repeat (first | (with_reducible first | exact HK.out | apply KeepBut.set_ | apply keep_drewN | apply keep_drew | apply keep_alloc | refine keep_far ?_ GW211.out _) | exact HK.out)) hk (.inl rfl)); have n2_ := Aside0.mk (hb); have n3_ := Aside0.mk (hi); clear BK211; clear HK; clear HB; clear HI0; have BK211 := n0_; have HK := n1_; have HB := n2_; have HI0 := n3_; clear n0_ n1_ n2_ n3_; (try clear hb); (try clear hb2); (try clear hk); (try clear hi)) | ((with_reducible refine gate_callee (f := 79) rfl ?_); refine goesL_ (some 22) rfl rfl Try.func79 (by kernel_rfl) rfl #[.pointer (some ⟨g, 0, none⟩), .int .i64 4] rfl lmB ?_; (with_reducible refine (spec_l40Rd_pick.calls k g s0_0 t221 4 t222 t223 w0 _ ?side1 ?side2 A18.out).mono ?_); (case side1 => repeat (first | (with_reducible first | exact HI0.out | apply IsS121.alloc | apply IsS121.drewN | apply IsS121.drew | apply IsS121.set_1 | refine IsS121.far ?_ NB0_211.out _) | exact HI0.out)); (case side2 => repeat (first | (with_reducible first | exact HB.out | apply bwA | apply bwN | apply bwD | refine below_set ?_ (IsS121.ge HI0.out) | refine below_set ?_ GE211.out) | exact HB.out)); rintro e w25 ⟨rfl, hi, hb, hk⟩; refine ⟨_, rfl, ?_⟩; have n0_ := Aside0.mk (KeepBut.blk hk (g' := gb211) (o := .cells #[.int .i64 a1_0, .slice A1_1 l1_1.length c1_1] 28 (0, 0)) (bvK BK211.out) NB211_0.out (by simp)); have n1_ := Aside0.mk (KeepBut.trans (by repeat (first | (with_reducible first | exact HK.out | apply KeepBut.set_ | apply keep_drewN | apply keep_drew | apply keep_alloc | refine keep_far ?_ GW211.out _) | exact HK.out)) hk (.inl rfl)); have n2_ := Aside0.mk (hb); have n3_ := Aside0.mk (hi); clear BK211; clear HK; clear HB; clear HI0; have BK211 := n0_; have HK := n1_; have HB := n2_; have HI0 := n3_; clear n0_ n1_ n2_ n3_; (try clear hb); (try clear hb2); (try clear hk); (try clear hi)))
   go_ret
   exact ⟨ers, by repeat (first | (with_reducible first | exact HI0.out | apply IsS121.alloc | apply IsS121.drewN | apply IsS121.drew | apply IsS121.set_1 | refine IsS121.far ?_ NB0_211.out _) | exact HI0.out), by repeat (first | (with_reducible first | exact HB.out | apply bwA | apply bwN | apply bwD | refine below_set ?_ (IsS121.ge HI0.out) | refine below_set ?_ GE211.out) | exact HB.out), by repeat (first | (with_reducible first | exact HK.out | apply KeepBut.set_ | apply keep_drewN | apply keep_drew | apply keep_alloc | refine keep_far ?_ GW211.out _) | exact HK.out)⟩
  ·rw [if_neg c17] at H
   have c17b0 : (t220 == 0) = false := beq_eq_false_iff_ne.mpr c17
   have c17b1 : (t220 != 0) = true := bne_iff_ne.mpr c17
   replace H := Option.bind_eq_some_iff.mp H
   obtain ⟨⟨t224, t225⟩, A260, H⟩ := H
   replace H : (some (t224, t225)) = some (r1, r2) := H
   have A26 := Aside0.mk A260
   clear A260
   simp only [Option.some.injEq, Prod.mk.injEq] at H
   obtain ⟨rfl, rfl⟩ := H
   go_enter Try.func68, Try.ntmps68
   go_wp2_with (first | ((with_reducible refine gate_dst (N := 3) rfl ?_); refine box_event ?hg (N := 3) ?hd (cs := #[.int .i64 a1_0, .slice A1_1 l1_1.length c1_1]) (t := 28) ?hr ?_; (case hd => rfl); (case hg => rfl); (case hr => first | (go_simp; done) | (go_simp; rfl)); intro gb211 hg w27 hbox hb; have n0_ := Aside0.mk (IsS121.below (by repeat (first | (with_reducible first | exact HI0.out | apply IsS121.alloc | apply IsS121.drewN | apply IsS121.drew | apply IsS121.set_1) | exact HI0.out)) hb); have n1_ := Aside0.mk (KeepBut.trans (by repeat (first | (with_reducible first | exact HK.out | apply KeepBut.set_ | apply keep_drewN | apply keep_drew | apply keep_alloc) | exact HK.out)) (KeepBut.of_below hb g none) (.inl rfl)); have n2_ := Aside0.mk (below_step (by repeat (first | (with_reducible first | exact HB.out | apply bwA | apply bwN | apply bwD | refine below_set ?_ (IsS121.ge HI0.out)) | exact HB.out)) hb); have n3_ := Aside0.mk (hbox); have n4_ := Aside0.mk ((by rw [hg]; exact (keep_size (w := w) (g := g) (row := none) (by repeat (first | (with_reducible first | exact HK.out | apply KeepBut.set_ | apply keep_drewN | apply keep_drew | apply keep_alloc) | exact HK.out))) : w.heap.size ≤ gb211)); have n5_ := Aside0.mk ((Nat.le_trans HW0.out (by rw [hg]; exact (keep_size (w := w) (g := g) (row := none) (by repeat (first | (with_reducible first | exact HK.out | apply KeepBut.set_ | apply keep_drewN | apply keep_drew | apply keep_alloc) | exact HK.out))) : w.heap.size ≤ gb211) : w0.heap.size ≤ gb211)); have n6_ := Aside0.mk ((by rw [hg]; exact Nat.ne_of_lt (IsS121.lt (show IsS121 w0 _ g s0_0 s0_1 from by repeat (first | (with_reducible first | exact HI0.out | apply IsS121.alloc | apply IsS121.drewN | apply IsS121.drew | apply IsS121.set_1) | exact HI0.out))) : g ≠ gb211)); have n7_ := Aside0.mk ((by rw [hg]; exact Nat.ne_of_gt (IsS121.lt (show IsS121 w0 _ g s0_0 s0_1 from by repeat (first | (with_reducible first | exact HI0.out | apply IsS121.alloc | apply IsS121.drewN | apply IsS121.drew | apply IsS121.set_1) | exact HI0.out))) : gb211 ≠ g)); clear HI0; clear HK; clear HB; have HI0 := n0_; have HK := n1_; have HB := n2_; have BK211 := n3_; have GW211 := n4_; have GE211 := n5_; have NB0_211 := n6_; have NB211_0 := n7_; clear n0_ n1_ n2_ n3_ n4_ n5_ n6_ n7_; clear hb hbox hg; have hnb28 := NB211_0.out; have hnc28 := NB0_211.out; have hcz29_0 : w27.cell? ⟨gb211, 0, none⟩ = some (.int .i64 a1_0) := (blk_cell BK211.out 0).trans rfl; have hcz29_1 : w27.cell? ⟨gb211, 1, none⟩ = some (.slice A1_1 l1_1.length c1_1) := (blk_cell BK211.out 1).trans rfl; have hfz29_0 := blk_frozen BK211.out 0; have hfz29_1 := blk_frozen BK211.out 1) | ((with_reducible refine gate_callee (f := 105) rfl ?_); refine goesL_ (some 7) rfl rfl Try.func105 (by kernel_rfl) rfl #[.agg #[.int .i64 a1_0, .slice A1_1 l1_1.length c1_1]] rfl lmB ?_; (with_reducible refine (spec_l7Nodes.calls a1_0 _ _ l1_1 t212 _ ?side1 ?side2 A3.out).mono ?_); (case side1 => exact Kd.C_foot_now HR1_1.out (by repeat (first | (with_reducible first | exact HK.out | apply KeepBut.set_ | apply keep_drewN | apply keep_drew | apply keep_alloc | refine keep_far ?_ GW211.out _) | exact HK.out))); (case side2 => exact HC1_1.out); rintro e w30 ⟨rfl, hb⟩; refine ⟨_, rfl, ?_⟩; have n0_ := Aside0.mk (IsS121.below (by repeat (first | (with_reducible first | exact HI0.out | apply IsS121.alloc | apply IsS121.drewN | apply IsS121.drew | apply IsS121.set_1 | refine IsS121.far ?_ NB0_211.out _) | exact HI0.out)) hb); have n1_ := Aside0.mk (blk_below (g := gb211) (o := .cells #[.int .i64 a1_0, .slice A1_1 l1_1.length c1_1] 28 (0, 0)) (bvK BK211.out) hb); have n2_ := Aside0.mk (KeepBut.trans (by repeat (first | (with_reducible first | exact HK.out | apply KeepBut.set_ | apply keep_drewN | apply keep_drew | apply keep_alloc | refine keep_far ?_ GW211.out _) | exact HK.out)) (KeepBut.of_below hb g none) (.inl rfl)); have n3_ := Aside0.mk (below_step (by repeat (first | (with_reducible first | exact HB.out | apply bwA | apply bwN | apply bwD | refine below_set ?_ (IsS121.ge HI0.out) | refine below_set ?_ GE211.out) | exact HB.out)) hb); clear HI0; clear BK211; clear HK; clear HB; have HI0 := n0_; have BK211 := n1_; have HK := n2_; have HB := n3_; clear n0_ n1_ n2_ n3_; (try clear hb); (try clear hb2); (try clear hk); (try clear hi)) | ((with_reducible refine gate_callee (f := 79) rfl ?_); refine goesL_ (some 10) rfl rfl Try.func79 (by kernel_rfl) rfl #[.pointer (some ⟨g, 0, none⟩), .int .i64 15] rfl lmB ?_; (with_reducible refine (spec_l40Rd_pick.calls k g s0_0 s0_1 15 t213 t214 w0 _ ?side1 ?side2 A4.out).mono ?_); (case side1 => repeat (first | (with_reducible first | exact HI0.out | apply IsS121.alloc | apply IsS121.drewN | apply IsS121.drew | apply IsS121.set_1 | refine IsS121.far ?_ NB0_211.out _) | exact HI0.out)); (case side2 => repeat (first | (with_reducible first | exact HB.out | apply bwA | apply bwN | apply bwD | refine below_set ?_ (IsS121.ge HI0.out) | refine below_set ?_ GE211.out) | exact HB.out)); rintro e w31 ⟨rfl, hi, hb, hk⟩; refine ⟨_, rfl, ?_⟩; have n0_ := Aside0.mk (KeepBut.blk hk (g' := gb211) (o := .cells #[.int .i64 a1_0, .slice A1_1 l1_1.length c1_1] 28 (0, 0)) (bvK BK211.out) NB211_0.out (by simp)); have n1_ := Aside0.mk (KeepBut.trans (by repeat (first | (with_reducible first | exact HK.out | apply KeepBut.set_ | apply keep_drewN | apply keep_drew | apply keep_alloc | refine keep_far ?_ GW211.out _) | exact HK.out)) hk (.inl rfl)); have n2_ := Aside0.mk (hb); have n3_ := Aside0.mk (hi); clear BK211; clear HK; clear HB; clear HI0; have BK211 := n0_; have HK := n1_; have HB := n2_; have HI0 := n3_; clear n0_ n1_ n2_ n3_; (try clear hb); (try clear hb2); (try clear hk); (try clear hi)) | ((with_reducible refine gate_callee (f := 79) rfl ?_); refine goesL_ (some 17) rfl rfl Try.func79 (by kernel_rfl) rfl #[.pointer (some ⟨g, 0, none⟩), .int .i64 2] rfl lmB ?_; (with_reducible refine (spec_l40Rd_pick.calls k g s0_0 t214 2 t220 t221 w0 _ ?side1 ?side2 A16.out).mono ?_); (case side1 => repeat (first | (with_reducible first | exact HI0.out | apply IsS121.alloc | apply IsS121.drewN | apply IsS121.drew | apply IsS121.set_1 | refine IsS121.far ?_ NB0_211.out _) | exact HI0.out)); (case side2 => repeat (first | (with_reducible first | exact HB.out | apply bwA | apply bwN | apply bwD | refine below_set ?_ (IsS121.ge HI0.out) | refine below_set ?_ GE211.out) | exact HB.out)); rintro e w32 ⟨rfl, hi, hb, hk⟩; refine ⟨_, rfl, ?_⟩; have n0_ := Aside0.mk (KeepBut.blk hk (g' := gb211) (o := .cells #[.int .i64 a1_0, .slice A1_1 l1_1.length c1_1] 28 (0, 0)) (bvK BK211.out) NB211_0.out (by simp)); have n1_ := Aside0.mk (KeepBut.trans (by repeat (first | (with_reducible first | exact HK.out | apply KeepBut.set_ | apply keep_drewN | apply keep_drew | apply keep_alloc | refine keep_far ?_ GW211.out _) | exact HK.out)) hk (.inl rfl)); have n2_ := Aside0.mk (hb); have n3_ := Aside0.mk (hi); clear BK211; clear HK; clear HB; clear HI0; have BK211 := n0_; have HK := n1_; have HB := n2_; have HI0 := n3_; clear n0_ n1_ n2_ n3_; (try clear hb); (try clear hb2); (try clear hk); (try clear hi)) | ((with_reducible refine gate_callee (f := 79) rfl ?_); refine goesL_ (some 26) rfl rfl Try.func79 (by kernel_rfl) rfl #[.pointer (some ⟨g, 0, none⟩), .int .i64 (wrap64 (2 * t212))] rfl lmB ?_; (with_reducible refine (spec_l40Rd_pick.calls k g s0_0 t221 (wrap64 (2 * t212)) t224 t225 w0 _ ?side1 ?side2 A26.out).mono ?_); (case side1 => repeat (first | (with_reducible first | exact HI0.out | apply IsS121.alloc | apply IsS121.drewN | apply IsS121.drew | apply IsS121.set_1 | refine IsS121.far ?_ NB0_211.out _) | exact HI0.out)); (case side2 => repeat (first | (with_reducible first | exact HB.out | apply bwA | apply bwN | apply bwD | refine below_set ?_ (IsS121.ge HI0.out) | refine below_set ?_ GE211.out) | exact HB.out)); rintro e w33 ⟨rfl, hi, hb, hk⟩; refine ⟨_, rfl, ?_⟩; have n0_ := Aside0.mk (KeepBut.blk hk (g' := gb211) (o := .cells #[.int .i64 a1_0, .slice A1_1 l1_1.length c1_1] 28 (0, 0)) (bvK BK211.out) NB211_0.out (by simp)); have n1_ := Aside0.mk (KeepBut.trans (by repeat (first | (with_reducible first | exact HK.out | apply KeepBut.set_ | apply keep_drewN | apply keep_drew | apply keep_alloc | refine keep_far ?_ GW211.out _) | exact HK.out)) hk (.inl rfl)); have n2_ := Aside0.mk (hb); have n3_ := Aside0.mk (hi); clear BK211; clear HK; clear HB; clear HI0; have BK211 := n0_; have HK := n1_; have HB := n2_; have HI0 := n3_; clear n0_ n1_ n2_ n3_; (try clear hb); (try clear hb2); (try clear hk); (try clear hi)))
   go_ret
   exact ⟨ers, by repeat (first | (with_reducible first | exact HI0.out | apply IsS121.alloc | apply IsS121.drewN | apply IsS121.drew | apply IsS121.set_1 | refine IsS121.far ?_ NB0_211.out _) | exact HI0.out), by repeat (first | (with_reducible first | exact HB.out | apply bwA | apply bwN | apply bwD | refine below_set ?_ (IsS121.ge HI0.out) | refine below_set ?_ GE211.out) | exact HB.out), by repeat (first | (with_reducible first | exact HK.out | apply KeepBut.set_ | apply keep_drewN | apply keep_drew | apply keep_alloc | refine keep_far ?_ GW211.out _) | exact HK.out)⟩

end Go.Proofs.Ytpcckoljocpchaa.QFnFixed
