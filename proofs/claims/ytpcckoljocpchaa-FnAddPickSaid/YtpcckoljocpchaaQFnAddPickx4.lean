-- Written by a program of this session (mk.py). Lean checks it.
import Derived.Test.YtpcckoljocpchaaQFnAddPickx0
import Derived.Test.YtpcckoljocpchaaQFnAddPickx1
import Derived.Test.YtpcckoljocpchaaQFnAddPickx2
import Derived.Test.YtpcckoljocpchaaQFnAddPickx3
namespace Go.Proofs.Ytpcckoljocpchaa.QFnAddPick
open Go.RowKit Go.Proofs.YtpcckoljocpchaaW.PrintWords Go.Proofs.YtpcckoljocpchaaW.PrintLast Go.Proofs.YtpcckoljocpchaaW.PrintMore
attribute [local go_sem] max2_int min2_int max_two min_two max_three min_three max_four min_four   -- for this text's walks alone
set_option linter.unusedVariables false
set_option linter.unusedSimpArgs false

/-! ### spec_l7Pick: function 55 -/
theorem k92_E : k92.E = [] := rfl
def spec_l7Pick.gt (k : Nat) (a0 : Int) (l : List S92) (a b : Int) : Option (Int × List S92 × Int) :=
 if a = 0 then some (a0, l, 0) else if wrap64 (Int.tdiv a 2) = wrap64 (Int.tdiv b 2) ∧ a ≠ b then some (a0, l, 0) else if a = 1 then some (a0, l, b) else if a = b then some (a0, l, b) else
 (spec_l7Find.f k a0 l a b).bind fun t => if 0 ≤ t then some (a0, l, wrap64 (2 * t)) else if 600 ≤ (l.length : Int) then some (a0, l, -1) else if l.length < 8796093022208 then some (a0, l ++ [⟨a, b⟩], wrap64 (2 * (wrap64 ((wrap64 ((wrap64 (1 + a0)) + ((l.length : Int) + 1))) - 1)))) else none
theorem spec_l7Pick.gt_of (k : Nat) (a0 : Int) (l : List S92) (a b : Int) (r : Int × List S92 × Int) (h : spec_l7And.j0 k a b a0 l = some r) : ∃ k', spec_l7Pick.gt k' a0 l a b = some r := by
 cases k with
 | zero => simp [spec_l7And.j0] at h
 | succ k =>
  rw [spec_l7And.j0] at h
  have j1 : ∀ q : Bool, spec_l7And.j1 k a b q a0 l = some r → (q = true ∧ r = (a0, l, 0)) ∨ (q = false ∧ (a = 1 ∧ r = (a0, l, b) ∨ a ≠ 1 ∧ (a = b ∧ r = (a0, l, b) ∨ a ≠ b ∧ ∃ k', ((spec_l7Find.f k' a0 l a b).bind fun t => if 0 ≤ t then some (a0, l, wrap64 (2 * t)) else if 600 ≤ (l.length : Int) then some (a0, l, -1) else if l.length < 8796093022208 then some (a0, l ++ [⟨a, b⟩], wrap64 (2 * (wrap64 ((wrap64 ((wrap64 (1 + a0)) + ((l.length : Int) + 1))) - 1)))) else none) = some r))) := by
   intro q hq
   cases k with
   | zero => simp [spec_l7And.j1] at hq
   | succ k =>
    rw [spec_l7And.j1] at hq
    cases q with
    | true =>
     rw [if_pos rfl] at hq
     exact .inl ⟨rfl, (Option.some.inj hq).symm⟩
    | false =>
     rw [if_neg (by decide)] at hq
     have j2 : ∀ q : Bool, spec_l7And.j2 k a b q a0 l = some r → (q = true ∧ r = (a0, l, b)) ∨ (q = false ∧ ∃ k', ((spec_l7Find.f k' a0 l a b).bind fun t => if 0 ≤ t then some (a0, l, wrap64 (2 * t)) else if 600 ≤ (l.length : Int) then some (a0, l, -1) else if l.length < 8796093022208 then some (a0, l ++ [⟨a, b⟩], wrap64 (2 * (wrap64 ((wrap64 ((wrap64 (1 + a0)) + ((l.length : Int) + 1))) - 1)))) else none) = some r) := by
      intro q hq
      cases k with
      | zero => simp [spec_l7And.j2] at hq
      | succ k =>
       rw [spec_l7And.j2] at hq
       cases q with
       | true =>
        rw [if_pos rfl] at hq
        exact .inl ⟨rfl, (Option.some.inj hq).symm⟩
       | false =>
        rw [if_neg (by decide)] at hq
        refine .inr ⟨rfl, k, ?_⟩
        rw [← hq]
        congr 1
        funext t
        simp only [ge_iff_le, spec_l7Nodes.f, Option.bind_some, List.length_append, List.length_singleton, Int.natCast_add, Int.natCast_one]
        try rfl
     refine .inr ⟨rfl, ?_⟩
     by_cases c1 : a = 1
     ·rw [if_pos c1] at hq
      rcases j2 true hq with ⟨_, h2⟩ | ⟨h2, _⟩
      ·exact .inl ⟨c1, h2⟩
      ·cases h2
     ·rw [if_neg c1] at hq
      refine .inr ⟨c1, ?_⟩
      by_cases c2 : a = b
      ·rw [beq_iff_eq.mpr c2] at hq
       rcases j2 true hq with ⟨_, h2⟩ | ⟨h2, _⟩
       ·exact .inl ⟨c2, h2⟩
       ·cases h2
      ·rw [beq_eq_false_iff_ne.mpr c2] at hq
       rcases j2 false hq with ⟨h2, _⟩ | ⟨_, h2⟩
       ·cases h2
       ·exact .inr ⟨c2, h2⟩
  unfold spec_l7Pick.gt
  by_cases c0 : a = 0
  ·rw [if_pos c0] at h
   rcases j1 true h with ⟨_, h2⟩ | ⟨h2, _⟩
   ·exact ⟨0, by rw [if_pos c0, h2]⟩
   ·cases h2
  rw [if_neg c0] at h
  suffices hs_ : ∃ k', (if wrap64 (Int.tdiv a 2) = wrap64 (Int.tdiv b 2) ∧ a ≠ b then some (a0, l, 0) else if a = 1 then some (a0, l, b) else if a = b then some (a0, l, b) else (spec_l7Find.f k' a0 l a b).bind fun t => if 0 ≤ t then some (a0, l, wrap64 (2 * t)) else if 600 ≤ (l.length : Int) then some (a0, l, -1) else if l.length < 8796093022208 then some (a0, l ++ [⟨a, b⟩], wrap64 (2 * (wrap64 ((wrap64 ((wrap64 (1 + a0)) + ((l.length : Int) + 1))) - 1)))) else none) = some r by
   obtain ⟨k', hk⟩ := hs_
   exact ⟨k', by rw [if_neg c0]; exact hk⟩
  have no : ∀ q : Bool, q = false → spec_l7And.j1 k a b q a0 l = some r → ¬ (wrap64 (Int.tdiv a 2) = wrap64 (Int.tdiv b 2) ∧ a ≠ b) → ∃ k', (if wrap64 (Int.tdiv a 2) = wrap64 (Int.tdiv b 2) ∧ a ≠ b then some (a0, l, 0) else if a = 1 then some (a0, l, b) else if a = b then some (a0, l, b) else (spec_l7Find.f k' a0 l a b).bind fun t => if 0 ≤ t then some (a0, l, wrap64 (2 * t)) else if 600 ≤ (l.length : Int) then some (a0, l, -1) else if l.length < 8796093022208 then some (a0, l ++ [⟨a, b⟩], wrap64 (2 * (wrap64 ((wrap64 ((wrap64 (1 + a0)) + ((l.length : Int) + 1))) - 1)))) else none) = some r := by
   intro q hq h1 h2
   rcases j1 q h1 with ⟨h3, _⟩ | ⟨_, h3⟩
   ·rw [hq] at h3
    cases h3
   ·rcases h3 with ⟨c1, h4⟩ | ⟨c1, ⟨c2, h4⟩ | ⟨c2, k', h4⟩⟩
    ·exact ⟨0, by rw [if_neg h2, if_pos c1, h4]⟩
    ·exact ⟨0, by rw [if_neg h2, if_neg c1, if_pos c2, h4]⟩
    ·exact ⟨k', by rw [if_neg h2, if_neg c1, if_neg c2]; exact h4⟩
  by_cases c1 : wrap64 (Int.tdiv a 2) = wrap64 (Int.tdiv b 2)
  ·rw [if_pos c1] at h
   by_cases c2 : a = b
   ·exact no _ (bne_eq_false_iff_eq.mpr c2) h (fun h => h.2 c2)
   ·rw [bne_iff_ne.mpr c2] at h
    rcases j1 true h with ⟨_, h2⟩ | ⟨h2, _⟩
    ·exact ⟨0, by rw [if_pos ⟨c1, c2⟩, h2]⟩
    ·cases h2
  ·rw [if_neg c1] at h
   exact no false rfl h (fun h => c1 h.1)
set_option maxHeartbeats 8000000 in
set_option maxRecDepth 100000 in
theorem spec_l7Pick.strong (k : Nat) (a0_0 : Int) (ok : Nat → Prop) (u : Value) (l : List S92) (x y r1 : Int) (r2 : List S92) (r3 : Int) (w0 w : World) (hB : Below w0.heap.size w0 w) (ho : Kd.R k92 92 w w0.heap.size ok u l) (hf : ∀ k, w.heap.size ≤ k → ok k) (h : spec_l7And.f k a0_0 l x y = some (r1, r2, r3)) :
  Calls Try.prog 76 #[.agg #[.int .i64 a0_0, u], .int .i64 x, .int .i64 y] w fun e w' => ∃ v1 : Value, e = .returned (.tuple #[.agg #[.int .i64 r1, v1], .int .i64 r3]) ∧ Kd.R k92 92 w' w0.heap.size ok v1 r2 ∧ Below w0.heap.size w0 w' ∧ Kept w w' (fun k_ => u.ownBlock = some k_) ∧ Ap.Stays k92 92 w0.heap.size w u l w' v1 r2 := by
 have hu28 := Try.underlying28
 have hu92 := Try.underlying92
 obtain ⟨A, c, rfl⟩ := Kd.R_slice ho
 have HR := Aside0.mk ho
 have HB := Aside0.mk hB
 have HF := Aside0.mk hf
 unfold spec_l7And.f at h
 clear ho hB hf
 have key : ∃ a b : Int, ((decide (y < x) = true ∧ a = y ∧ b = x) ∨ (decide (y < x) = false ∧ a = x ∧ b = y)) ∧ ∃ k', spec_l7Pick.gt k' a0_0 l a b = some (r1, r2, r3) := by
  by_cases cs : x > y
  ·rw [if_pos cs] at h
   exact ⟨y, x, .inl ⟨decide_eq_true cs, rfl, rfl⟩, spec_l7Pick.gt_of _ _ _ _ _ _ h⟩
  ·rw [if_neg cs] at h
   exact ⟨x, y, .inr ⟨decide_eq_false cs, rfl, rfl⟩, spec_l7Pick.gt_of _ _ _ _ _ _ h⟩
 clear h
 obtain ⟨a, b, key, k', h⟩ := key
 unfold spec_l7Pick.gt at h
 rcases key with ⟨es, e1, e2⟩ | ⟨es, e1, e2⟩
 all_goals
  subst e1
  subst e2
  by_cases c0 : a = 0
  ·rw [if_pos c0] at h
   have e0 : (a == 0) = true := beq_iff_eq.mpr c0
   clear c0
   simp only [Option.some.injEq, Prod.mk.injEq] at h
   obtain ⟨rfl, rfl, rfl⟩ := h
   go_enter Try.func76, Try.ntmps76
   go_wp2_with (first | ((with_reducible refine gate_dst (N := 3) rfl ?_); refine box_event ?hg (N := 3) ?hd (cs := #[.int .i64 a0_0, .slice A l.length c]) (t := 28) ?hr ?_; (case hd => rfl); (case hg => rfl); (case hr => first | (go_simp; done) | (go_simp; rfl)); intro g0 hg0 w1 hbox hb; have BD1 := Aside0.mk hbox; have HB1 := Aside0.mk hb; have GD := Aside0.mk (show w.heap.size ≤ g0 from Nat.le_of_eq hg0.symm); clear hg0 hbox hb) | ((with_reducible refine gate_dst (N := 6) rfl ?_); refine box_event ?hg (N := 6) ?hd (cs := #[.int .i64 0, .slice none 0 0]) (t := 28) ?hr ?_; (case hd => rfl); (case hg => rfl); (case hr => first | (go_simp; done) | (go_simp; rfl)); intro gr hg0 w2 hbox hb; have GR := Aside0.mk (show w.heap.size ≤ gr by rw [hg0]; exact HB1.out.size); have BR2 := Aside0.mk hbox; have GRD := Aside0.mk (show gr ≠ g0 from fun e_ => by have := blk_lt BD1.out; omega); have BD2 := Aside0.mk (blk_below BD1.out hb); have HB2 := Aside0.mk (below_step HB1.out hb); have dg020 : w2.cell? ⟨g0, 0, none⟩ = some (.int .i64 a0_0) := (blk_cell BD2.out 0).trans rfl; have dg021 : w2.cell? ⟨g0, 1, none⟩ = some (.slice A l.length c) := (blk_cell BD2.out 1).trans rfl; have dgr20 : w2.cell? ⟨gr, 0, none⟩ = some (.int .i64 0) := (blk_cell BR2.out 0).trans rfl; have dgr21 : w2.cell? ⟨gr, 1, none⟩ = some (.slice none 0 0) := (blk_cell BR2.out 1).trans rfl; have fgr20 := blk_frozen BR2.out 0; have fgr21 := blk_frozen BR2.out 1;  clear hg0 hbox hb))
   have HE := below_set (below_set HB2.out GR.out (j := 0) (v := .int .i64 a0_0)) GR.out (j := 1) (v := .slice A l.length c)
   refine bodyPost_ret (results_ct rfl _ _ gr 28 #[.int .i64 a0_0, .slice A l.length c] (0, 0) _ rfl (blk_put (blk_put BR2.out 0 _ rfl) 1 _ rfl) Try.underlying28 rfl (by kernel_rfl)) rfl ?_
   exact ⟨_, rfl, Kd.R_below HR.out HE, below_then HB.out HB.out.size HE, Kept.of_below HE _, Ap.Stays.refl HE⟩
  rw [if_neg c0] at h
  have e0 : (a == 0) = false := beq_eq_false_iff_ne.mpr c0
  clear c0
  by_cases c1 : wrap64 (Int.tdiv a 2) = wrap64 (Int.tdiv b 2) ∧ a ≠ b
  ·rw [if_pos c1] at h
   have e1 : (wrap64 (Int.tdiv a 2) == wrap64 (Int.tdiv b 2)) = true := beq_iff_eq.mpr c1.1
   have e2 : (a != b) = true := bne_iff_ne.mpr c1.2
   clear c1
   simp only [Option.some.injEq, Prod.mk.injEq] at h
   obtain ⟨rfl, rfl, rfl⟩ := h
   go_enter Try.func76, Try.ntmps76
   go_wp2_with (first | ((with_reducible refine gate_dst (N := 3) rfl ?_); refine box_event ?hg (N := 3) ?hd (cs := #[.int .i64 a0_0, .slice A l.length c]) (t := 28) ?hr ?_; (case hd => rfl); (case hg => rfl); (case hr => first | (go_simp; done) | (go_simp; rfl)); intro g0 hg0 w1 hbox hb; have BD1 := Aside0.mk hbox; have HB1 := Aside0.mk hb; have GD := Aside0.mk (show w.heap.size ≤ g0 from Nat.le_of_eq hg0.symm); clear hg0 hbox hb) | ((with_reducible refine gate_dst (N := 6) rfl ?_); refine box_event ?hg (N := 6) ?hd (cs := #[.int .i64 0, .slice none 0 0]) (t := 28) ?hr ?_; (case hd => rfl); (case hg => rfl); (case hr => first | (go_simp; done) | (go_simp; rfl)); intro gr hg0 w2 hbox hb; have GR := Aside0.mk (show w.heap.size ≤ gr by rw [hg0]; exact HB1.out.size); have BR2 := Aside0.mk hbox; have GRD := Aside0.mk (show gr ≠ g0 from fun e_ => by have := blk_lt BD1.out; omega); have BD2 := Aside0.mk (blk_below BD1.out hb); have HB2 := Aside0.mk (below_step HB1.out hb); have dg020 : w2.cell? ⟨g0, 0, none⟩ = some (.int .i64 a0_0) := (blk_cell BD2.out 0).trans rfl; have dg021 : w2.cell? ⟨g0, 1, none⟩ = some (.slice A l.length c) := (blk_cell BD2.out 1).trans rfl; have dgr20 : w2.cell? ⟨gr, 0, none⟩ = some (.int .i64 0) := (blk_cell BR2.out 0).trans rfl; have dgr21 : w2.cell? ⟨gr, 1, none⟩ = some (.slice none 0 0) := (blk_cell BR2.out 1).trans rfl; have fgr20 := blk_frozen BR2.out 0; have fgr21 := blk_frozen BR2.out 1;  clear hg0 hbox hb))
   have HE := below_set (below_set HB2.out GR.out (j := 0) (v := .int .i64 a0_0)) GR.out (j := 1) (v := .slice A l.length c)
   refine bodyPost_ret (results_ct rfl _ _ gr 28 #[.int .i64 a0_0, .slice A l.length c] (0, 0) _ rfl (blk_put (blk_put BR2.out 0 _ rfl) 1 _ rfl) Try.underlying28 rfl (by kernel_rfl)) rfl ?_
   exact ⟨_, rfl, Kd.R_below HR.out HE, below_then HB.out HB.out.size HE, Kept.of_below HE _, Ap.Stays.refl HE⟩
  rw [if_neg c1] at h
  have key : (wrap64 (Int.tdiv a 2) == wrap64 (Int.tdiv b 2)) = false ∧ True ∨ (wrap64 (Int.tdiv a 2) == wrap64 (Int.tdiv b 2)) = true ∧ (a != b) = false := by
   by_cases q : wrap64 (Int.tdiv a 2) = wrap64 (Int.tdiv b 2)
   ·exact .inr ⟨beq_iff_eq.mpr q, bne_eq_false_iff_eq.mpr (Decidable.byContradiction (fun q2 => c1 ⟨q, q2⟩))⟩
   ·exact .inl ⟨beq_eq_false_iff_ne.mpr q, trivial⟩
  clear c1
  rcases key with ⟨e1, e2⟩ | ⟨e1, e2⟩
  all_goals
   by_cases c2 : a = 1
   ·rw [if_pos c2] at h
    have e3 : (a == 1) = true := beq_iff_eq.mpr c2
    clear c2
    simp only [Option.some.injEq, Prod.mk.injEq] at h
    obtain ⟨rfl, rfl, rfl⟩ := h
    go_enter Try.func76, Try.ntmps76
    go_wp2_with (first | ((with_reducible refine gate_dst (N := 3) rfl ?_); refine box_event ?hg (N := 3) ?hd (cs := #[.int .i64 a0_0, .slice A l.length c]) (t := 28) ?hr ?_; (case hd => rfl); (case hg => rfl); (case hr => first | (go_simp; done) | (go_simp; rfl)); intro g0 hg0 w1 hbox hb; have BD1 := Aside0.mk hbox; have HB1 := Aside0.mk hb; have GD := Aside0.mk (show w.heap.size ≤ g0 from Nat.le_of_eq hg0.symm); clear hg0 hbox hb) | ((with_reducible refine gate_dst (N := 6) rfl ?_); refine box_event ?hg (N := 6) ?hd (cs := #[.int .i64 0, .slice none 0 0]) (t := 28) ?hr ?_; (case hd => rfl); (case hg => rfl); (case hr => first | (go_simp; done) | (go_simp; rfl)); intro gr hg0 w2 hbox hb; have GR := Aside0.mk (show w.heap.size ≤ gr by rw [hg0]; exact HB1.out.size); have BR2 := Aside0.mk hbox; have GRD := Aside0.mk (show gr ≠ g0 from fun e_ => by have := blk_lt BD1.out; omega); have BD2 := Aside0.mk (blk_below BD1.out hb); have HB2 := Aside0.mk (below_step HB1.out hb); have dg020 : w2.cell? ⟨g0, 0, none⟩ = some (.int .i64 a0_0) := (blk_cell BD2.out 0).trans rfl; have dg021 : w2.cell? ⟨g0, 1, none⟩ = some (.slice A l.length c) := (blk_cell BD2.out 1).trans rfl; have dgr20 : w2.cell? ⟨gr, 0, none⟩ = some (.int .i64 0) := (blk_cell BR2.out 0).trans rfl; have dgr21 : w2.cell? ⟨gr, 1, none⟩ = some (.slice none 0 0) := (blk_cell BR2.out 1).trans rfl; have fgr20 := blk_frozen BR2.out 0; have fgr21 := blk_frozen BR2.out 1;  clear hg0 hbox hb))
    have HE := below_set (below_set HB2.out GR.out (j := 0) (v := .int .i64 a0_0)) GR.out (j := 1) (v := .slice A l.length c)
    refine bodyPost_ret (results_ct rfl _ _ gr 28 #[.int .i64 a0_0, .slice A l.length c] (0, 0) _ rfl (blk_put (blk_put BR2.out 0 _ rfl) 1 _ rfl) Try.underlying28 rfl (by kernel_rfl)) rfl ?_
    exact ⟨_, rfl, Kd.R_below HR.out HE, below_then HB.out HB.out.size HE, Kept.of_below HE _, Ap.Stays.refl HE⟩
   rw [if_neg c2] at h
   have e3 : (a == 1) = false := beq_eq_false_iff_ne.mpr c2
   clear c2
   by_cases c3 : a = b
   ·rw [if_pos c3] at h
    have e4 : (a == b) = true := beq_iff_eq.mpr c3
    clear c3
    simp only [Option.some.injEq, Prod.mk.injEq] at h
    obtain ⟨rfl, rfl, rfl⟩ := h
    go_enter Try.func76, Try.ntmps76
    go_wp2_with (first | ((with_reducible refine gate_dst (N := 3) rfl ?_); refine box_event ?hg (N := 3) ?hd (cs := #[.int .i64 a0_0, .slice A l.length c]) (t := 28) ?hr ?_; (case hd => rfl); (case hg => rfl); (case hr => first | (go_simp; done) | (go_simp; rfl)); intro g0 hg0 w1 hbox hb; have BD1 := Aside0.mk hbox; have HB1 := Aside0.mk hb; have GD := Aside0.mk (show w.heap.size ≤ g0 from Nat.le_of_eq hg0.symm); clear hg0 hbox hb) | ((with_reducible refine gate_dst (N := 6) rfl ?_); refine box_event ?hg (N := 6) ?hd (cs := #[.int .i64 0, .slice none 0 0]) (t := 28) ?hr ?_; (case hd => rfl); (case hg => rfl); (case hr => first | (go_simp; done) | (go_simp; rfl)); intro gr hg0 w2 hbox hb; have GR := Aside0.mk (show w.heap.size ≤ gr by rw [hg0]; exact HB1.out.size); have BR2 := Aside0.mk hbox; have GRD := Aside0.mk (show gr ≠ g0 from fun e_ => by have := blk_lt BD1.out; omega); have BD2 := Aside0.mk (blk_below BD1.out hb); have HB2 := Aside0.mk (below_step HB1.out hb); have dg020 : w2.cell? ⟨g0, 0, none⟩ = some (.int .i64 a0_0) := (blk_cell BD2.out 0).trans rfl; have dg021 : w2.cell? ⟨g0, 1, none⟩ = some (.slice A l.length c) := (blk_cell BD2.out 1).trans rfl; have dgr20 : w2.cell? ⟨gr, 0, none⟩ = some (.int .i64 0) := (blk_cell BR2.out 0).trans rfl; have dgr21 : w2.cell? ⟨gr, 1, none⟩ = some (.slice none 0 0) := (blk_cell BR2.out 1).trans rfl; have fgr20 := blk_frozen BR2.out 0; have fgr21 := blk_frozen BR2.out 1;  clear hg0 hbox hb))
    have HE := below_set (below_set HB2.out GR.out (j := 0) (v := .int .i64 a0_0)) GR.out (j := 1) (v := .slice A l.length c)
    refine bodyPost_ret (results_ct rfl _ _ gr 28 #[.int .i64 a0_0, .slice A l.length c] (0, 0) _ rfl (blk_put (blk_put BR2.out 0 _ rfl) 1 _ rfl) Try.underlying28 rfl (by kernel_rfl)) rfl ?_
    exact ⟨_, rfl, Kd.R_below HR.out HE, below_then HB.out HB.out.size HE, Kept.of_below HE _, Ap.Stays.refl HE⟩
   rw [if_neg c3] at h
   have e4 : (a == b) = false := beq_eq_false_iff_ne.mpr c3
   clear c3
   obtain ⟨t, hq, h⟩ := Option.bind_eq_some_iff.mp h
   have TF := Aside0.mk hq
   clear hq
   by_cases c4 : 0 ≤ t
   ·rw [if_pos c4] at h
    have e5 : decide (0 ≤ t) = true := decide_eq_true c4
    clear c4
    simp only [Option.some.injEq, Prod.mk.injEq] at h
    obtain ⟨rfl, rfl, rfl⟩ := h
    go_enter Try.func76, Try.ntmps76
    go_wp2_with (first | ((with_reducible refine gate_dst (N := 3) rfl ?_); refine box_event ?hg (N := 3) ?hd (cs := #[.int .i64 a0_0, .slice A l.length c]) (t := 28) ?hr ?_; (case hd => rfl); (case hg => rfl); (case hr => first | (go_simp; done) | (go_simp; rfl)); intro g0 hg0 w1 hbox hb; have BD1 := Aside0.mk hbox; have HB1 := Aside0.mk hb; have GD := Aside0.mk (show w.heap.size ≤ g0 from Nat.le_of_eq hg0.symm); clear hg0 hbox hb) | ((with_reducible refine gate_dst (N := 6) rfl ?_); refine box_event ?hg (N := 6) ?hd (cs := #[.int .i64 0, .slice none 0 0]) (t := 28) ?hr ?_; (case hd => rfl); (case hg => rfl); (case hr => first | (go_simp; done) | (go_simp; rfl)); intro gr hg0 w2 hbox hb; have GR := Aside0.mk (show w.heap.size ≤ gr by rw [hg0]; exact HB1.out.size); have BR2 := Aside0.mk hbox; have GRD := Aside0.mk (show gr ≠ g0 from fun e_ => by have := blk_lt BD1.out; omega); have BD2 := Aside0.mk (blk_below BD1.out hb); have HB2 := Aside0.mk (below_step HB1.out hb); have dg020 : w2.cell? ⟨g0, 0, none⟩ = some (.int .i64 a0_0) := (blk_cell BD2.out 0).trans rfl; have dg021 : w2.cell? ⟨g0, 1, none⟩ = some (.slice A l.length c) := (blk_cell BD2.out 1).trans rfl; have dgr20 : w2.cell? ⟨gr, 0, none⟩ = some (.int .i64 0) := (blk_cell BR2.out 0).trans rfl; have dgr21 : w2.cell? ⟨gr, 1, none⟩ = some (.slice none 0 0) := (blk_cell BR2.out 1).trans rfl; have fgr20 := blk_frozen BR2.out 0; have fgr21 := blk_frozen BR2.out 1;  clear hg0 hbox hb) | (go_at_call 114; (with_reducible refine (spec_l7Find.calls k' a0_0 A c l a b t _ (Kd.C_below (Kd.R_reads' HR.out).2.2 HB2.out) (Kd.R_reads' HR.out).2.1 TF.out).mono ?_); rintro e w3 ⟨rfl, hb⟩; have BD3 := Aside0.mk (blk_below BD2.out hb); have BR3 := Aside0.mk (blk_below BR2.out hb); have HB3 := Aside0.mk (below_step HB2.out hb); have dg030 : w3.cell? ⟨g0, 0, none⟩ = some (.int .i64 a0_0) := (blk_cell BD3.out 0).trans rfl; have dg031 : w3.cell? ⟨g0, 1, none⟩ = some (.slice A l.length c) := (blk_cell BD3.out 1).trans rfl; have dgr30 : w3.cell? ⟨gr, 0, none⟩ = some (.int .i64 0) := (blk_cell BR3.out 0).trans rfl; have dgr31 : w3.cell? ⟨gr, 1, none⟩ = some (.slice none 0 0) := (blk_cell BR3.out 1).trans rfl; have fgr30 := blk_frozen BR3.out 0; have fgr31 := blk_frozen BR3.out 1;  clear hb))
    have HE := below_set (below_set HB3.out GR.out (j := 0) (v := .int .i64 a0_0)) GR.out (j := 1) (v := .slice A l.length c)
    refine bodyPost_ret (results_ct rfl _ _ gr 28 #[.int .i64 a0_0, .slice A l.length c] (0, 0) _ rfl (blk_put (blk_put BR3.out 0 _ rfl) 1 _ rfl) Try.underlying28 rfl (by kernel_rfl)) rfl ?_
    exact ⟨_, rfl, Kd.R_below HR.out HE, below_then HB.out HB.out.size HE, Kept.of_below HE _, Ap.Stays.refl HE⟩
   rw [if_neg c4] at h
   have e5 : decide (0 ≤ t) = false := decide_eq_false c4
   clear c4
   by_cases c5 : 600 ≤ (l.length : Int)
   ·rw [if_pos c5] at h
    have e6 : decide (600 ≤ (l.length : Int)) = true := decide_eq_true c5
    clear c5
    simp only [Option.some.injEq, Prod.mk.injEq] at h
    obtain ⟨rfl, rfl, rfl⟩ := h
    go_enter Try.func76, Try.ntmps76
    go_wp2_with (first | ((with_reducible refine gate_dst (N := 3) rfl ?_); refine box_event ?hg (N := 3) ?hd (cs := #[.int .i64 a0_0, .slice A l.length c]) (t := 28) ?hr ?_; (case hd => rfl); (case hg => rfl); (case hr => first | (go_simp; done) | (go_simp; rfl)); intro g0 hg0 w1 hbox hb; have BD1 := Aside0.mk hbox; have HB1 := Aside0.mk hb; have GD := Aside0.mk (show w.heap.size ≤ g0 from Nat.le_of_eq hg0.symm); clear hg0 hbox hb) | ((with_reducible refine gate_dst (N := 6) rfl ?_); refine box_event ?hg (N := 6) ?hd (cs := #[.int .i64 0, .slice none 0 0]) (t := 28) ?hr ?_; (case hd => rfl); (case hg => rfl); (case hr => first | (go_simp; done) | (go_simp; rfl)); intro gr hg0 w2 hbox hb; have GR := Aside0.mk (show w.heap.size ≤ gr by rw [hg0]; exact HB1.out.size); have BR2 := Aside0.mk hbox; have GRD := Aside0.mk (show gr ≠ g0 from fun e_ => by have := blk_lt BD1.out; omega); have BD2 := Aside0.mk (blk_below BD1.out hb); have HB2 := Aside0.mk (below_step HB1.out hb); have dg020 : w2.cell? ⟨g0, 0, none⟩ = some (.int .i64 a0_0) := (blk_cell BD2.out 0).trans rfl; have dg021 : w2.cell? ⟨g0, 1, none⟩ = some (.slice A l.length c) := (blk_cell BD2.out 1).trans rfl; have dgr20 : w2.cell? ⟨gr, 0, none⟩ = some (.int .i64 0) := (blk_cell BR2.out 0).trans rfl; have dgr21 : w2.cell? ⟨gr, 1, none⟩ = some (.slice none 0 0) := (blk_cell BR2.out 1).trans rfl; have fgr20 := blk_frozen BR2.out 0; have fgr21 := blk_frozen BR2.out 1;  clear hg0 hbox hb) | (go_at_call 114; (with_reducible refine (spec_l7Find.calls k' a0_0 A c l a b t _ (Kd.C_below (Kd.R_reads' HR.out).2.2 HB2.out) (Kd.R_reads' HR.out).2.1 TF.out).mono ?_); rintro e w3 ⟨rfl, hb⟩; have BD3 := Aside0.mk (blk_below BD2.out hb); have BR3 := Aside0.mk (blk_below BR2.out hb); have HB3 := Aside0.mk (below_step HB2.out hb); have dg030 : w3.cell? ⟨g0, 0, none⟩ = some (.int .i64 a0_0) := (blk_cell BD3.out 0).trans rfl; have dg031 : w3.cell? ⟨g0, 1, none⟩ = some (.slice A l.length c) := (blk_cell BD3.out 1).trans rfl; have dgr30 : w3.cell? ⟨gr, 0, none⟩ = some (.int .i64 0) := (blk_cell BR3.out 0).trans rfl; have dgr31 : w3.cell? ⟨gr, 1, none⟩ = some (.slice none 0 0) := (blk_cell BR3.out 1).trans rfl; have fgr30 := blk_frozen BR3.out 0; have fgr31 := blk_frozen BR3.out 1;  clear hb))
    have HE := below_set (below_set HB3.out GR.out (j := 0) (v := .int .i64 a0_0)) GR.out (j := 1) (v := .slice A l.length c)
    refine bodyPost_ret (results_ct rfl _ _ gr 28 #[.int .i64 a0_0, .slice A l.length c] (0, 0) _ rfl (blk_put (blk_put BR3.out 0 _ rfl) 1 _ rfl) Try.underlying28 rfl (by kernel_rfl)) rfl ?_
    exact ⟨_, rfl, Kd.R_below HR.out HE, below_then HB.out HB.out.size HE, Kept.of_below HE _, Ap.Stays.refl HE⟩
   rw [if_neg c5] at h
   have e6 : decide (600 ≤ (l.length : Int)) = false := decide_eq_false c5
   have C6 := Aside0.mk c5
   clear c5
   rw [if_pos (by have := C6.out; omega)] at h
   simp only [Option.some.injEq, Prod.mk.injEq] at h
   obtain ⟨rfl, rfl, rfl⟩ := h
   obtain ⟨y_, hy_⟩ : ∃ y_, y_ = l ++ [(⟨a, b⟩ : S92)] := ⟨_, rfl⟩
   have hyl : y_.length = l.length + 1 := by rw [hy_]; simp
   have HY := Aside0.mk hy_
   have HYL := Aside0.mk hyl
   clear hy_ hyl
   go_enter Try.func76, Try.ntmps76
   go_wp2_with (first | ((with_reducible refine gate_dst (N := 3) rfl ?_); refine box_event ?hg (N := 3) ?hd (cs := #[.int .i64 a0_0, .slice A l.length c]) (t := 28) ?hr ?_; (case hd => rfl); (case hg => rfl); (case hr => first | (go_simp; done) | (go_simp; rfl)); intro g0 hg0 w1 hbox hb; have BD1 := Aside0.mk hbox; have HB1 := Aside0.mk hb; have GD := Aside0.mk (show w.heap.size ≤ g0 from Nat.le_of_eq hg0.symm); clear hg0 hbox hb) | ((with_reducible refine gate_dst (N := 6) rfl ?_); refine box_event ?hg (N := 6) ?hd (cs := #[.int .i64 0, .slice none 0 0]) (t := 28) ?hr ?_; (case hd => rfl); (case hg => rfl); (case hr => first | (go_simp; done) | (go_simp; rfl)); intro gr hg0 w2 hbox hb; have GR := Aside0.mk (show w.heap.size ≤ gr by rw [hg0]; exact HB1.out.size); have BR2 := Aside0.mk hbox; have GRD := Aside0.mk (show gr ≠ g0 from fun e_ => by have := blk_lt BD1.out; omega); have BD2 := Aside0.mk (blk_below BD1.out hb); have HB2 := Aside0.mk (below_step HB1.out hb); have dg020 : w2.cell? ⟨g0, 0, none⟩ = some (.int .i64 a0_0) := (blk_cell BD2.out 0).trans rfl; have dg021 : w2.cell? ⟨g0, 1, none⟩ = some (.slice A l.length c) := (blk_cell BD2.out 1).trans rfl; have dgr20 : w2.cell? ⟨gr, 0, none⟩ = some (.int .i64 0) := (blk_cell BR2.out 0).trans rfl; have dgr21 : w2.cell? ⟨gr, 1, none⟩ = some (.slice none 0 0) := (blk_cell BR2.out 1).trans rfl; have fgr20 := blk_frozen BR2.out 0; have fgr21 := blk_frozen BR2.out 1;  clear hg0 hbox hb) | (go_at_call 114; (with_reducible refine (spec_l7Find.calls k' a0_0 A c l a b t _ (Kd.C_below (Kd.R_reads' HR.out).2.2 HB2.out) (Kd.R_reads' HR.out).2.1 TF.out).mono ?_); rintro e w3 ⟨rfl, hb⟩; have BD3 := Aside0.mk (blk_below BD2.out hb); have BR3 := Aside0.mk (blk_below BR2.out hb); have HB3 := Aside0.mk (below_step HB2.out hb); have dg030 : w3.cell? ⟨g0, 0, none⟩ = some (.int .i64 a0_0) := (blk_cell BD3.out 0).trans rfl; have dg031 : w3.cell? ⟨g0, 1, none⟩ = some (.slice A l.length c) := (blk_cell BD3.out 1).trans rfl; have dgr30 : w3.cell? ⟨gr, 0, none⟩ = some (.int .i64 0) := (blk_cell BR3.out 0).trans rfl; have dgr31 : w3.cell? ⟨gr, 1, none⟩ = some (.slice none 0 0) := (blk_cell BR3.out 1).trans rfl; have fgr30 := blk_frozen BR3.out 0; have fgr31 := blk_frozen BR3.out 1;  have qd3 := blk_frozen BD3.out 1; clear hb) | ((with_reducible refine gate_builtin (b := .append) (xs := #[.tmp 55, .tmp 59]) rfl ?_); at_builtin; refine Ap.R_append k92 k92_E (w0 := w0) w0.heap.size rfl (.tmp 55) (.tmp 59) 26 92 (.agg #[(.int .i64 0), (.int .i64 0)]) 16 rfl Try.underlying26 info92 rfl (by decide) (by omega) (.slice A l.length c) l (⟨a, b⟩ : S92) [.int .i64 a, .int .i64 b] ok rfl rfl (k92_mkM _ _ _ (⟨a, b⟩ : S92)) (fun k hk => HF.out k (Nat.le_trans HB3.out.size hk)) (Kd.R_below HR.out HB3.out) (below_then HB.out HB.out.size HB3.out) (Nat.le_trans HB.out.size HB3.out.size) (by have := C6.out; omega) ?_; intro v1 w7 ho7 hb7 hg7 _ hs7; obtain ⟨A7, c7, e7⟩ := Kd.R_slice ho7; subst e7; rw [← HY.out] at ho7 hs7 ⊢; have NE7 := Aside0.mk (Kd.R_ne (Kd.R_below HR.out HB3.out) BD3.out (by decide)); have NR7 := Aside0.mk (Kd.R_ne (Kd.R_below HR.out HB3.out) BR3.out (by decide)); have BD7 := Aside0.mk (blk_grown BD3.out hg7 NE7.out); have BR7 := Aside0.mk (blk_grown BR3.out hg7 NR7.out); have HO7 := Aside0.mk ho7; have HB7 := Aside0.mk hb7; have HK7 := Aside0.mk (Kept.of_grown hg7 (Kept.of_below HB3.out (fun k_ => (Value.slice A l.length c).ownBlock = some k_)) (fun k hk => .inl hk)); have HS7 := Aside0.mk (hs7.from_ HB3.out); have d70 : w7.cell? ⟨g0, 0, none⟩ = some (.int .i64 a0_0) := (blk_cell BD7.out 0).trans rfl; have d71 : w7.cell? ⟨g0, 1, none⟩ = some (.slice A l.length c) := (blk_cell BD7.out 1).trans rfl; have qd7 := blk_frozen BD7.out 1; clear ho7 hb7 hg7 hs7))
   have n0 := Aside0.mk (blk_put (cs' := #[.int .i64 a0_0, .slice A7 y_.length c7]) BD7.out 1 (.slice A7 y_.length c7) rfl)
   have n1 := Aside0.mk (blk_far (p := ⟨g0, 1, none⟩) BR7.out (GRD.out) (.slice A7 y_.length c7))
   have n2 := Aside0.mk (Kd.R_set HO7.out BD7.out (by decide) 1 (.slice A7 y_.length c7))
   have n3 := Aside0.mk (HB7.out.setCell (p := ⟨g0, 1, none⟩) (Nat.le_trans HB.out.size GD.out) (.slice A7 y_.length c7))
   have n4 := Aside0.mk (HK7.out.setCell (p := ⟨g0, 1, none⟩) (.inr GD.out) (.slice A7 y_.length c7))
   have n5 : Aside0 (Ap.Stays k92 92 w0.heap.size w (.slice A l.length c) l (w7.setCell ⟨g0, 1, none⟩ (.slice A7 y_.length c7)) (.slice A7 y_.length c7) y_) := ⟨fun ok0 u0 xs0 h0 hp => by
    obtain ⟨q1, q2⟩ := HS7.out ok0 u0 xs0 h0 hp
    exact ⟨Kd.R_set q1 BD7.out (by decide) 1 _, q2⟩⟩
   clear d70 d71 qd7 BD7 BR7 HO7 HB7 HK7 HS7
   generalize (w7.setCell ⟨g0, 1, none⟩ (.slice A7 y_.length c7)) = w8 at n0 n1 n2 n3 n4 n5 ⊢
   try go_wp2
   refine start_ (n := 7) (S := fun w' => w'.cell? ⟨g0, 0, none⟩ = some (.int .i64 a0_0) ∧ w'.cell? ⟨g0, 1, none⟩ = some (.slice A7 y_.length c7)) (ds := [5]) (Pt.bm 7 0) (by kernel_rfl) rfl rfl ⟨(blk_cell n0.out 0).trans rfl, (blk_cell n0.out 1).trans rfl⟩ (fun hHeld => ?_)
   have m0 := Aside0.mk (blk_drew n0.out)
   have m1 := Aside0.mk (blk_drew n1.out)
   have m2 := Aside0.mk (Kd.R_drew n2.out)
   have m3 := Aside0.mk (below_drew n3.out)
   have m4 := Aside0.mk n4.out.drew
   have m5 := Aside0.mk (n5.out.below (below_drew (Below.refl _ _)))
   clear n0 n1 n2 n3 n4 n5
   generalize w8.drew = w9 at m0 m1 m2 m3 m4 m5 hHeld ⊢
   refine Pt.tk 0 (some 62) (Pt.bm 7 1) rfl rfl (by kernel_rfl) hHeld (Or.inl ⟨by rfl, by rintro w' ⟨s0, s1⟩; go_simp; with_reducible rfl⟩) ?_
   refine Pt.tk 1 (some 63) (Pt.bm 7 3) rfl rfl (by kernel_rfl) hHeld (Or.inl ⟨by rfl, by rintro w' ⟨s0, s1⟩; go_simp; with_reducible rfl⟩) ?_
   refine one_ (i := 2) (N := some 64) (Pt.bm 7 7) rfl rfl (by kernel_rfl) (by decide) (fun K hK => ?_)
   refine goes_ Try.func105 (by kernel_rfl) rfl #[.agg #[.int .i64 a0_0, .slice A7 y_.length c7]] (by rfl) rfl rfl (by (try simp only [List.map_toArray, List.map_cons, List.map_nil]); first | done | rfl) ?_
   refine (spec_l7Nodes.calls a0_0 A7 c7 y_ _ _ (Kd.R_reads' m2.out).2.2 (Kd.R_reads' m2.out).2.1 rfl).mono ?_
   rintro e w10 ⟨rfl, hb⟩
   refine ⟨_, rfl, ?_⟩
   have p0 := Aside0.mk (blk_below m0.out hb)
   have p1 := Aside0.mk (blk_below m1.out hb)
   have p2 := Aside0.mk (Kd.R_below m2.out hb)
   have p3 := Aside0.mk (below_then m3.out m3.out.size hb)
   have p4 := Aside0.mk (m4.out.below hb)
   have p5 := Aside0.mk (m5.out.below hb)
   refine hK.out _ _ ⟨(blk_cell p0.out 0).trans rfl, (blk_cell p0.out 1).trans rfl⟩ (fun hHeld => ?_)
   clear hK K hb m0 m1 m2 m3 m4 m5
   refine norm_ (a' := ?_) ?_ ?_
   rotate_left
   ·show Act.put _ (some 64) _ = _
    simp only [Act.put, List.setIfInBounds_toArray, List.set_cons_zero, List.set_cons_succ, i64_w, i32_w]
    rfl
   refine Pt.pu 3 (some 65) (Pt.bm 7 15) (by kernel_rfl) ?_
   refine Pt.pu 4 (some 66) (Pt.bm 7 31) (by kernel_rfl) ?_
   refine last_ (i := 5) (N := none) (Pt.bm 7 63) rfl rfl (by kernel_rfl) (by decide) (fun K hK => ?_)
   have hs0 : w10.cell? ⟨gr, 0, none⟩ = some (.int .i64 0) := (blk_cell p1.out 0).trans rfl
   have hs1 : w10.cell? ⟨gr, 1, none⟩ = some (.slice none 0 0) := (blk_cell p1.out 1).trans rfl
   have hfs0 := blk_frozen p1.out 0
   have hfs1 := blk_frozen p1.out 1
   refine skip_ (w1 := ?_) (by rfl) rfl ?_ ?_
   rotate_left
   ·go_simp
    rfl
   refine hK.out _ _ ?_
   clear hK K hs0 hs1 hfs0 hfs1 hHeld
   refine Pt.pu 6 (some 7) (Pt.bm 7 127) (by kernel_rfl) ?_
   refine done_ (by kernel_rfl) ?_
   try go_wp2
   refine bodyPost_ret (results_ct rfl _ _ gr 28 #[.int .i64 a0_0, .slice A7 y_.length c7] (0, 0) _ rfl (blk_put (blk_put p1.out 0 _ rfl) 1 _ rfl) Try.underlying28 rfl (by kernel_rfl)) rfl ?_
   have hyl := HYL.out
   have hle : ((y_.length : Int)) = (l.length : Int) + 1 := by omega
   refine ⟨_, by first | rfl | (rw [hle]; rfl) | simp [hle], by rw [← HY.out]; exact Kd.R_set (Kd.R_set p2.out p1.out (by decide) 0 _) (blk_put p1.out 0 _ rfl) (by decide) 1 _, (p3.out.setCell (p := ⟨gr, 0, none⟩) (Nat.le_trans HB.out.size GR.out) _).setCell (p := ⟨gr, 1, none⟩) (Nat.le_trans HB.out.size GR.out) _, (p4.out.setCell (p := ⟨gr, 0, none⟩) (.inr GR.out) _).setCell (p := ⟨gr, 1, none⟩) (.inr GR.out) _, fun ok0 u0 xs0 h0 hp => ?_⟩
   obtain ⟨q1, q2⟩ := p5.out ok0 u0 xs0 h0 hp
   rw [← HY.out]
   exact ⟨Kd.R_set (Kd.R_set q1 p1.out (by decide) 0 _) (blk_put p1.out 0 _ rfl) (by decide) 1 _, q2⟩
def spec_l7Pick.f (k : Nat) (a0 : Int) (l : List S92) (by_ yes no : Int) : Option (Int × List S92 × Int) :=
 if yes = no then some (a0, l, yes) else (spec_l7And.f k a0 l by_ yes).bind fun t => if t.2.2 < 0 then some (a0, l, -1) else (spec_l7Not.f by_).bind fun n => (spec_l7And.f k t.1 t.2.1 n no).bind fun u => if u.2.2 < 0 then some (a0, l, -1) else spec_l7Or.f k u.1 u.2.1 t.2.2 u.2.2
theorem spec_l7Pick.mono : ∀ a0 l by_ yes no k, LeO (spec_l7Pick.f k a0 l by_ yes no) (spec_l7Pick.f (k + 1) a0 l by_ yes no) := fun a0 l by_ yes no k => LeO.ite (LeO.refl _) (LeO.bind (spec_l7And.mono _ _ _ _ k) (fun _ => LeO.ite (LeO.refl _) (LeO.bind (LeO.refl _) (fun _ => LeO.bind (spec_l7And.mono _ _ _ _ k) (fun _ => LeO.ite (LeO.refl _) (spec_l7Or.mono _ _ _ _ k))))))
set_option maxHeartbeats 8000000 in
set_option maxRecDepth 100000 in
theorem spec_l7Pick.calls (k : Nat) (a0_0 : Int) (P : Nat → Prop) (u : Value) (l : List S92) (by_ yes no r1 : Int) (r2 : List S92) (r3 : Int) (w0 w : World) (hB : Below w0.heap.size w0 w) (ho : Kd.R k92 92 w w0.heap.size P u l) (h : spec_l7Pick.f k a0_0 l by_ yes no = some (r1, r2, r3)) :
  Calls Try.prog 55 #[.agg #[.int .i64 a0_0, u], .int .i64 by_, .int .i64 yes, .int .i64 no] w fun e w' => ∃ v1_ : Value, e = .returned (.tuple #[.agg #[.int .i64 r1, v1_], .int .i64 r3]) ∧ Kd.R k92 92 w' w0.heap.size (fun k_ => (P k_ ∨ w.heap.size ≤ k_)) v1_ r2 ∧ Below w0.heap.size w0 w' ∧ Kept w w' (fun k_ => P k_) := by
 have hu28 := Try.underlying28
 have hu92 := Try.underlying92
 obtain ⟨A, c, rfl⟩ := Kd.R_slice ho
 have HO := Aside0.mk ho.1
 have HR := Aside0.mk (show Kd.R k92 92 w w0.heap.size (fun k_ => P k_ ∨ w.heap.size ≤ k_) (.slice A l.length c) l from Kd.R_mono ho (fun k_ hk => .inl hk))
 have HB := Aside0.mk hB
 unfold spec_l7Pick.f at h
 clear ho hB
 by_cases c0 : yes = no
 ·rw [if_pos c0] at h
  simp only [Option.some.injEq, Prod.mk.injEq] at h
  obtain ⟨rfl, rfl, rfl⟩ := h
  have e0 : (yes == no) = true := beq_iff_eq.mpr c0
  clear c0
  go_enter Try.func55, Try.ntmps55
  go_wp2_with (first | ((with_reducible refine gate_dst (N := 4) rfl ?_); refine box_event ?hg (N := 4) ?hd (cs := #[.int .i64 a0_0, .slice A l.length c]) (t := 28) ?hr ?_; (case hd => rfl); (case hg => rfl); (case hr => first | (go_simp; done) | (go_simp; rfl)); intro g0 hg0 w1 hbox hb; have BD1 := Aside0.mk hbox; have HB1 := Aside0.mk hb; have GD := Aside0.mk (show w.heap.size ≤ g0 from Nat.le_of_eq hg0.symm); clear hg0 hbox hb) | ((with_reducible refine gate_dst (N := 8) rfl ?_); refine box_event ?hg (N := 8) ?hd (cs := #[.int .i64 0, .slice none 0 0]) (t := 28) ?hr ?_; (case hd => rfl); (case hg => rfl); (case hr => first | (go_simp; done) | (go_simp; rfl)); intro gr hg0 w2 hbox hb; have GR := Aside0.mk (show w.heap.size ≤ gr by rw [hg0]; exact HB1.out.size); have BR2 := Aside0.mk hbox; have GRD := Aside0.mk (show gr ≠ g0 from fun e_ => by have := blk_lt BD1.out; omega); have BD2 := Aside0.mk (blk_below BD1.out hb); have HB2 := Aside0.mk (below_step HB1.out hb); have dg020 : w2.cell? ⟨g0, 0, none⟩ = some (.int .i64 a0_0) := (blk_cell BD2.out 0).trans rfl; have dg021 : w2.cell? ⟨g0, 1, none⟩ = some (.slice A l.length c) := (blk_cell BD2.out 1).trans rfl; have dgr20 : w2.cell? ⟨gr, 0, none⟩ = some (.int .i64 0) := (blk_cell BR2.out 0).trans rfl; have dgr21 : w2.cell? ⟨gr, 1, none⟩ = some (.slice none 0 0) := (blk_cell BR2.out 1).trans rfl; have fgr20 := blk_frozen BR2.out 0; have fgr21 := blk_frozen BR2.out 1;  clear hg0 hbox hb))
  have HE := below_set (below_set HB2.out GR.out (j := 0) (v := .int .i64 a0_0)) GR.out (j := 1) (v := .slice A l.length c)
  refine bodyPost_ret (results_ct rfl _ _ gr 28 #[.int .i64 a0_0, .slice A l.length c] (0, 0) _ rfl (blk_put (blk_put BR2.out 0 _ rfl) 1 _ rfl) Try.underlying28 rfl (by kernel_rfl)) rfl ?_
  exact ⟨_, rfl, Kd.R_below HR.out HE, below_then HB.out HB.out.size HE, Kept.of_below HE _⟩
 rw [if_neg c0] at h
 have e0 : (yes == no) = false := beq_eq_false_iff_ne.mpr c0
 clear c0
 obtain ⟨⟨t1, t2, t3⟩, hq, h⟩ := Option.bind_eq_some_iff.mp h
 have T1 := Aside0.mk hq
 simp only at h
 clear hq
 by_cases c1 : t3 < 0
 ·rw [if_pos c1] at h
  have e1 : decide (t3 < 0) = true := decide_eq_true c1
  clear c1
  simp only [Option.some.injEq, Prod.mk.injEq] at h
  obtain ⟨rfl, rfl, rfl⟩ := h
  go_enter Try.func55, Try.ntmps55
  go_wp2_with (first | ((with_reducible refine gate_dst (N := 4) rfl ?_); refine box_event ?hg (N := 4) ?hd (cs := #[.int .i64 a0_0, .slice A l.length c]) (t := 28) ?hr ?_; (case hd => rfl); (case hg => rfl); (case hr => first | (go_simp; done) | (go_simp; rfl)); intro g0 hg0 w1 hbox hb; have BD1 := Aside0.mk hbox; have HB1 := Aside0.mk hb; have GD := Aside0.mk (show w.heap.size ≤ g0 from Nat.le_of_eq hg0.symm); clear hg0 hbox hb) | ((with_reducible refine gate_dst (N := 8) rfl ?_); refine box_event ?hg (N := 8) ?hd (cs := #[.int .i64 0, .slice none 0 0]) (t := 28) ?hr ?_; (case hd => rfl); (case hg => rfl); (case hr => first | (go_simp; done) | (go_simp; rfl)); intro gr hg0 w2 hbox hb; have GR := Aside0.mk (show w.heap.size ≤ gr by rw [hg0]; exact HB1.out.size); have BR2 := Aside0.mk hbox; have GRD := Aside0.mk (show gr ≠ g0 from fun e_ => by have := blk_lt BD1.out; omega); have BD2 := Aside0.mk (blk_below BD1.out hb); have HB2 := Aside0.mk (below_step HB1.out hb); have dg020 : w2.cell? ⟨g0, 0, none⟩ = some (.int .i64 a0_0) := (blk_cell BD2.out 0).trans rfl; have dg021 : w2.cell? ⟨g0, 1, none⟩ = some (.slice A l.length c) := (blk_cell BD2.out 1).trans rfl; have dgr20 : w2.cell? ⟨gr, 0, none⟩ = some (.int .i64 0) := (blk_cell BR2.out 0).trans rfl; have dgr21 : w2.cell? ⟨gr, 1, none⟩ = some (.slice none 0 0) := (blk_cell BR2.out 1).trans rfl; have fgr20 := blk_frozen BR2.out 0; have fgr21 := blk_frozen BR2.out 1;  clear hg0 hbox hb) | (go_at_call 76; (with_reducible refine (spec_l7Pick.strong k a0_0 (fun k_ => P k_ ∨ w.heap.size ≤ k_) (.slice A l.length c) l by_ yes t1 t2 t3 w0 _ (below_then HB.out HB.out.size HB2.out) (Kd.R_below HR.out HB2.out) (fun k_ hk_ => .inr (Nat.le_trans HB2.out.size hk_)) T1.out).mono ?_); rintro e w3 ⟨v1, rfl, hR1, hB3, hK3, hS3⟩; obtain ⟨A1, c1, rfl⟩ := Kd.R_slice hR1; have R13 := Aside0.mk hR1; have HB3 := Aside0.mk hB3; have HK3 := Aside0.mk ((Kept.of_below HB2.out P).then_ hK3 (fun k_ hk_ => .inl (HO.out k_ hk_))); have RE3 := Aside0.mk (hS3 _ _ _ (Kd.R_below HR.out HB2.out) (Ap.Pre.refl (Kd.R_below HR.out HB2.out))).1; have PR := Aside0.mk (hS3 _ _ _ (Kd.R_below HR.out HB2.out) (Ap.Pre.refl (Kd.R_below HR.out HB2.out))).2; have BD3 := Aside0.mk (blk_kept BD2.out hK3 (fun e_ => Kd.R_ne (Kd.R_below HR.out HB2.out) BD2.out (by decide) e_.symm)); have BR3 := Aside0.mk (blk_kept BR2.out hK3 (fun e_ => Kd.R_ne (Kd.R_below HR.out HB2.out) BR2.out (by decide) e_.symm)); clear hR1 hB3 hK3 hS3) | ((with_reducible refine gate_dst (N := 10) rfl ?_); refine box_event ?hg (N := 10) ?hd (cs := #[.int .i64 0, .slice none 0 0]) (t := 28) ?hr ?_; (case hd => rfl); (case hg => rfl); (case hr => first | (go_simp; done) | (go_simp; rfl)); intro g1 hg0 w4 hbox hb; have B14 := Aside0.mk hbox; have BD4 := Aside0.mk (blk_below BD3.out hb); have BR4 := Aside0.mk (blk_below BR3.out hb); have RE4 := Aside0.mk (Kd.R_below RE3.out hb); have R14 := Aside0.mk (Kd.R_below R13.out hb); have HB4 := Aside0.mk (below_then HB3.out HB3.out.size hb); have HK4 := Aside0.mk (HK3.out.below hb); have G1 := Aside0.mk (show w.heap.size ≤ g1 by rw [hg0]; exact HK3.out.1); have n10 : g1 ≠ g0 := (fun e_ => by have := blk_lt BD3.out; omega); have n1r : g1 ≠ gr := (fun e_ => by have := blk_lt BR3.out; omega); have n01 := n10.symm; have nr1 := n1r.symm; have dg040 : w4.cell? ⟨g0, 0, none⟩ = some (.int .i64 a0_0) := (blk_cell BD4.out 0).trans rfl; have dg041 : w4.cell? ⟨g0, 1, none⟩ = some (.slice A l.length c) := (blk_cell BD4.out 1).trans rfl; have dgr40 : w4.cell? ⟨gr, 0, none⟩ = some (.int .i64 0) := (blk_cell BR4.out 0).trans rfl; have dgr41 : w4.cell? ⟨gr, 1, none⟩ = some (.slice none 0 0) := (blk_cell BR4.out 1).trans rfl; have fgr40 := blk_frozen BR4.out 0; have fgr41 := blk_frozen BR4.out 1; have dg140 : w4.cell? ⟨g1, 0, none⟩ = some (.int .i64 0) := (blk_cell B14.out 0).trans rfl; have dg141 : w4.cell? ⟨g1, 1, none⟩ = some (.slice none 0 0) := (blk_cell B14.out 1).trans rfl; have fg140 := blk_frozen B14.out 0; have fg141 := blk_frozen B14.out 1;  clear hg0 hbox hb))
  have BR5 := Aside0.mk (blk_far (p := ⟨g1, 1, none⟩) (blk_far (p := ⟨g1, 0, none⟩) BR4.out nr1 (.int .i64 t1)) nr1 (.slice A1 t2.length c1))
  have BD5 := Aside0.mk (blk_far (p := ⟨g1, 1, none⟩) (blk_far (p := ⟨g1, 0, none⟩) BD4.out n01 (.int .i64 t1)) n01 (.slice A1 t2.length c1))
  have RE5 := Aside0.mk (Kd.R_set (Kd.R_set RE4.out B14.out (by decide) 0 (.int .i64 t1)) (blk_put B14.out 0 (.int .i64 t1) rfl) (by decide) 1 (.slice A1 t2.length c1))
  have HB5 := Aside0.mk ((HB4.out.setCell (p := ⟨g1, 0, none⟩) (Nat.le_trans HB.out.size G1.out) (.int .i64 t1)).setCell (p := ⟨g1, 1, none⟩) (Nat.le_trans HB.out.size G1.out) (.slice A1 t2.length c1))
  have HK5 := Aside0.mk ((HK4.out.setCell (p := ⟨g1, 0, none⟩) (.inr G1.out) (.int .i64 t1)).setCell (p := ⟨g1, 1, none⟩) (.inr G1.out) (.slice A1 t2.length c1))
  refine bodyPost_ret (results_ct rfl _ _ gr 28 #[.int .i64 a0_0, .slice A l.length c] (0, 0) _ rfl (blk_put (blk_put BR5.out 0 _ rfl) 1 _ rfl) Try.underlying28 rfl (by kernel_rfl)) rfl ?_
  exact ⟨_, rfl, Kd.R_set (Kd.R_set RE5.out BR5.out (by decide) 0 _) (blk_put BR5.out 0 _ rfl) (by decide) 1 _, (HB5.out.setCell (p := ⟨gr, 0, none⟩) (Nat.le_trans HB.out.size GR.out) _).setCell (p := ⟨gr, 1, none⟩) (Nat.le_trans HB.out.size GR.out) _, (HK5.out.setCell (p := ⟨gr, 0, none⟩) (.inr GR.out) _).setCell (p := ⟨gr, 1, none⟩) (.inr GR.out) _⟩
 rw [if_neg c1] at h
 have e1 : decide (t3 < 0) = false := decide_eq_false c1
 clear c1
 obtain ⟨tn, hq, h⟩ := Option.bind_eq_some_iff.mp h
 have TN := Aside0.mk hq
 clear hq
 obtain ⟨⟨u1, u2, u3⟩, hq, h⟩ := Option.bind_eq_some_iff.mp h
 have T2 := Aside0.mk hq
 simp only at h
 have HH := Aside0.mk h
 clear hq h
 go_enter Try.func55, Try.ntmps55
 go_wp2_with (first | ((with_reducible refine gate_dst (N := 4) rfl ?_); refine box_event ?hg (N := 4) ?hd (cs := #[.int .i64 a0_0, .slice A l.length c]) (t := 28) ?hr ?_; (case hd => rfl); (case hg => rfl); (case hr => first | (go_simp; done) | (go_simp; rfl)); intro g0 hg0 w1 hbox hb; have BD1 := Aside0.mk hbox; have HB1 := Aside0.mk hb; have GD := Aside0.mk (show w.heap.size ≤ g0 from Nat.le_of_eq hg0.symm); clear hg0 hbox hb) | ((with_reducible refine gate_dst (N := 8) rfl ?_); refine box_event ?hg (N := 8) ?hd (cs := #[.int .i64 0, .slice none 0 0]) (t := 28) ?hr ?_; (case hd => rfl); (case hg => rfl); (case hr => first | (go_simp; done) | (go_simp; rfl)); intro gr hg0 w2 hbox hb; have GR := Aside0.mk (show w.heap.size ≤ gr by rw [hg0]; exact HB1.out.size); have BR2 := Aside0.mk hbox; have GRD := Aside0.mk (show gr ≠ g0 from fun e_ => by have := blk_lt BD1.out; omega); have BD2 := Aside0.mk (blk_below BD1.out hb); have HB2 := Aside0.mk (below_step HB1.out hb); have dg020 : w2.cell? ⟨g0, 0, none⟩ = some (.int .i64 a0_0) := (blk_cell BD2.out 0).trans rfl; have dg021 : w2.cell? ⟨g0, 1, none⟩ = some (.slice A l.length c) := (blk_cell BD2.out 1).trans rfl; have dgr20 : w2.cell? ⟨gr, 0, none⟩ = some (.int .i64 0) := (blk_cell BR2.out 0).trans rfl; have dgr21 : w2.cell? ⟨gr, 1, none⟩ = some (.slice none 0 0) := (blk_cell BR2.out 1).trans rfl; have fgr20 := blk_frozen BR2.out 0; have fgr21 := blk_frozen BR2.out 1;  clear hg0 hbox hb) | (go_at_call 76; (with_reducible refine (spec_l7Pick.strong k a0_0 (fun k_ => P k_ ∨ w.heap.size ≤ k_) (.slice A l.length c) l by_ yes t1 t2 t3 w0 _ (below_then HB.out HB.out.size HB2.out) (Kd.R_below HR.out HB2.out) (fun k_ hk_ => .inr (Nat.le_trans HB2.out.size hk_)) T1.out).mono ?_); rintro e w3 ⟨v1, rfl, hR1, hB3, hK3, hS3⟩; obtain ⟨A1, c1, rfl⟩ := Kd.R_slice hR1; have R13 := Aside0.mk hR1; have HB3 := Aside0.mk hB3; have HK3 := Aside0.mk ((Kept.of_below HB2.out P).then_ hK3 (fun k_ hk_ => .inl (HO.out k_ hk_))); have RE3 := Aside0.mk (hS3 _ _ _ (Kd.R_below HR.out HB2.out) (Ap.Pre.refl (Kd.R_below HR.out HB2.out))).1; have PR := Aside0.mk (hS3 _ _ _ (Kd.R_below HR.out HB2.out) (Ap.Pre.refl (Kd.R_below HR.out HB2.out))).2; have BD3 := Aside0.mk (blk_kept BD2.out hK3 (fun e_ => Kd.R_ne (Kd.R_below HR.out HB2.out) BD2.out (by decide) e_.symm)); have BR3 := Aside0.mk (blk_kept BR2.out hK3 (fun e_ => Kd.R_ne (Kd.R_below HR.out HB2.out) BR2.out (by decide) e_.symm)); clear hR1 hB3 hK3 hS3) | ((with_reducible refine gate_dst (N := 10) rfl ?_); refine box_event ?hg (N := 10) ?hd (cs := #[.int .i64 0, .slice none 0 0]) (t := 28) ?hr ?_; (case hd => rfl); (case hg => rfl); (case hr => first | (go_simp; done) | (go_simp; rfl)); intro g1 hg0 w4 hbox hb; have B14 := Aside0.mk hbox; have BD4 := Aside0.mk (blk_below BD3.out hb); have BR4 := Aside0.mk (blk_below BR3.out hb); have RE4 := Aside0.mk (Kd.R_below RE3.out hb); have R14 := Aside0.mk (Kd.R_below R13.out hb); have HB4 := Aside0.mk (below_then HB3.out HB3.out.size hb); have HK4 := Aside0.mk (HK3.out.below hb); have G1 := Aside0.mk (show w.heap.size ≤ g1 by rw [hg0]; exact HK3.out.1); have n10 : g1 ≠ g0 := (fun e_ => by have := blk_lt BD3.out; omega); have n1r : g1 ≠ gr := (fun e_ => by have := blk_lt BR3.out; omega); have n01 := n10.symm; have nr1 := n1r.symm; have dg040 : w4.cell? ⟨g0, 0, none⟩ = some (.int .i64 a0_0) := (blk_cell BD4.out 0).trans rfl; have dg041 : w4.cell? ⟨g0, 1, none⟩ = some (.slice A l.length c) := (blk_cell BD4.out 1).trans rfl; have dgr40 : w4.cell? ⟨gr, 0, none⟩ = some (.int .i64 0) := (blk_cell BR4.out 0).trans rfl; have dgr41 : w4.cell? ⟨gr, 1, none⟩ = some (.slice none 0 0) := (blk_cell BR4.out 1).trans rfl; have fgr40 := blk_frozen BR4.out 0; have fgr41 := blk_frozen BR4.out 1; have dg140 : w4.cell? ⟨g1, 0, none⟩ = some (.int .i64 0) := (blk_cell B14.out 0).trans rfl; have dg141 : w4.cell? ⟨g1, 1, none⟩ = some (.slice none 0 0) := (blk_cell B14.out 1).trans rfl; have fg140 := blk_frozen B14.out 0; have fg141 := blk_frozen B14.out 1;  clear hg0 hbox hb))
 have BR5 := Aside0.mk (blk_far (p := ⟨g1, 1, none⟩) (blk_far (p := ⟨g1, 0, none⟩) BR4.out nr1 (.int .i64 t1)) nr1 (.slice A1 t2.length c1))
 have BD5 := Aside0.mk (blk_far (p := ⟨g1, 1, none⟩) (blk_far (p := ⟨g1, 0, none⟩) BD4.out n01 (.int .i64 t1)) n01 (.slice A1 t2.length c1))
 have RE5 := Aside0.mk (Kd.R_set (Kd.R_set RE4.out B14.out (by decide) 0 (.int .i64 t1)) (blk_put B14.out 0 (.int .i64 t1) rfl) (by decide) 1 (.slice A1 t2.length c1))
 have HB5 := Aside0.mk ((HB4.out.setCell (p := ⟨g1, 0, none⟩) (Nat.le_trans HB.out.size G1.out) (.int .i64 t1)).setCell (p := ⟨g1, 1, none⟩) (Nat.le_trans HB.out.size G1.out) (.slice A1 t2.length c1))
 have HK5 := Aside0.mk ((HK4.out.setCell (p := ⟨g1, 0, none⟩) (.inr G1.out) (.int .i64 t1)).setCell (p := ⟨g1, 1, none⟩) (.inr G1.out) (.slice A1 t2.length c1))
 have R15 := Aside0.mk (Kd.R_set (Kd.R_set R14.out B14.out (by decide) 0 (.int .i64 t1)) (blk_put B14.out 0 (.int .i64 t1) rfl) (by decide) 1 (.slice A1 t2.length c1))
 have B15 := Aside0.mk (blk_put (cs' := #[.int .i64 t1, .slice A1 t2.length c1]) (blk_put (cs' := #[.int .i64 t1, .slice none 0 0]) B14.out 0 (.int .i64 t1) rfl) 1 (.slice A1 t2.length c1) rfl)
 generalize ((w4.setCell ⟨g1, 0, none⟩ (.int .i64 t1)).setCell ⟨g1, 1, none⟩ (.slice A1 t2.length c1)) = w5 at BR5 BD5 RE5 HB5 HK5 R15 B15 ⊢
 clear dg040 dg041 dgr40 dgr41 dg140 dg141 fgr40 fgr41 fg140 fg141 n10 n1r n01 nr1
 refine start_ (n := 11) (S := fun w' => w'.cell? ⟨g1, 0, none⟩ = some (.int .i64 t1) ∧ w'.cell? ⟨g1, 1, none⟩ = some (.slice A1 t2.length c1)) (ds := [9]) (Pt.bm 11 0) (by kernel_rfl) rfl rfl ⟨(blk_cell (blk_drew B15.out) 0).trans rfl, (blk_cell (blk_drew B15.out) 1).trans rfl⟩ (fun hHeld => ?_)
 have R16 := Aside0.mk (Kd.R_drew R15.out)
 have RE6 := Aside0.mk (Kd.R_drew RE5.out)
 have HB6 := Aside0.mk (below_drew HB5.out)
 have HK6 := Aside0.mk HK5.out.drew
 have BD6 := Aside0.mk (blk_drew BD5.out)
 have BR6 := Aside0.mk (blk_drew BR5.out)
 have B16 := Aside0.mk (blk_drew B15.out)
 clear R15 RE5 HB5 HK5 BD5 BR5 B15
 generalize w5.drew = w6 at R16 RE6 HB6 HK6 BD6 BR6 B16 hHeld ⊢
 refine Pt.tk 0 (some 30) (Pt.bm 11 1) rfl rfl (by kernel_rfl) hHeld (Or.inl ⟨by rfl, by rintro w' ⟨s0, s1⟩; go_simp; with_reducible rfl⟩) ?_
 refine Pt.pu 1 (some 31) (Pt.bm 11 3) (by kernel_rfl) ?_
 refine Pt.pu 3 (some 33) (Pt.bm 11 11) (by kernel_rfl) ?_
 refine join_ (σ := Value × Nat) 2 (Pt.bm 11 511) (fun s_ => [(32, .int .i64 tn), (34, .tuple #[.agg #[.int .i64 u1, s_.1], .int .i64 u3]), (29, .tuple #[.agg #[.int .i64 u1, s_.1], .int .i64 u3]), (35, .agg #[.int .i64 u1, s_.1]), (36, .int .i64 u3), (12, .pointer (some ⟨s_.2, 0, none⟩))]) (fun s_ w' => Kd.R k92 92 w' w0.heap.size (fun k_ => P k_ ∨ w.heap.size ≤ k_) s_.1 u2 ∧ Kd.R k92 92 w' w0.heap.size (fun k_ => P k_ ∨ w.heap.size ≤ k_) (.slice A l.length c) l ∧ Below w0.heap.size w0 w' ∧ Kept w w' P ∧ w'.heap[g0]? = some (.cells #[.int .i64 a0_0, .slice A l.length c] 28 (0, 0)) ∧ w'.heap[gr]? = some (.cells #[.int .i64 0, .slice none 0 0] 28 (0, 0)) ∧ w'.heap[s_.2]? = some (.cells #[.int .i64 0, .slice none 0 0] 28 (0, 0)) ∧ w.heap.size ≤ s_.2 ∧ s_.2 ≠ g0 ∧ s_.2 ≠ gr) ?_ ?_
 rotate_left
 ·intro hCont
  refine two_ (i := 2) (j := 8) (Ni := some 32) (Nj := some 12) (Pt.bm 11 15) (Pt.bm 11 267) rfl rfl rfl rfl (by kernel_rfl) (by decide) (by decide) (fun K hK => ?_) (fun K hK => ?_)
  ·skip
   refine goes_ Try.func75 (by kernel_rfl) rfl #[.int .i64 by_] (by rfl) rfl rfl (by (try simp only [List.map_toArray, List.map_cons, List.map_nil]); first | done | rfl) ?_
   refine (spec_l7Not.calls by_ tn _ TN.out).mono ?_
   rintro e wx2 ⟨rfl, hd⟩
   refine ⟨_, rfl, ?_⟩
   have hb := hd.below
   have HBx2 := Aside0.mk (below_then HB6.out HB6.out.size hb)
   have HKx2 := Aside0.mk (HK6.out.below hb)
   have R1x2 := Aside0.mk (Kd.R_below R16.out hb)
   have REx2 := Aside0.mk (Kd.R_below RE6.out hb)
   have BDx2 := Aside0.mk (blk_below BD6.out hb)
   have BRx2 := Aside0.mk (blk_below BR6.out hb)
   have B1x2 := Aside0.mk (blk_below B16.out hb)
   refine hK.out _ _ ⟨(blk_cell B1x2.out 0).trans rfl, (blk_cell B1x2.out 1).trans rfl⟩ (fun hHeld => ?_)
   clear hK K hd hb
   refine norm_ (a' := ?_) ?_ ?_
   rotate_left
   ·show Act.put _ (some 32) _ = _
    simp only [Act.put, List.setIfInBounds_toArray, List.set_cons_zero, List.set_cons_succ, i64_w, i32_w]
    rfl
   refine two_ (i := 4) (j := 8) (Ni := some 34) (Nj := some 12) (Pt.bm 11 31) (Pt.bm 11 271) rfl rfl rfl rfl (by kernel_rfl) (by decide) (by decide) (fun K hK => ?_) (fun K hK => ?_)
   ·skip
    refine goes_ Try.func76 (by kernel_rfl) rfl #[.agg #[.int .i64 t1, .slice A1 t2.length c1], .int .i64 tn, .int .i64 no] (by rfl) rfl rfl (by (try simp only [List.map_toArray, List.map_cons, List.map_nil]); first | done | rfl) ?_
    refine (spec_l7Pick.strong k t1 (fun k_ => P k_ ∨ w.heap.size ≤ k_) (.slice A1 t2.length c1) t2 tn no u1 u2 u3 w0 _ HBx2.out R1x2.out (fun k_ hk_ => .inr (Nat.le_trans HKx2.out.1 hk_)) T2.out).mono ?_
    rintro e wx42 ⟨vx42, rfl, hR, hB_, hK_, hS_⟩
    refine ⟨_, rfl, ?_⟩
    obtain ⟨Ax42, cx42, ex42⟩ := Kd.R_slice hR
    subst ex42
    have R2x42 := Aside0.mk hR
    have HBx42 := Aside0.mk hB_
    have HKx42 := Aside0.mk (HKx2.out.then_ hK_ (fun k_ hk_ => R1x2.out.1 k_ hk_))
    have REx42 := Aside0.mk (hS_ _ _ _ REx2.out PR.out).1
    have BDx42 := Aside0.mk (blk_kept BDx2.out hK_ (fun e_ => Kd.R_ne R1x2.out BDx2.out (by decide) e_.symm))
    have BRx42 := Aside0.mk (blk_kept BRx2.out hK_ (fun e_ => Kd.R_ne R1x2.out BRx2.out (by decide) e_.symm))
    have B1x42 := Aside0.mk (blk_kept B1x2.out hK_ (fun e_ => Kd.R_ne R1x2.out B1x2.out (by decide) e_.symm))
    refine hK.out _ _ ⟨(blk_cell B1x42.out 0).trans rfl, (blk_cell B1x42.out 1).trans rfl⟩ (fun hHeld => ?_)
    clear hK K hR hB_ hK_ hS_
    refine norm_ (a' := ?_) ?_ ?_
    rotate_left
    ·show Act.put _ (some 34) _ = _
     simp only [Act.put, List.setIfInBounds_toArray, List.set_cons_zero, List.set_cons_succ, i64_w, i32_w]
     rfl
    refine Pt.pu 5 (some 29) (Pt.bm 11 63) (by kernel_rfl) ?_
    refine Pt.pu 6 (some 35) (Pt.bm 11 127) (by kernel_rfl) ?_
    refine Pt.pu 7 (some 36) (Pt.bm 11 255) (by kernel_rfl) ?_
    refine one_ (i := 8) (N := some 12) (Pt.bm 11 511) rfl rfl (by kernel_rfl) (by decide) (fun K hK => ?_)
    refine box_step (by rfl) (N := 12) rfl (cs := #[.int .i64 0, .slice none 0 0]) (t := 28) ?hr ?_
    case hr => first | (go_simp; done) | (go_simp; rfl)
    intro gx hg wx824 hbox hb
    have HBx824 := Aside0.mk (below_then HBx42.out HBx42.out.size hb)
    have HKx824 := Aside0.mk (HKx42.out.below hb)
    have REx824 := Aside0.mk (Kd.R_below REx42.out hb)
    have R2x824 := Aside0.mk (Kd.R_below R2x42.out hb)
    have BDx824 := Aside0.mk (blk_below BDx42.out hb)
    have BRx824 := Aside0.mk (blk_below BRx42.out hb)
    have B1x824 := Aside0.mk (blk_below B1x42.out hb)
    have BXx824 := Aside0.mk hbox
    have GX := Aside0.mk (And.intro (show w.heap.size ≤ gx by rw [hg]; exact HKx42.out.1) (And.intro (show gx ≠ g0 from fun e_ => by have := blk_lt BDx42.out; omega) (show gx ≠ gr from fun e_ => by have := blk_lt BRx42.out; omega)))
    clear hg
    refine hK.out _ _ ⟨(blk_cell B1x824.out 0).trans rfl, (blk_cell B1x824.out 1).trans rfl⟩ (fun hHeld => ?_)
    clear hK K hbox hb
    refine norm_ (a' := ?_) ?_ ?_
    rotate_left
    ·show Act.put _ (some 12) _ = _
     simp only [Act.put, List.setIfInBounds_toArray, List.set_cons_zero, List.set_cons_succ, i64_w, i32_w]
     rfl
    exact norm_ (by simp only [putAll, Act.put, List.setIfInBounds_toArray, List.set_cons_zero, List.set_cons_succ]) (hCont ((.slice Ax42 u2.length cx42), gx) _ ⟨R2x824.out, REx824.out, HBx824.out, HKx824.out, BDx824.out, BRx824.out, BXx824.out, GX.out.1, GX.out.2.1, GX.out.2.2⟩)
   ·skip
    refine box_step (by rfl) (N := 12) rfl (cs := #[.int .i64 0, .slice none 0 0]) (t := 28) ?hr ?_
    case hr => first | (go_simp; done) | (go_simp; rfl)
    intro gx hg wx82 hbox hb
    have HBx82 := Aside0.mk (below_then HBx2.out HBx2.out.size hb)
    have HKx82 := Aside0.mk (HKx2.out.below hb)
    have R1x82 := Aside0.mk (Kd.R_below R1x2.out hb)
    have REx82 := Aside0.mk (Kd.R_below REx2.out hb)
    have BDx82 := Aside0.mk (blk_below BDx2.out hb)
    have BRx82 := Aside0.mk (blk_below BRx2.out hb)
    have B1x82 := Aside0.mk (blk_below B1x2.out hb)
    have BXx82 := Aside0.mk hbox
    have GX := Aside0.mk (And.intro (show w.heap.size ≤ gx by rw [hg]; exact HKx2.out.1) (And.intro (show gx ≠ g0 from fun e_ => by have := blk_lt BDx2.out; omega) (show gx ≠ gr from fun e_ => by have := blk_lt BRx2.out; omega)))
    clear hg
    refine hK.out _ _ ⟨(blk_cell B1x82.out 0).trans rfl, (blk_cell B1x82.out 1).trans rfl⟩ (fun hHeld => ?_)
    clear hK K hbox hb
    refine norm_ (a' := ?_) ?_ ?_
    rotate_left
    ·show Act.put _ (some 12) _ = _
     simp only [Act.put, List.setIfInBounds_toArray, List.set_cons_zero, List.set_cons_succ, i64_w, i32_w]
     rfl
    refine one_ (i := 4) (N := some 34) (Pt.bm 11 287) rfl rfl (by kernel_rfl) (by decide) (fun K hK => ?_)
    refine goes_ Try.func76 (by kernel_rfl) rfl #[.agg #[.int .i64 t1, .slice A1 t2.length c1], .int .i64 tn, .int .i64 no] (by rfl) rfl rfl (by (try simp only [List.map_toArray, List.map_cons, List.map_nil]); first | done | rfl) ?_
    refine (spec_l7Pick.strong k t1 (fun k_ => P k_ ∨ w.heap.size ≤ k_) (.slice A1 t2.length c1) t2 tn no u1 u2 u3 w0 _ HBx82.out R1x82.out (fun k_ hk_ => .inr (Nat.le_trans HKx82.out.1 hk_)) T2.out).mono ?_
    rintro e wx428 ⟨vx428, rfl, hR, hB_, hK_, hS_⟩
    refine ⟨_, rfl, ?_⟩
    obtain ⟨Ax428, cx428, ex428⟩ := Kd.R_slice hR
    subst ex428
    have R2x428 := Aside0.mk hR
    have HBx428 := Aside0.mk hB_
    have HKx428 := Aside0.mk (HKx82.out.then_ hK_ (fun k_ hk_ => R1x82.out.1 k_ hk_))
    have REx428 := Aside0.mk (hS_ _ _ _ REx82.out PR.out).1
    have BDx428 := Aside0.mk (blk_kept BDx82.out hK_ (fun e_ => Kd.R_ne R1x82.out BDx82.out (by decide) e_.symm))
    have BRx428 := Aside0.mk (blk_kept BRx82.out hK_ (fun e_ => Kd.R_ne R1x82.out BRx82.out (by decide) e_.symm))
    have B1x428 := Aside0.mk (blk_kept B1x82.out hK_ (fun e_ => Kd.R_ne R1x82.out B1x82.out (by decide) e_.symm))
    have BXx428 := Aside0.mk (blk_kept BXx82.out hK_ (fun e_ => Kd.R_ne R1x82.out BXx82.out (by decide) e_.symm))
    refine hK.out _ _ ⟨(blk_cell B1x428.out 0).trans rfl, (blk_cell B1x428.out 1).trans rfl⟩ (fun hHeld => ?_)
    clear hK K hR hB_ hK_ hS_
    refine norm_ (a' := ?_) ?_ ?_
    rotate_left
    ·show Act.put _ (some 34) _ = _
     simp only [Act.put, List.setIfInBounds_toArray, List.set_cons_zero, List.set_cons_succ, i64_w, i32_w]
     rfl
    refine Pt.pu 5 (some 29) (Pt.bm 11 319) (by kernel_rfl) ?_
    refine Pt.pu 6 (some 35) (Pt.bm 11 383) (by kernel_rfl) ?_
    refine Pt.pu 7 (some 36) (Pt.bm 11 511) (by kernel_rfl) ?_
    exact norm_ (by simp only [putAll, Act.put, List.setIfInBounds_toArray, List.set_cons_zero, List.set_cons_succ]) (hCont ((.slice Ax428 u2.length cx428), gx) _ ⟨R2x428.out, REx428.out, HBx428.out, HKx428.out, BDx428.out, BRx428.out, BXx428.out, GX.out.1, GX.out.2.1, GX.out.2.2⟩)
  ·skip
   refine box_step (by rfl) (N := 12) rfl (cs := #[.int .i64 0, .slice none 0 0]) (t := 28) ?hr ?_
   case hr => first | (go_simp; done) | (go_simp; rfl)
   intro gx hg wx8 hbox hb
   have HBx8 := Aside0.mk (below_then HB6.out HB6.out.size hb)
   have HKx8 := Aside0.mk (HK6.out.below hb)
   have R1x8 := Aside0.mk (Kd.R_below R16.out hb)
   have REx8 := Aside0.mk (Kd.R_below RE6.out hb)
   have BDx8 := Aside0.mk (blk_below BD6.out hb)
   have BRx8 := Aside0.mk (blk_below BR6.out hb)
   have B1x8 := Aside0.mk (blk_below B16.out hb)
   have BXx8 := Aside0.mk hbox
   have GX := Aside0.mk (And.intro (show w.heap.size ≤ gx by rw [hg]; exact HK6.out.1) (And.intro (show gx ≠ g0 from fun e_ => by have := blk_lt BD6.out; omega) (show gx ≠ gr from fun e_ => by have := blk_lt BR6.out; omega)))
   clear hg
   refine hK.out _ _ ⟨(blk_cell B1x8.out 0).trans rfl, (blk_cell B1x8.out 1).trans rfl⟩ (fun hHeld => ?_)
   clear hK K hbox hb
   refine norm_ (a' := ?_) ?_ ?_
   rotate_left
   ·show Act.put _ (some 12) _ = _
    simp only [Act.put, List.setIfInBounds_toArray, List.set_cons_zero, List.set_cons_succ, i64_w, i32_w]
    rfl
   refine one_ (i := 2) (N := some 32) (Pt.bm 11 271) rfl rfl (by kernel_rfl) (by decide) (fun K hK => ?_)
   refine goes_ Try.func75 (by kernel_rfl) rfl #[.int .i64 by_] (by rfl) rfl rfl (by (try simp only [List.map_toArray, List.map_cons, List.map_nil]); first | done | rfl) ?_
   refine (spec_l7Not.calls by_ tn _ TN.out).mono ?_
   rintro e wx28 ⟨rfl, hd⟩
   refine ⟨_, rfl, ?_⟩
   have hb := hd.below
   have HBx28 := Aside0.mk (below_then HBx8.out HBx8.out.size hb)
   have HKx28 := Aside0.mk (HKx8.out.below hb)
   have R1x28 := Aside0.mk (Kd.R_below R1x8.out hb)
   have REx28 := Aside0.mk (Kd.R_below REx8.out hb)
   have BDx28 := Aside0.mk (blk_below BDx8.out hb)
   have BRx28 := Aside0.mk (blk_below BRx8.out hb)
   have B1x28 := Aside0.mk (blk_below B1x8.out hb)
   have BXx28 := Aside0.mk (blk_below BXx8.out hb)
   refine hK.out _ _ ⟨(blk_cell B1x28.out 0).trans rfl, (blk_cell B1x28.out 1).trans rfl⟩ (fun hHeld => ?_)
   clear hK K hd hb
   refine norm_ (a' := ?_) ?_ ?_
   rotate_left
   ·show Act.put _ (some 32) _ = _
    simp only [Act.put, List.setIfInBounds_toArray, List.set_cons_zero, List.set_cons_succ, i64_w, i32_w]
    rfl
   refine one_ (i := 4) (N := some 34) (Pt.bm 11 287) rfl rfl (by kernel_rfl) (by decide) (fun K hK => ?_)
   refine goes_ Try.func76 (by kernel_rfl) rfl #[.agg #[.int .i64 t1, .slice A1 t2.length c1], .int .i64 tn, .int .i64 no] (by rfl) rfl rfl (by (try simp only [List.map_toArray, List.map_cons, List.map_nil]); first | done | rfl) ?_
   refine (spec_l7Pick.strong k t1 (fun k_ => P k_ ∨ w.heap.size ≤ k_) (.slice A1 t2.length c1) t2 tn no u1 u2 u3 w0 _ HBx28.out R1x28.out (fun k_ hk_ => .inr (Nat.le_trans HKx28.out.1 hk_)) T2.out).mono ?_
   rintro e wx482 ⟨vx482, rfl, hR, hB_, hK_, hS_⟩
   refine ⟨_, rfl, ?_⟩
   obtain ⟨Ax482, cx482, ex482⟩ := Kd.R_slice hR
   subst ex482
   have R2x482 := Aside0.mk hR
   have HBx482 := Aside0.mk hB_
   have HKx482 := Aside0.mk (HKx28.out.then_ hK_ (fun k_ hk_ => R1x28.out.1 k_ hk_))
   have REx482 := Aside0.mk (hS_ _ _ _ REx28.out PR.out).1
   have BDx482 := Aside0.mk (blk_kept BDx28.out hK_ (fun e_ => Kd.R_ne R1x28.out BDx28.out (by decide) e_.symm))
   have BRx482 := Aside0.mk (blk_kept BRx28.out hK_ (fun e_ => Kd.R_ne R1x28.out BRx28.out (by decide) e_.symm))
   have B1x482 := Aside0.mk (blk_kept B1x28.out hK_ (fun e_ => Kd.R_ne R1x28.out B1x28.out (by decide) e_.symm))
   have BXx482 := Aside0.mk (blk_kept BXx28.out hK_ (fun e_ => Kd.R_ne R1x28.out BXx28.out (by decide) e_.symm))
   refine hK.out _ _ ⟨(blk_cell B1x482.out 0).trans rfl, (blk_cell B1x482.out 1).trans rfl⟩ (fun hHeld => ?_)
   clear hK K hR hB_ hK_ hS_
   refine norm_ (a' := ?_) ?_ ?_
   rotate_left
   ·show Act.put _ (some 34) _ = _
    simp only [Act.put, List.setIfInBounds_toArray, List.set_cons_zero, List.set_cons_succ, i64_w, i32_w]
    rfl
   refine Pt.pu 5 (some 29) (Pt.bm 11 319) (by kernel_rfl) ?_
   refine Pt.pu 6 (some 35) (Pt.bm 11 383) (by kernel_rfl) ?_
   refine Pt.pu 7 (some 36) (Pt.bm 11 511) (by kernel_rfl) ?_
   exact norm_ (by simp only [putAll, Act.put, List.setIfInBounds_toArray, List.set_cons_zero, List.set_cons_succ]) (hCont ((.slice Ax482 u2.length cx482), gx) _ ⟨R2x482.out, REx482.out, HBx482.out, HKx482.out, BDx482.out, BRx482.out, BXx482.out, GX.out.1, GX.out.2.1, GX.out.2.2⟩)
 rintro ⟨v2, gx⟩ w7 ⟨hR2, hRE, hB_, hK_, hbd, hbr, hbx, hg1, hg2, hg3⟩
 obtain ⟨A2, c2, e2_⟩ := Kd.R_slice hR2
 simp only at e2_ hbx hg1 hg2 hg3
 subst e2_
 refine norm_ (a' := ?_) ?_ ?_
 rotate_left
 ·simp only [putAll, Act.put, List.setIfInBounds_toArray, List.set_cons_zero, List.set_cons_succ]
  rfl
 have R27 := Aside0.mk hR2
 have RE7 := Aside0.mk hRE
 have HB7 := Aside0.mk hB_
 have HK7 := Aside0.mk hK_
 have BD7 := Aside0.mk hbd
 have BR7 := Aside0.mk hbr
 have BX7 := Aside0.mk hbx
 have GX := Aside0.mk (And.intro hg1 (And.intro hg2 hg3))
 clear hR2 hRE hB_ hK_ hbd hbr hbx hg1 hg2 hg3 hHeld R16 RE6 HB6 HK6 BD6 BR6 B16
 refine last_ (i := 9) (N := none) (Pt.bm 11 1023) rfl rfl (by kernel_rfl) (by decide) (fun K hK => ?_)
 have hs0 : w7.cell? ⟨gx, 0, none⟩ = some (.int .i64 0) := (blk_cell BX7.out 0).trans rfl
 have hs1 : w7.cell? ⟨gx, 1, none⟩ = some (.slice none 0 0) := (blk_cell BX7.out 1).trans rfl
 have hfs0 := blk_frozen BX7.out 0
 have hfs1 := blk_frozen BX7.out 1
 refine skip_ (w1 := ?_) (by rfl) rfl ?_ ?_
 rotate_left
 ·go_simp
  rfl
 refine hK.out _ _ ?_
 clear hK K hs0 hs1 hfs0 hfs1
 refine Pt.pu 10 (some 13) (Pt.bm 11 2047) (by kernel_rfl) ?_
 refine done_ (by kernel_rfl) ?_
 have BR8 := Aside0.mk (blk_far (p := ⟨gx, 1, none⟩) (blk_far (p := ⟨gx, 0, none⟩) BR7.out GX.out.2.2.symm (.int .i64 u1)) GX.out.2.2.symm (.slice A2 u2.length c2))
 have BD8 := Aside0.mk (blk_far (p := ⟨gx, 1, none⟩) (blk_far (p := ⟨gx, 0, none⟩) BD7.out GX.out.2.1.symm (.int .i64 u1)) GX.out.2.1.symm (.slice A2 u2.length c2))
 have RE8 := Aside0.mk (Kd.R_set (Kd.R_set RE7.out BX7.out (by decide) 0 (.int .i64 u1)) (blk_put BX7.out 0 (.int .i64 u1) rfl) (by decide) 1 (.slice A2 u2.length c2))
 have HB8 := Aside0.mk ((HB7.out.setCell (p := ⟨gx, 0, none⟩) (Nat.le_trans HB.out.size GX.out.1) (.int .i64 u1)).setCell (p := ⟨gx, 1, none⟩) (Nat.le_trans HB.out.size GX.out.1) (.slice A2 u2.length c2))
 have HK8 := Aside0.mk ((HK7.out.setCell (p := ⟨gx, 0, none⟩) (.inr GX.out.1) (.int .i64 u1)).setCell (p := ⟨gx, 1, none⟩) (.inr GX.out.1) (.slice A2 u2.length c2))
 have R28 := Aside0.mk (Kd.R_set (Kd.R_set R27.out BX7.out (by decide) 0 (.int .i64 u1)) (blk_put BX7.out 0 (.int .i64 u1) rfl) (by decide) 1 (.slice A2 u2.length c2))
 have BX8 := Aside0.mk (blk_put (cs' := #[.int .i64 u1, .slice A2 u2.length c2]) (blk_put (cs' := #[.int .i64 u1, .slice none 0 0]) BX7.out 0 (.int .i64 u1) rfl) 1 (.slice A2 u2.length c2) rfl)
 generalize ((w7.setCell ⟨gx, 0, none⟩ (.int .i64 u1)).setCell ⟨gx, 1, none⟩ (.slice A2 u2.length c2)) = w8 at BR8 BD8 RE8 HB8 HK8 R28 BX8 ⊢
 have d80 : w8.cell? ⟨g0, 0, none⟩ = some (.int .i64 a0_0) := (blk_cell BD8.out 0).trans rfl
 have d81 : w8.cell? ⟨g0, 1, none⟩ = some (.slice A l.length c) := (blk_cell BD8.out 1).trans rfl
 have r80 : w8.cell? ⟨gr, 0, none⟩ = some (.int .i64 0) := (blk_cell BR8.out 0).trans rfl
 have r81 : w8.cell? ⟨gr, 1, none⟩ = some (.slice none 0 0) := (blk_cell BR8.out 1).trans rfl
 have q80 := blk_frozen BR8.out 0
 have q81 := blk_frozen BR8.out 1
 have x80 : w8.cell? ⟨gx, 0, none⟩ = some (.int .i64 u1) := (blk_cell BX8.out 0).trans rfl
 have x81 : w8.cell? ⟨gx, 1, none⟩ = some (.slice A2 u2.length c2) := (blk_cell BX8.out 1).trans rfl
 have h := HH.out
 by_cases c2 : u3 < 0
 ·rw [if_pos c2] at h
  have e2 : decide (u3 < 0) = true := decide_eq_true c2
  clear c2
  simp only [Option.some.injEq, Prod.mk.injEq] at h
  obtain ⟨rfl, rfl, rfl⟩ := h
  go_wp2
  refine bodyPost_ret (results_ct rfl _ _ gr 28 #[.int .i64 a0_0, .slice A l.length c] (0, 0) _ rfl (blk_put (blk_put BR8.out 0 _ rfl) 1 _ rfl) Try.underlying28 rfl (by kernel_rfl)) rfl ?_
  exact ⟨_, rfl, Kd.R_set (Kd.R_set RE8.out BR8.out (by decide) 0 _) (blk_put BR8.out 0 _ rfl) (by decide) 1 _, (HB8.out.setCell (p := ⟨gr, 0, none⟩) (Nat.le_trans HB.out.size GR.out) _).setCell (p := ⟨gr, 1, none⟩) (Nat.le_trans HB.out.size GR.out) _, (HK8.out.setCell (p := ⟨gr, 0, none⟩) (.inr GR.out) _).setCell (p := ⟨gr, 1, none⟩) (.inr GR.out) _⟩
 rw [if_neg c2] at h
 have e2 : decide (u3 < 0) = false := decide_eq_false c2
 clear c2
 have T3 := Aside0.mk h
 clear h
 go_wp2_with (go_at_call 106; (with_reducible refine (spec_l7Or.calls k u1 (fun k_ => some k_ = (Value.slice A2 u2.length c2).ownBlock) (.slice A2 u2.length c2) u2 t3 u3 r1 r2 r3 w0 _ HB8.out (Kd.R_tight rfl R28.out) T3.out).mono ?_); rintro e w9 ⟨v3, rfl, hR3, hB9, hK9⟩; obtain ⟨A3, c3, rfl⟩ := Kd.R_slice hR3; have R39 := Aside0.mk (Kd.R_mono (ok' := fun k_ => P k_ ∨ w.heap.size ≤ k_) hR3 (fun k_ hk_ => hk_.elim (fun e_ => R28.out.1 k_ e_.symm) (fun e_ => .inr (Nat.le_trans HK8.out.1 e_)))); have HB9 := Aside0.mk hB9; have HK9 := Aside0.mk (HK8.out.then_ hK9 (fun k_ hk_ => R28.out.1 k_ hk_.symm)); have BR9 := Aside0.mk (blk_kept BR8.out hK9 (fun e_ => Kd.R_ne R28.out BR8.out (by decide) e_)); have r90 : w9.cell? ⟨gr, 0, none⟩ = some (.int .i64 0) := (blk_cell BR9.out 0).trans rfl; have r91 : w9.cell? ⟨gr, 1, none⟩ = some (.slice none 0 0) := (blk_cell BR9.out 1).trans rfl; have q90 := blk_frozen BR9.out 0; have q91 := blk_frozen BR9.out 1; clear hR3 hB9 hK9)
 refine bodyPost_ret (results_ct rfl _ _ gr 28 #[.int .i64 r1, .slice A3 r2.length c3] (0, 0) _ rfl (blk_put (blk_put BR9.out 0 _ rfl) 1 _ rfl) Try.underlying28 rfl (by kernel_rfl)) rfl ?_
 exact ⟨_, rfl, Kd.R_set (Kd.R_set R39.out BR9.out (by decide) 0 _) (blk_put BR9.out 0 _ rfl) (by decide) 1 _, (HB9.out.setCell (p := ⟨gr, 0, none⟩) (Nat.le_trans HB.out.size GR.out) _).setCell (p := ⟨gr, 1, none⟩) (Nat.le_trans HB.out.size GR.out) _, (HK9.out.setCell (p := ⟨gr, 0, none⟩) (.inr GR.out) _).setCell (p := ⟨gr, 1, none⟩) (.inr GR.out) _⟩

end Go.Proofs.Ytpcckoljocpchaa.QFnAddPick
