-- Written by a program of this session (mk.py). Lean checks it.
import Derived.Test.YtpcckoljocpchaaQFnExactSwapOrderx0
namespace Go.Proofs.Ytpcckoljocpchaa.QFnExactSwapOrder
open Go.RowKit Go.Proofs.YtpcckoljocpchaaW.PrintWords Go.Proofs.YtpcckoljocpchaaW.PrintLast Go.Proofs.YtpcckoljocpchaaW.PrintMore
attribute [local go_sem] max2_int min2_int max_two min_two max_three min_three max_four min_four   -- for this text's walks alone
set_option linter.unusedVariables false
set_option linter.unusedSimpArgs false

/-! ### spec_l8Add: function 130 -/
/-! #### A diagram that grows: the state behind a pointer -/
instance : DecidableEq S56 := fun a b => decidable_of_iff (a.f0 = b.f0 ∧ a.f1 = b.f1 ∧ a.f2 = b.f2) (by cases a; cases b; simp)
/-- Numbers that a key may hold. -/
def KeyI (n : Int) : Prop := 0 ≤ n ∧ n ≤ 9223372036854775807
instance (n : Int) : Decidable (KeyI n) := inferInstanceAs (Decidable (_ ∧ _))
theorem KeyI.wf {n : Int} (h : KeyI n) : (Lit.int .i64 n).wf = true := by
 obtain ⟨h0, h1⟩ := h
 simp [Lit.wf, IntKind.min, IntKind.max, IntKind.signed, IntKind.bits]
 omega
def ekF (x : S56) : Value := .agg #[.int .i64 x.f0, .int .i64 x.f1, .int .i64 x.f2]
def okF (x : S56) : Prop := KeyI x.f0 ∧ KeyI x.f1 ∧ KeyI x.f2
instance (x : S56) : Decidable (okF x) := inferInstanceAs (Decidable (_ ∧ _ ∧ _))
theorem lits_int (n : Nat) (y : Int) (h : KeyI y) : Try.prog.keyLits (n + 1) 3 [.int .i64 y] = some [.int .i64 y] := by
 have hu3 := Try.underlying3
 unfold Program.keyLits
 simp only [hu3]
 rw [if_pos ⟨trivial, h.wf⟩]
theorem types_two : ∃ n, Try.prog.types.size + 1 = n + 2 := ⟨Try.prog.types.size - 1, by have : 1 ≤ Try.prog.types.size := of_decide_eq_true (by kernel_rfl); omega⟩
theorem keyF : Mp.Key Try.prog 56 ekF okF where
 law := Maps.Keyed.of_law (deep_law_laid (m := 3) (by kernel_rfl) (by decide) (of_decide_eq_true (by kernel_rfl)) (by kernel_rfl) (by kernel_rfl))
 reads := by
  rintro x ⟨h0, h1, h2⟩
  have hk : Try.prog.keyType 56 = true := by kernel_rfl
  have hc : Try.prog.cellsOf 56 = 3 := by kernel_rfl
  have hc3 : Try.prog.cellsOf 3 = 1 := by kernel_rfl
  have hu := Try.underlying56
  obtain ⟨n, hn⟩ := types_two
  have hform : (Value.agg #[.int .i64 x.f0, .int .i64 x.f1, .int .i64 x.f2]).formed Try.prog 56 = true := by simp [Value.formed, hu, hc]
  have hl : Try.prog.keyLits (n + 2) 56 [.int .i64 x.f0, .int .i64 x.f1, .int .i64 x.f2] = some [.int .i64 x.f0, .int .i64 x.f1, .int .i64 x.f2] := by
   unfold Program.keyLits
   simp only [hu, hc]
   rw [if_pos ⟨rfl, by kernel_rfl⟩]
   simp [hc3, lits_int _ _ h0, lits_int _ _ h1, lits_int _ _ h2]
  refine ⟨.string (keyBytes [.int .i64 x.f0, .int .i64 x.f1, .int .i64 x.f2]), ?_⟩
  unfold keyOf ekF
  simp only [hu]
  rw [if_pos (by rw [hk, hform]; rfl)]
  show (Try.prog.keyLits (Try.prog.types.size + 1) 56 [.int .i64 x.f0, .int .i64 x.f1, .int .i64 x.f2]).map _ = _
  rw [hn, hl]
  rfl
 inj := by
  rintro ⟨a, b, c⟩ ⟨d, e, f⟩ _ _ h
  simp [ekF] at h
  obtain ⟨rfl, rfl, rfl⟩ := h
  rfl
def ek3 (x : Int × Int × Int) : Value := .agg #[.int .i64 x.1, .int .i64 x.2.1, .int .i64 x.2.2]
def ok3 (x : Int × Int × Int) : Prop := KeyI x.1 ∧ KeyI x.2.1 ∧ KeyI x.2.2
instance (x : Int × Int × Int) : Decidable (ok3 x) := inferInstanceAs (Decidable (_ ∧ _ ∧ _))
theorem key3 : Mp.Key Try.prog 164 ek3 ok3 where
 law := Maps.Keyed.of_law (deep_law_laid (m := 3) (by kernel_rfl) (by decide) (of_decide_eq_true (by kernel_rfl)) (by kernel_rfl) (by kernel_rfl))
 reads := by
  rintro x ⟨h0, h1, h2⟩
  have hk : Try.prog.keyType 164 = true := by kernel_rfl
  have hc : Try.prog.cellsOf 164 = 3 := by kernel_rfl
  have hc3 : Try.prog.cellsOf 3 = 1 := by kernel_rfl
  have hu := Try.underlying164
  obtain ⟨n, hn⟩ := types_two
  have hform : (Value.agg #[.int .i64 x.1, .int .i64 x.2.1, .int .i64 x.2.2]).formed Try.prog 164 = true := by simp [Value.formed, hu, hc]
  have hl : Try.prog.keyLits (n + 2) 164 [.int .i64 x.1, .int .i64 x.2.1, .int .i64 x.2.2] = some [.int .i64 x.1, .int .i64 x.2.1, .int .i64 x.2.2] := by
   unfold Program.keyLits
   simp only [hu, hc]
   simp [hc3, show List.range 3 = [0, 1, 2] by rfl, lits_int _ _ h0, lits_int _ _ h1, lits_int _ _ h2]
  refine ⟨.string (keyBytes [.int .i64 x.1, .int .i64 x.2.1, .int .i64 x.2.2]), ?_⟩
  unfold keyOf ek3
  simp only [hu]
  rw [if_pos (by rw [hk, hform]; rfl)]
  show (Try.prog.keyLits (Try.prog.types.size + 1) 164 [.int .i64 x.1, .int .i64 x.2.1, .int .i64 x.2.2]).map _ = _
  rw [hn, hl]
  rfl
 inj := by
  rintro ⟨a, b, c⟩ ⟨d, e, f⟩ _ _ h
  simp [ek3] at h
  obtain ⟨rfl, rfl, rfl⟩ := h
  rfl
/-- What a diagram that grows holds: its variables, its forks, where each fork stands, whether it is too great, what has been done. -/
structure FS where
 vars : Int
 forks : List S56
 seen : S56 → Option Int
 full : Bool
 memo : Int × Int × Int → Option Int
def IsF (w : World) (base : Nat) (ok : Nat → Prop) (g : Nat) (s : FS) : Prop :=
 ∃ (v : Value) (b1 b2 : Nat), w.heap[g]? = some (.cells #[.int .i64 s.vars, v, .map (some b1), .bool s.full, .map (some b2)] 146 (0, 0)) ∧ Kd.R k56 56 w base ok v s.forks ∧
  Mp.Is ekF okF (Value.int .i64) w b1 s.seen ∧ Mp.Is ek3 ok3 (Value.int .i64) w b2 s.memo ∧ b1 ≠ b2 ∧ ok g ∧ ok b1 ∧ ok b2 ∧ base ≤ g ∧ base ≤ b1 ∧ base ≤ b2
theorem IsF.step {w w1 : World} {base : Nat} {ok : Nat → Prop} {g : Nat} {s : FS} (h : IsF w base ok g s) (hm : ∀ k, ok k → k < w.heap.size → w1.heap[k]? = w.heap[k]?) : IsF w1 base ok g s := by
 obtain ⟨v, b1, b2, h1, h2, h3, h4, h5, h6, h7, h8, h9⟩ := h
 exact ⟨v, b1, b2, (hm g h6 (blk_lt h1)).trans h1, Kd.R_step h2 hm, h3.move (hm b1 h7 h3.lt), h4.move (hm b2 h8 h4.lt), h5, h6, h7, h8, h9⟩
theorem IsF.below {w w1 : World} {base : Nat} {ok : Nat → Prop} {g : Nat} {s : FS} (h : IsF w base ok g s) (hb : Below w.heap.size w w1) : IsF w1 base ok g s := h.step (fun k _ hk => hb.block k hk)
theorem IsF.drewN {w : World} {base : Nat} {ok : Nat → Prop} {g : Nat} {s : FS} (h : IsF w base ok g s) (n : Nat) : IsF (w.drewN n) base ok g s := h.step (fun _ _ _ => rfl)
theorem IsF.mono {w : World} {base : Nat} {ok ok' : Nat → Prop} {g : Nat} {s : FS} (h : IsF w base ok g s) (hk : ∀ k, ok k → ok' k) : IsF w base ok' g s := by
 obtain ⟨v, b1, b2, h1, h2, h3, h4, h5, h6, h7, h8, h9⟩ := h
 exact ⟨v, b1, b2, h1, Kd.R_mono h2 hk, h3, h4, h5, hk _ h6, hk _ h7, hk _ h8, h9⟩
theorem IsF.bound {w : World} {base : Nat} {ok : Nat → Prop} {g : Nat} {s : FS} (h : IsF w base ok g s) : IsF w base (fun k => ok k ∧ base ≤ k ∧ k < w.heap.size) g s := by
 obtain ⟨v, b1, b2, h1, h2, h3, h4, h5, h6, h7, h8, h9, h10, h11⟩ := h
 exact ⟨v, b1, b2, h1, Kd.R_mono (Kd.R_bound h2) (fun k hk => ⟨hk.1, hk.2.1, hk.2.2.1⟩), h3, h4, h5, ⟨h6, h9, blk_lt h1⟩, ⟨h7, h10, h3.lt⟩, ⟨h8, h11, h4.lt⟩, h9, h10, h11⟩
theorem zero_int : ∀ w : World, (zeroValue 3).run Try.prog w = .ok (.int .i64 0) w := fun w => by
 have h := info3
 unfold zeroValue typeInfo
 obtain ⟨i, hi, hz⟩ := Option.map_eq_some_iff.1 h
 simp only [Prod.mk.injEq] at hz
 simp [hi, hz.1]
theorem Kd.R_map {α K V : Type} {d : Kd α} {e base b : Nat} {ok : Nat → Prop} {w w1 : World} {v : Value} {xs : List α} (h : d.R e w base ok v xs) {ek : K → Value} {okk : K → Prop} {ev : V → Value} {f : K → Option V} (hM : Mp.Is ek okk ev w b f) (hg : w.grownBy w1 (some b)) : d.R e w1 base ok v xs :=
 Kd.R_mono (Kd.R_grown (Kd.R_bound h) hg (fun k hk e_ => by
  obtain ⟨_, _, _, q, _, cells, hc⟩ := hk
  cases e_
  obtain ⟨_, _, q, _⟩ := hM
  rw [hc] at q
  cases q)) (fun _ hk => hk.1)
def spec_l8Add.f (a0_0 : Int) (l0_1 : List S56) (v lo hi : Int) : Option (Int × List S56 × Int) :=
 if lo < 0 ∨ hi < 0 then some (a0_0, l0_1, -1) else if lo = hi then some (a0_0, l0_1, lo) else if l0_1.length ≤ 1000000000000 then
  match l0_1.findIdx? (fun y => decide (y = ⟨v, lo, hi⟩)) with
  | some i => some (a0_0, l0_1, (i : Int) + 2)
  | none => if 2000 ≤ l0_1.length then some (a0_0, l0_1, -1) else some (a0_0, l0_1 ++ [⟨v, lo, hi⟩], (l0_1.length : Int) + 2)
 else none
theorem spec_l8Add.find_at {l : List S56} {x : S56} {i : Nat} (hi : i < l.length) (h : l[i] = x) (hn : ∀ q (hq : q < l.length), q < i → l[q] ≠ x) : l.findIdx? (fun y => decide (y = x)) = some i := by
 rw [List.findIdx?_eq_some_iff_getElem]
 exact ⟨hi, decide_eq_true h, fun j hj => by simpa using hn j (by omega) hj⟩
theorem spec_l8Add.find_no {l : List S56} {x : S56} (hn : ∀ q (hq : q < l.length), l[q] ≠ x) : l.findIdx? (fun y => decide (y = x)) = none := by
 rw [List.findIdx?_eq_none_iff]
 intro y hy
 obtain ⟨q, hq, rfl⟩ := List.mem_iff_getElem.1 hy
 simpa using hn q hq
theorem k56_E : k56.E = [] := rfl
set_option maxHeartbeats 8000000 in
set_option maxRecDepth 100000 in
theorem spec_l8Add.strong (a0_0 : Int) (ok : Nat → Prop) (u : Value) (l : List S56) (v lo hi r1 : Int) (r2 : List S56) (r3 : Int) (w0 w : World) (hB : Below w0.heap.size w0 w) (ho : Kd.R k56 56 w w0.heap.size ok u l) (hf : ∀ k, w.heap.size ≤ k → ok k) (h : spec_l8Add.f a0_0 l v lo hi = some (r1, r2, r3)) :
  Calls Try.prog 130 #[.agg #[.int .i64 a0_0, u], .int .i64 v, .int .i64 lo, .int .i64 hi] w fun e w' => ∃ v1 : Value, e = .returned (.tuple #[.agg #[.int .i64 r1, v1], .int .i64 r3]) ∧ Kd.R k56 56 w' w0.heap.size ok v1 r2 ∧ Below w0.heap.size w0 w' ∧ Kept w w' (fun k_ => u.ownBlock = some k_) ∧ Ap.Stays k56 56 w0.heap.size w u l w' v1 r2 := by
 have hu25 := Try.underlying48
 have hu71 := Try.underlying56
 obtain ⟨A, c, rfl⟩ := Kd.R_slice ho
 have HR := Aside0.mk ho
 have HB := Aside0.mk hB
 have HF := Aside0.mk hf
 unfold spec_l8Add.f at h
 clear ho hB hf
 by_cases c1 : lo < 0 ∨ hi < 0
 ·rw [if_pos c1] at h
  simp only [Option.some.injEq, Prod.mk.injEq] at h
  obtain ⟨rfl, rfl, rfl⟩ := h
  have key : (decide (lo < 0) = true ∧ True) ∨ (decide (lo < 0) = false ∧ decide (hi < 0) = true) := by
   by_cases c2 : lo < 0
   ·exact .inl ⟨decide_eq_true c2, trivial⟩
   ·exact .inr ⟨decide_eq_false c2, decide_eq_true (by omega)⟩
  clear c1
  rcases key with ⟨e1, e2⟩ | ⟨e1, e2⟩
  all_goals
   go_enter Try.func130, Try.ntmps130
   go_wp2_with (first | ((with_reducible refine gate_dst (N := 4) rfl ?_); refine box_event ?hg (N := 4) ?hd (cs := #[.int .i64 a0_0, .slice A l.length c]) (t := 48) ?hr ?_; (case hd => rfl); (case hg => rfl); (case hr => first | (go_simp; done) | (go_simp; rfl)); intro g0 hg0 w1 hbox hb; have BD1 := Aside0.mk hbox; have HB1 := Aside0.mk hb; have GD := Aside0.mk (show w.heap.size ≤ g0 from Nat.le_of_eq hg0.symm); clear hg0 hbox hb) | ((with_reducible refine gate_dst (N := 8) rfl ?_); refine box_event ?hg (N := 8) ?hd (cs := #[.int .i64 0, .slice none 0 0]) (t := 48) ?hr ?_; (case hd => rfl); (case hg => rfl); (case hr => first | (go_simp; done) | (go_simp; rfl)); intro gr hgr w2 hbox hb; have GR := Aside0.mk (show w.heap.size ≤ gr by rw [hgr]; exact HB1.out.size); have BR2 := Aside0.mk hbox; have GRD := Aside0.mk (show gr ≠ g0 from fun e_ => by have := blk_lt BD1.out; omega); have BD2 := Aside0.mk (blk_below BD1.out hb); have HB2 := Aside0.mk (below_step HB1.out hb); have d20 : w2.cell? ⟨g0, 0, none⟩ = some (.int .i64 a0_0) := (blk_cell BD2.out 0).trans rfl; have d21 : w2.cell? ⟨g0, 1, none⟩ = some (.slice A l.length c) := (blk_cell BD2.out 1).trans rfl; have r20 : w2.cell? ⟨gr, 0, none⟩ = some (.int .i64 0) := (blk_cell BR2.out 0).trans rfl; have r21 : w2.cell? ⟨gr, 1, none⟩ = some (.slice none 0 0) := (blk_cell BR2.out 1).trans rfl; have q20 := blk_frozen BR2.out 0; have q21 := blk_frozen BR2.out 1; clear hgr hbox hb))
   have HE := below_set (below_set HB2.out GR.out (j := 0) (v := .int .i64 a0_0)) GR.out (j := 1) (v := .slice A l.length c)
   refine bodyPost_ret (results_ct rfl _ _ gr 48 #[.int .i64 a0_0, .slice A l.length c] (0, 0) _ rfl (blk_put (blk_put BR2.out 0 _ rfl) 1 _ rfl) Try.underlying48 rfl (by kernel_rfl)) rfl ?_
   exact ⟨_, rfl, Kd.R_below HR.out HE, below_then HB.out HB.out.size HE, Kept.of_below HE _, Ap.Stays.refl HE⟩
 rw [if_neg c1] at h
 have e1 : decide (lo < 0) = false := decide_eq_false (by omega)
 have e2 : decide (hi < 0) = false := decide_eq_false (by omega)
 clear c1
 by_cases c2 : lo = hi
 ·rw [if_pos c2] at h
  simp only [Option.some.injEq, Prod.mk.injEq] at h
  obtain ⟨rfl, rfl, rfl⟩ := h
  have e3 : (lo == hi) = true := beq_iff_eq.mpr c2
  clear c2
  go_enter Try.func130, Try.ntmps130
  go_wp2_with (first | ((with_reducible refine gate_dst (N := 4) rfl ?_); refine box_event ?hg (N := 4) ?hd (cs := #[.int .i64 a0_0, .slice A l.length c]) (t := 48) ?hr ?_; (case hd => rfl); (case hg => rfl); (case hr => first | (go_simp; done) | (go_simp; rfl)); intro g0 hg0 w1 hbox hb; have BD1 := Aside0.mk hbox; have HB1 := Aside0.mk hb; have GD := Aside0.mk (show w.heap.size ≤ g0 from Nat.le_of_eq hg0.symm); clear hg0 hbox hb) | ((with_reducible refine gate_dst (N := 8) rfl ?_); refine box_event ?hg (N := 8) ?hd (cs := #[.int .i64 0, .slice none 0 0]) (t := 48) ?hr ?_; (case hd => rfl); (case hg => rfl); (case hr => first | (go_simp; done) | (go_simp; rfl)); intro gr hgr w2 hbox hb; have GR := Aside0.mk (show w.heap.size ≤ gr by rw [hgr]; exact HB1.out.size); have BR2 := Aside0.mk hbox; have GRD := Aside0.mk (show gr ≠ g0 from fun e_ => by have := blk_lt BD1.out; omega); have BD2 := Aside0.mk (blk_below BD1.out hb); have HB2 := Aside0.mk (below_step HB1.out hb); have d20 : w2.cell? ⟨g0, 0, none⟩ = some (.int .i64 a0_0) := (blk_cell BD2.out 0).trans rfl; have d21 : w2.cell? ⟨g0, 1, none⟩ = some (.slice A l.length c) := (blk_cell BD2.out 1).trans rfl; have r20 : w2.cell? ⟨gr, 0, none⟩ = some (.int .i64 0) := (blk_cell BR2.out 0).trans rfl; have r21 : w2.cell? ⟨gr, 1, none⟩ = some (.slice none 0 0) := (blk_cell BR2.out 1).trans rfl; have q20 := blk_frozen BR2.out 0; have q21 := blk_frozen BR2.out 1; clear hgr hbox hb))
  have HE := below_set (below_set HB2.out GR.out (j := 0) (v := .int .i64 a0_0)) GR.out (j := 1) (v := .slice A l.length c)
  refine bodyPost_ret (results_ct rfl _ _ gr 48 #[.int .i64 a0_0, .slice A l.length c] (0, 0) _ rfl (blk_put (blk_put BR2.out 0 _ rfl) 1 _ rfl) Try.underlying48 rfl (by kernel_rfl)) rfl ?_
  exact ⟨_, rfl, Kd.R_below HR.out HE, below_then HB.out HB.out.size HE, Kept.of_below HE _, Ap.Stays.refl HE⟩
 rw [if_neg c2] at h
 have e3 : (lo == hi) = false := beq_eq_false_iff_ne.mpr c2
 clear c2
 by_cases c3 : l.length ≤ 1000000000000
 ·rw [if_pos c3] at h
  have C3 := Aside0.mk c3
  have H := Aside0.mk h
  clear c3 h
  go_enter Try.func130, Try.ntmps130
  go_wp2_with (first | ((with_reducible refine gate_dst (N := 4) rfl ?_); refine box_event ?hg (N := 4) ?hd (cs := #[.int .i64 a0_0, .slice A l.length c]) (t := 48) ?hr ?_; (case hd => rfl); (case hg => rfl); (case hr => first | (go_simp; done) | (go_simp; rfl)); intro g0 hg0 w1 hbox hb; have BD1 := Aside0.mk hbox; have HB1 := Aside0.mk hb; have GD := Aside0.mk (show w.heap.size ≤ g0 from Nat.le_of_eq hg0.symm); clear hg0 hbox hb) | ((with_reducible refine gate_dst (N := 8) rfl ?_); refine box_event ?hg (N := 8) ?hd (cs := #[.int .i64 0, .slice none 0 0]) (t := 48) ?hr ?_; (case hd => rfl); (case hg => rfl); (case hr => first | (go_simp; done) | (go_simp; rfl)); intro gr hgr w2 hbox hb; have GR := Aside0.mk (show w.heap.size ≤ gr by rw [hgr]; exact HB1.out.size); have BR2 := Aside0.mk hbox; have GRD := Aside0.mk (show gr ≠ g0 from fun e_ => by have := blk_lt BD1.out; omega); have BD2 := Aside0.mk (blk_below BD1.out hb); have HB2 := Aside0.mk (below_step HB1.out hb); have d20 : w2.cell? ⟨g0, 0, none⟩ = some (.int .i64 a0_0) := (blk_cell BD2.out 0).trans rfl; have d21 : w2.cell? ⟨g0, 1, none⟩ = some (.slice A l.length c) := (blk_cell BD2.out 1).trans rfl; have r20 : w2.cell? ⟨gr, 0, none⟩ = some (.int .i64 0) := (blk_cell BR2.out 0).trans rfl; have r21 : w2.cell? ⟨gr, 1, none⟩ = some (.slice none 0 0) := (blk_cell BR2.out 1).trans rfl; have q20 := blk_frozen BR2.out 0; have q21 := blk_frozen BR2.out 1; clear hgr hbox hb) | ((with_reducible refine gate_dst (N := 10) rfl ?_); refine box_event ?hg (N := 10) ?hd (cs := #[.int .i64 0, .int .i64 0, .int .i64 0]) (t := 56) ?hr ?_; (case hd => rfl); (case hg => rfl); (case hr => first | (go_simp; done) | (go_simp; rfl)); intro gb hgb w3 hbox hb; have BX3 := Aside0.mk hbox; have BD3 := Aside0.mk (blk_below BD2.out hb); have BR3 := Aside0.mk (blk_below BR2.out hb); have HB3 := Aside0.mk (below_step HB2.out hb); have GB := Aside0.mk (And.intro (show w.heap.size ≤ gb by rw [hgb]; exact HB2.out.size) (And.intro (show gr ≠ gb from fun e_ => by have := blk_lt BR2.out; omega) (show g0 ≠ gb from fun e_ => by have := blk_lt BD2.out; omega))); have z30 : w3.cell? ⟨gb, 0, none⟩ = some (.int .i64 0) := (blk_cell BX3.out 0).trans rfl; have z31 : w3.cell? ⟨gb, 1, none⟩ = some (.int .i64 0) := (blk_cell BX3.out 1).trans rfl; have z32 : w3.cell? ⟨gb, 2, none⟩ = some (.int .i64 0) := (blk_cell BX3.out 2).trans rfl; have y30 := blk_frozen BX3.out 0; have y31 := blk_frozen BX3.out 1; have y32 := blk_frozen BX3.out 2; clear hgb hbox hb))
  have n0 := Aside0.mk (below_set (below_set (below_set HB3.out GB.out.1 (j := 0) (v := .int .i64 v)) GB.out.1 (j := 1) (v := .int .i64 lo)) GB.out.1 (j := 2) (v := .int .i64 hi))
  have n1 := Aside0.mk (blk_put (blk_put (blk_put BX3.out 0 (.int .i64 v) rfl) 1 (.int .i64 lo) rfl) 2 (.int .i64 hi) rfl)
  have n2 := Aside0.mk (blk_far (p := ⟨gb, 2, none⟩) (blk_far (p := ⟨gb, 1, none⟩) (blk_far (p := ⟨gb, 0, none⟩) BD3.out GB.out.2.2 (.int .i64 v)) GB.out.2.2 (.int .i64 lo)) GB.out.2.2 (.int .i64 hi))
  have n3 := Aside0.mk (blk_far (p := ⟨gb, 2, none⟩) (blk_far (p := ⟨gb, 1, none⟩) (blk_far (p := ⟨gb, 0, none⟩) BR3.out GB.out.2.1 (.int .i64 v)) GB.out.2.1 (.int .i64 lo)) GB.out.2.1 (.int .i64 hi))
  generalize (((w3.setCell ⟨gb, 0, none⟩ (.int .i64 v)).setCell ⟨gb, 1, none⟩ (.int .i64 lo)).setCell ⟨gb, 2, none⟩ (.int .i64 hi)) = w4 at n0 n1 n2 n3 ⊢
  clear z30 z31 z32 y30 y31 y32 BX3 BD3 BR3 HB3
  go_loopg [11] l.length (fun gg s11 wr => ∃ (i : Nat), s11 = .int .i64 (i : Int) ∧ Aside0 (i + gg = l.length) ∧ Aside0 (∀ q (hq : q < l.length), q < i → l[q] ≠ ⟨v, lo, hi⟩) ∧ Aside0 (Below w.heap.size w wr) ∧ Aside0 (wr.heap[gb]? = some (.cells #[.int .i64 v, .int .i64 lo, .int .i64 hi] 56 (0, 0))) ∧ Aside0 (wr.heap[g0]? = some (.cells #[.int .i64 a0_0, .slice A l.length c] 48 (0, 0))) ∧ Aside0 (wr.heap[gr]? = some (.cells #[.int .i64 0, .slice none 0 0] 48 (0, 0))))
  case atStart => exact ⟨0, rfl, ⟨by omega⟩, ⟨fun q hq h0 => absurd h0 (by omega)⟩, n0, n1, n2, n3⟩
  case round =>
   clear n0 n1 n2 n3
   obtain ⟨i, rfl, HI, HN, HB5, BX5, BD5, BR5⟩ := hrel
   have d51 : wr.cell? ⟨g0, 1, none⟩ = some (.slice A l.length c) := (blk_cell BD5.out 1).trans rfl
   by_cases c4 : i < l.length
   ·obtain ⟨k1, rfl⟩ : ∃ k1, gk = k1 + 1 := ⟨gk - 1, by have := HI.out; omega⟩
    have c4a : (i : Int) < (l.length : Int) := by omega
    have c4b : decide ((i : Int) < (l.length : Int)) = true := decide_eq_true c4a
    have c4c : (0 : Int) ≤ (i : Int) := by omega
    have c4d : decide ((0 : Int) ≤ (i : Int)) = true := decide_eq_true c4c
    have HR5 := Aside0.mk (Kd.R_below HR.out HB5.out)
    go_wp2
    obtain ⟨ad, rfl, hx0, hx1, hx2⟩ := at_T56 (Kd.R_reads' (Kd.R_drew HR5.out)).2.2 (i : Int) c4c c4a
    have hget : rd_T56 l (i : Int) = l[i] := by unfold rd_T56; rw [List.getD_eq_getElem?_getD, Int.toNat_natCast, List.getElem?_eq_getElem c4]; rfl
    simp only [Int.toNat_natCast, hget] at hx0 hx1 hx2
    refine start_ (n := 7) (S := fun w' => w'.cell? ⟨g0, 1, none⟩ = some (.slice (some ad) l.length c) ∧ w'.cell? ⟨gb, 0, none⟩ = some (.int .i64 v) ∧ w'.cell? ⟨gb, 1, none⟩ = some (.int .i64 lo) ∧ w'.cell? ⟨gb, 2, none⟩ = some (.int .i64 hi) ∧ w'.cell? (ad.add (i * 3)) = some (.int .i64 l[i].f0) ∧ w'.cell? ⟨(ad.add (i * 3)).block, (ad.add (i * 3)).off + 1, none⟩ = some (.int .i64 l[i].f1) ∧ w'.cell? ⟨(ad.add (i * 3)).block, (ad.add (i * 3)).off + 2, none⟩ = some (.int .i64 l[i].f2)) (ds := []) (Pt.bm 7 0) (by kernel_rfl) rfl rfl ⟨(blk_cell BD5.out 1).trans rfl, (blk_cell BX5.out 0).trans rfl, (blk_cell BX5.out 1).trans rfl, (blk_cell BX5.out 2).trans rfl, hx0, hx1, hx2⟩ (fun hHeld => ?_)
    have HB6 := Aside0.mk (below_step HB5.out (below_drew (Below.refl _ _)))
    have BX6 := Aside0.mk (blk_drew BX5.out)
    have BD6 := Aside0.mk (blk_drew BD5.out)
    have BR6 := Aside0.mk (blk_drew BR5.out)
    clear d51 hx0 hx1 hx2 HB5 BX5 BD5 BR5 HR5
    generalize wr.drew = w6 at HB6 BX6 BD6 BR6 hHeld ⊢
    refine Pt.pu 0 (some 35) (Pt.bm 7 1) (by kernel_rfl) ?_
    refine Pt.tk 1 (some 36) (Pt.bm 7 3) rfl rfl (by kernel_rfl) hHeld (Or.inl ⟨by rfl, by rintro w' ⟨s0, s1, s2, s3, s4, s5, s6⟩; go_simp; with_reducible rfl⟩) ?_
    refine Pt.pu 2 (some 37) (Pt.bm 7 7) (by kernel_rfl) ?_
    refine Pt.pu 3 (some 38) (Pt.bm 7 15) (by kernel_rfl) ?_
    refine Pt.tk 4 (some 39) (Pt.bm 7 31) rfl rfl (by kernel_rfl) hHeld (Or.inl ⟨by rfl, by rintro w' ⟨s0, s1, s2, s3, s4, s5, s6⟩; go_simp; with_reducible rfl⟩) ?_
    refine Pt.tk 5 (some 40) (Pt.bm 7 63) rfl rfl (by kernel_rfl) hHeld (Or.inl ⟨by rfl, by rintro w' ⟨s0, s1, s2, s3, s4, s5, s6⟩; go_simp; with_reducible rfl⟩) ?_
    by_cases c5 : l[i] = ⟨v, lo, hi⟩
    ·have H2 := H.out
     rw [spec_l8Add.find_at c4 c5 HN.out] at H2
     refine Pt.pu 6 (some 41) (v := .bool true) (Pt.bm 7 127) (by kernel_rfl) ?_ (hy := Or.inl ⟨by rfl, by
      intro w'
      go_simp
      try simp [c5]⟩)
     refine done_ (by kernel_rfl) ?_
     clear hHeld
     have d60 : w6.cell? ⟨g0, 0, none⟩ = some (.int .i64 a0_0) := (blk_cell BD6.out 0).trans rfl
     have d61 : w6.cell? ⟨g0, 1, none⟩ = some (.slice (some ad) l.length c) := (blk_cell BD6.out 1).trans rfl
     simp only [Option.some.injEq, Prod.mk.injEq] at H2
     obtain ⟨rfl, rfl, rfl⟩ := H2
     have hw1 : wrap64 ((i : Int) + 2) = (i : Int) + 2 := by have := C3.out; unfold wrap64; omega
     have hw1' : (IntKind.i64.wrap ((i : Int) + 2)) = (i : Int) + 2 := (i64_w _).trans hw1
     have r60 : w6.cell? ⟨gr, 0, none⟩ = some (.int .i64 0) := (blk_cell BR6.out 0).trans rfl
     have r61 : w6.cell? ⟨gr, 1, none⟩ = some (.slice none 0 0) := (blk_cell BR6.out 1).trans rfl
     have q60 := blk_frozen BR6.out 0
     have q61 := blk_frozen BR6.out 1
     clear c5
     go_wp2
     have HE := below_set (below_set HB6.out GR.out (j := 0) (v := .int .i64 a0_0)) GR.out (j := 1) (v := .slice (some ad) l.length c)
     refine bodyPost_ret (results_ct rfl _ _ gr 48 #[.int .i64 a0_0, .slice (some ad) l.length c] (0, 0) _ rfl (blk_put (blk_put BR6.out 0 _ rfl) 1 _ rfl) Try.underlying48 rfl (by kernel_rfl)) rfl ?_
     exact ⟨_, rfl, Kd.R_below HR.out HE, below_then HB.out HB.out.size HE, Kept.of_below HE _, Ap.Stays.refl HE⟩
    ·skip
     refine Pt.pu 6 (some 41) (v := .bool false) (Pt.bm 7 127) (by kernel_rfl) ?_ (hy := Or.inl ⟨by rfl, by
      intro w'
      go_simp
      revert c5
      generalize l[i] = x
      obtain ⟨x0, x1, x2⟩ := x
      intro c5
      by_cases q0 : x0 = v <;> by_cases q1 : x1 = lo <;> by_cases q2 : x2 = hi <;> simp_all⟩)
     refine done_ (by kernel_rfl) ?_
     clear hHeld
     have d60 : w6.cell? ⟨g0, 0, none⟩ = some (.int .i64 a0_0) := (blk_cell BD6.out 0).trans rfl
     have d61 : w6.cell? ⟨g0, 1, none⟩ = some (.slice (some ad) l.length c) := (blk_cell BD6.out 1).trans rfl
     have hw1 : wrap64 ((i : Int) + 1) = (i : Int) + 1 := by have := C3.out; unfold wrap64; omega
     have hw1' : (IntKind.i64.wrap ((i : Int) + 1)) = (i : Int) + 1 := (i64_w _).trans hw1
     have C5 := Aside0.mk c5
     clear c5
     go_wp2
     go_roundg k1
     case measure => exact Nat.lt_succ_self _
     case rel => exact ⟨i + 1, by first | rfl | (simp only [Int.natCast_add]; rfl) | simp [hw1, hw1'], ⟨by have := HI.out; omega⟩, ⟨fun q hq hqi => by
      by_cases e_ : q = i
      ·subst e_
       exact C5.out
      ·exact HN.out q hq (by omega)⟩, HB6, BX6, BD6, BR6⟩
   ·have hi : i = l.length := by have := HI.out; omega
    subst hi
    have hfn := spec_l8Add.find_no (fun q hq => HN.out q hq hq)
    have H2 := H.out
    rw [hfn] at H2
    have c4b : decide ((l.length : Int) < (l.length : Int)) = false := decide_eq_false (by omega)
    by_cases c6 : 2000 ≤ l.length
    ·simp only [if_pos c6, Option.some.injEq, Prod.mk.injEq] at H2
     obtain ⟨rfl, rfl, rfl⟩ := H2
     have c6b : decide (2000 ≤ (l.length : Int)) = true := decide_eq_true (by omega)
     have d50 : wr.cell? ⟨g0, 0, none⟩ = some (.int .i64 a0_0) := (blk_cell BD5.out 0).trans rfl
     have r50 : wr.cell? ⟨gr, 0, none⟩ = some (.int .i64 0) := (blk_cell BR5.out 0).trans rfl
     have r51 : wr.cell? ⟨gr, 1, none⟩ = some (.slice none 0 0) := (blk_cell BR5.out 1).trans rfl
     have q50 := blk_frozen BR5.out 0
     have q51 := blk_frozen BR5.out 1
     clear c6
     go_wp2
     have HE := below_set (below_set HB5.out GR.out (j := 0) (v := .int .i64 a0_0)) GR.out (j := 1) (v := .slice A l.length c)
     refine bodyPost_ret (results_ct rfl _ _ gr 48 #[.int .i64 a0_0, .slice A l.length c] (0, 0) _ rfl (blk_put (blk_put BR5.out 0 _ rfl) 1 _ rfl) Try.underlying48 rfl (by kernel_rfl)) rfl ?_
     exact ⟨_, rfl, Kd.R_below HR.out HE, below_then HB.out HB.out.size HE, Kept.of_below HE _, Ap.Stays.refl HE⟩
    ·simp only [if_neg c6, Option.some.injEq, Prod.mk.injEq] at H2
     obtain ⟨rfl, rfl, rfl⟩ := H2
     have c6b : decide (2000 ≤ (l.length : Int)) = false := decide_eq_false (by omega)
     have C6 := Aside0.mk c6
     have HR5 := Aside0.mk (Kd.R_below HR.out HB5.out)
     have x50 : wr.cell? ⟨gb, 0, none⟩ = some (.int .i64 v) := (blk_cell BX5.out 0).trans rfl
     have x51 : wr.cell? ⟨gb, 1, none⟩ = some (.int .i64 lo) := (blk_cell BX5.out 1).trans rfl
     have x52 : wr.cell? ⟨gb, 2, none⟩ = some (.int .i64 hi) := (blk_cell BX5.out 2).trans rfl
     have d50 : wr.cell? ⟨g0, 0, none⟩ = some (.int .i64 a0_0) := (blk_cell BD5.out 0).trans rfl
     have qd1 := blk_frozen BD5.out 1
     clear c6
     obtain ⟨y, hy⟩ : ∃ y, y = l ++ [(⟨v, lo, hi⟩ : S56)] := ⟨_, rfl⟩
     have hyl : y.length = l.length + 1 := by rw [hy]; simp
     have HY := Aside0.mk hy
     have HYL := Aside0.mk hyl
     clear hy hyl
     go_wp2_with ((with_reducible refine gate_builtin (b := .append) (xs := #[.tmp 51, .tmp 53]) rfl ?_); at_builtin; refine Ap.R_append k56 k56_E (w0 := w0) w0.heap.size rfl (.tmp 51) (.tmp 53) 46 56 (.agg #[(.int .i64 0), (.int .i64 0), (.int .i64 0)]) 24 rfl Try.underlying46 info56 rfl (by decide) (by omega) (.slice A l.length c) l (⟨v, lo, hi⟩ : S56) [.int .i64 v, .int .i64 lo, .int .i64 hi] ok rfl rfl (k56_mkM _ _ _ (⟨v, lo, hi⟩ : S56)) (fun k hk => HF.out k (Nat.le_trans HB5.out.size hk)) HR5.out (below_then HB.out HB.out.size HB5.out) (Nat.le_trans HB.out.size HB5.out.size) (by have := C6.out; omega) ?_; intro v1 w7 ho7 hb7 hg7 _ hs7; obtain ⟨A7, c7, e7⟩ := Kd.R_slice ho7; subst e7; rw [← HY.out] at ho7 hs7 ⊢; have NE7 := Aside0.mk (Kd.R_ne HR5.out BD5.out (by decide)); have NR7 := Aside0.mk (Kd.R_ne HR5.out BR5.out (by decide)); have BD7 := Aside0.mk (blk_grown BD5.out hg7 NE7.out); have BR7 := Aside0.mk (blk_grown BR5.out hg7 NR7.out); have HO7 := Aside0.mk ho7; have HB7 := Aside0.mk hb7; have HK7 := Aside0.mk (Kept.of_grown hg7 (Kept.of_below HB5.out (fun k_ => (Value.slice A l.length c).ownBlock = some k_)) (fun k hk => .inl hk)); have HS7 := Aside0.mk (hs7.from_ HB5.out); have GS7 := Aside0.mk (Nat.le_trans HB5.out.size hg7.size); have d70 : w7.cell? ⟨g0, 0, none⟩ = some (.int .i64 a0_0) := (blk_cell BD7.out 0).trans rfl; have d71 : w7.cell? ⟨g0, 1, none⟩ = some (.slice A l.length c) := (blk_cell BD7.out 1).trans rfl; have qd7 := blk_frozen BD7.out 1; clear ho7 hb7 hg7 hs7)
     have hlw : wrap64 ((y.length : Int) + 1) = (l.length : Int) + 2 := by have := C6.out; have := HYL.out; unfold wrap64; omega
     have hlw' : (IntKind.i64.wrap ((y.length : Int) + 1)) = (l.length : Int) + 2 := (i64_w _).trans hlw
     have n0 := Aside0.mk (blk_put (cs' := #[.int .i64 a0_0, .slice A7 y.length c7]) BD7.out 1 (.slice A7 y.length c7) rfl)
     have n1 := Aside0.mk (blk_far (p := ⟨g0, 1, none⟩) BR7.out (GRD.out) (.slice A7 y.length c7))
     have n2 := Aside0.mk (Kd.R_set HO7.out BD7.out (by decide) 1 (.slice A7 y.length c7))
     have n3 := Aside0.mk (HB7.out.setCell (p := ⟨g0, 1, none⟩) (Nat.le_trans HB.out.size GD.out) (.slice A7 y.length c7))
     have n4 := Aside0.mk (HK7.out.setCell (p := ⟨g0, 1, none⟩) (.inr GD.out) (.slice A7 y.length c7))
     have n5 : Aside0 (Ap.Stays k56 56 w0.heap.size w (.slice A l.length c) l (w7.setCell ⟨g0, 1, none⟩ (.slice A7 y.length c7)) (.slice A7 y.length c7) y) := ⟨fun ok0 u0 xs0 h0 hp => by
      obtain ⟨q1, q2⟩ := HS7.out ok0 u0 xs0 h0 hp
      exact ⟨Kd.R_set q1 BD7.out (by decide) 1 _, q2⟩⟩
     clear d70 d71 qd7 BD7 BR7 HO7 HB7 HK7 HS7
     generalize (w7.setCell ⟨g0, 1, none⟩ (.slice A7 y.length c7)) = w8 at n0 n1 n2 n3 n4 n5 ⊢
     refine start_ (n := 7) (S := fun w' => w'.cell? ⟨g0, 0, none⟩ = some (.int .i64 a0_0) ∧ w'.cell? ⟨g0, 1, none⟩ = some (.slice A7 y.length c7)) (ds := []) (Pt.bm 7 0) (by kernel_rfl) rfl rfl ⟨(blk_cell n0.out 0).trans rfl, (blk_cell n0.out 1).trans rfl⟩ (fun hHeld => ?_)
     have m1 := Aside0.mk (blk_drew n1.out)
     have m2 := Aside0.mk (Kd.R_drew n2.out)
     have m3 := Aside0.mk (below_drew n3.out)
     have m4 := Aside0.mk n4.out.drew
     have m5 := Aside0.mk (n5.out.below (below_drew (Below.refl _ _)))
     clear n0 n1 n2 n3 n4 n5
     generalize w8.drew = w9 at m1 m2 m3 m4 m5 hHeld ⊢
     refine Pt.tk 0 (some 56) (Pt.bm 7 1) rfl rfl (by kernel_rfl) hHeld (Or.inl ⟨by rfl, by rintro w' ⟨s0, s1⟩; go_simp; with_reducible rfl⟩) ?_
     refine Pt.pu 1 (some 57) (Pt.bm 7 3) (by kernel_rfl) ?_
     refine Pt.tk 2 (some 58) (Pt.bm 7 7) rfl rfl (by kernel_rfl) hHeld (Or.inl ⟨by rfl, by rintro w' ⟨s0, s1⟩; go_simp; with_reducible rfl⟩) ?_
     refine Pt.pu 3 (some 59) (Pt.bm 7 15) (by kernel_rfl) ?_
     refine Pt.pu 4 (some 60) (Pt.bm 7 31) (by kernel_rfl) ?_
     refine one_ (i := 5) (N := none) (Pt.bm 7 63) rfl rfl (by kernel_rfl) (by decide) (fun K hK => ?_)
     have hs0 : w9.cell? ⟨gr, 0, none⟩ = some (.int .i64 0) := (blk_cell m1.out 0).trans rfl
     have hs1 : w9.cell? ⟨gr, 1, none⟩ = some (.slice none 0 0) := (blk_cell m1.out 1).trans rfl
     have hfs0 := blk_frozen m1.out 0
     have hfs1 := blk_frozen m1.out 1
     refine skip_ (w1 := ?_) (by rfl) rfl ?_ ?_
     rotate_left
     ·go_simp
      rfl
     refine hK.out _ _ ⟨((cell_far (p := ⟨gr, _, none⟩) GRD.out.symm _).trans ((cell_far (p := ⟨gr, _, none⟩) GRD.out.symm _).trans hHeld.1)), ((cell_far (p := ⟨gr, _, none⟩) GRD.out.symm _).trans ((cell_far (p := ⟨gr, _, none⟩) GRD.out.symm _).trans hHeld.2))⟩ (fun hHeld => ?_)
     clear hK K hs0 hs1 hfs0 hfs1
     refine Pt.pu 6 (some 9) (Pt.bm 7 127) (by kernel_rfl) ?_
     refine done_ (by kernel_rfl) ?_
     try go_wp2
     refine bodyPost_ret (results_ct rfl _ _ gr 48 #[.int .i64 a0_0, .slice A7 y.length c7] (0, 0) _ rfl (blk_put (blk_put m1.out 0 _ rfl) 1 _ rfl) Try.underlying48 rfl (by kernel_rfl)) rfl ?_
     rw [← HY.out]
     refine ⟨_, by first | rfl | simp [hlw, hlw'], Kd.R_set (Kd.R_set m2.out m1.out (by decide) 0 _) (blk_put m1.out 0 _ rfl) (by decide) 1 _, (m3.out.setCell (p := ⟨gr, 0, none⟩) (Nat.le_trans HB.out.size GR.out) _).setCell (p := ⟨gr, 1, none⟩) (Nat.le_trans HB.out.size GR.out) _, (m4.out.setCell (p := ⟨gr, 0, none⟩) (.inr GR.out) _).setCell (p := ⟨gr, 1, none⟩) (.inr GR.out) _, fun ok0 u0 xs0 h0 hp => ?_⟩
     obtain ⟨q1, q2⟩ := m5.out ok0 u0 xs0 h0 hp
     exact ⟨Kd.R_set (Kd.R_set q1 m1.out (by decide) 0 _) (blk_put m1.out 0 _ rfl) (by decide) 1 _, q2⟩
 ·rw [if_neg c3] at h
  cases h
theorem spec_l8Add.calls (a0_0 : Int) (P0_1_ : Nat → Prop) (u9000_ : Value) (l0_1 : List S56) (a1 a2 a3 r1 : Int) (r2 : List S56) (r3 : Int) (w0 w : World) (hB : Below w0.heap.size w0 w) (ho0_1 : Kd.R k56 56 w w0.heap.size P0_1_ u9000_ l0_1) (h : spec_l8Add.f a0_0 l0_1 a1 a2 a3 = some (r1, r2, r3)) :
  Calls Try.prog 130 #[.agg #[.int .i64 a0_0, u9000_], .int .i64 a1, .int .i64 a2, .int .i64 a3] w fun e w' => ∃ v1_ : Value, e = .returned (.tuple #[.agg #[.int .i64 r1, v1_], .int .i64 r3]) ∧ Kd.R k56 56 w' w0.heap.size (fun k_ => (P0_1_ k_ ∨ w.heap.size ≤ k_)) v1_ r2 ∧ Below w0.heap.size w0 w' ∧ Kept w w' (fun k_ => P0_1_ k_) := by
 refine (spec_l8Add.strong a0_0 (fun k_ => P0_1_ k_ ∨ w.heap.size ≤ k_) u9000_ l0_1 a1 a2 a3 r1 r2 r3 w0 w hB (Kd.R_mono ho0_1 (fun _ hk => .inl hk)) (fun _ hk => .inr hk) h).mono ?_
 rintro e w' ⟨v1, rfl, h1, h2, h3, _⟩
 exact ⟨v1, rfl, h1, h2, h3.mono (fun k hk => ho0_1.1 k hk)⟩

end Go.Proofs.Ytpcckoljocpchaa.QFnExactSwapOrder
