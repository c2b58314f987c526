/- FnExactAddPick: the program's circuit with one of two edges by a third one is the reference's, whatever is handed in, and keeps none of what was handed in. -/
import Derived.Test.YtpcckoljocpchaaQFnExactAddPickx9
namespace Go.Proofs.Ytpcckoljocpchaa.Pure
open Go.RowKit Go.Proofs.Ytpcckoljocpchaa.QFnExactAddPick Go.Proofs.YtpcckoljocpchaaW.PrintWords Go.Proofs.YtpcckoljocpchaaW.PrintLast Go.Proofs.YtpcckoljocpchaaW.PrintMore
set_option linter.unusedVariables false
set_option linter.unusedSimpArgs false

/-! #### rounds -/
/-- From some number of rounds on, g tells r. -/
def Ev {α : Type} (g : Nat → Option α) (r : α) : Prop := ∃ K, ∀ k, K ≤ k → g k = some r
theorem Ev.val {α : Type} (r : α) : Ev (fun _ => some r) r := ⟨0, fun _ _ => rfl⟩
theorem Ev.valEq {α : Type} {r r' : α} (h : r = r') : Ev (fun _ => some r) r' := ⟨0, fun _ _ => by rw [h]⟩
theorem Ev.const {α : Type} {g : Option α} {r : α} (h : g = some r) : Ev (fun _ => g) r := ⟨0, fun _ _ => h⟩
theorem Ev.bind {α β : Type} {g : Nat → Option α} {f : Nat → α → Option β} {a : α} {b : β} (h : Ev g a) (h2 : Ev (fun k => f k a) b) : Ev (fun k => (g k).bind (f k)) b := by
  obtain ⟨K, hK⟩ := h
  obtain ⟨L, hL⟩ := h2
  exact ⟨max K L, fun k hk => by show (g k).bind (f k) = _; rw [hK k (by omega)]; exact hL k (by omega)⟩
theorem Ev.step {α : Type} {g g' : Nat → Option α} {r : α} (h : Ev g' r) (e : ∀ k, g (k + 1) = g' k) : Ev g r := by
  obtain ⟨K, hK⟩ := h
  exact ⟨K + 1, fun k hk => by
    obtain ⟨m, rfl⟩ : ∃ m, k = m + 1 := ⟨k - 1, by omega⟩
    rw [e]
    exact hK m (by omega)⟩
theorem Ev.pos {α : Type} {c : Prop} [Decidable c] {g g' : Nat → Option α} {r : α} (hc : c) (h : Ev g r) : Ev (fun k => if c then g k else g' k) r := by
  obtain ⟨K, hK⟩ := h
  exact ⟨K, fun k hk => by simp only [if_pos hc]; exact hK k hk⟩
theorem Ev.neg {α : Type} {c : Prop} [Decidable c] {g g' : Nat → Option α} {r : α} (hc : ¬ c) (h : Ev g' r) : Ev (fun k => if c then g k else g' k) r := by
  obtain ⟨K, hK⟩ := h
  exact ⟨K, fun k hk => by simp only [if_neg hc]; exact hK k hk⟩
theorem Ev.get {α : Type} {g : Nat → Option α} {r : α} (h : Ev g r) : ∃ k, g k = some r := by
  obtain ⟨K, hK⟩ := h
  exact ⟨K, hK K (Nat.le_refl _)⟩
/-! #### numbers -/
theorem w_id {x : Int} (h0 : -9223372036854775808 ≤ x) (h1 : x ≤ 9223372036854775807) : wrap64 x = x := by
  unfold wrap64
  omega
theorem wsucc (i : Nat) (h : i ≤ 4611686018427387904) : wrap64 ((i : Int) + 1) = ((i + 1 : Nat) : Int) := by
  unfold wrap64
  omega
/-! #### small laws of numbers -/
theorem l1In_val (a b c : Int) : spec_l1In.f a b c = some (decide (b ≤ a ∧ a ≤ c)) := by
  unfold spec_l1In.f
  by_cases h : a ≥ b
  · rw [if_pos h]
    congr 1
    rw [decide_eq_decide]
    constructor
    · intro h2; exact ⟨h, h2⟩
    · intro h2; exact h2.2
  · rw [if_neg h]
    congr 1
    symm
    rw [decide_eq_false_iff_not]
    intro h2
    exact h h2.1
theorem in_val (a b c : Int) : impl_in.f a b c = some (decide (b ≤ a ∧ a ≤ c)) := by
  unfold impl_in.f
  by_cases h : a ≥ b
  · rw [if_pos h]
    congr 1
    rw [decide_eq_decide]
    constructor
    · intro h2; exact ⟨h, h2⟩
    · intro h2; exact h2.2
  · rw [if_neg h]
    congr 1
    symm
    rw [decide_eq_false_iff_not]
    intro h2
    exact h h2.1
theorem wnat (i : Nat) (h : i ≤ 1000000000000) : wrap64 ((i : Int) + 1) = ((i + 1 : Nat) : Int) := by rw [w_id (by omega) (by omega)]; omega
/-! #### circuits: which are valid, and what their nodes are -/
def GOk (inputs : Int) (i : Nat) (g : S92) : Prop := (0 ≤ g.f0 ∧ g.f0 ≤ 2 * (1 + inputs + i) - 1) ∧ (0 ≤ g.f1 ∧ g.f1 ≤ 2 * (1 + inputs + i) - 1)
structure CV (inputs : Int) (L : List S92) : Prop where
  i0 : 0 ≤ inputs
  i12 : inputs ≤ 12
  len : L.length ≤ 600
  ok : ∀ (i : Nat) (h : i < L.length), GOk inputs i L[i]
theorem rdG {L : List S92} {i : Nat} (h : i < L.length) : rd_T92 L (i : Int) = L[i] := by
  unfold rd_T92
  rw [Int.toNat_natCast, List.getD_eq_getElem?_getD, List.getElem?_eq_getElem h]
  rfl
theorem gate_split {inputs : Int} {L : List S92} {i : Nat} (hi : i < L.length) : (∀ q (h : q < L.length), i ≤ q → GOk inputs q L[q]) ↔ GOk inputs i L[i] ∧ ∀ q (h : q < L.length), i + 1 ≤ q → GOk inputs q L[q] := by
  constructor
  · intro h
    exact ⟨h i hi (Nat.le_refl _), fun q hq hq2 => h q hq (by omega)⟩
  · rintro ⟨ha, hb⟩ q hq hq2
    by_cases c : i = q
    · subst c
      exact ha
    · exact hb q hq (by omega)
theorem most_w {inputs : Int} (h0 : 0 ≤ inputs) (h1 : inputs ≤ 12) (i : Nat) (hi : i ≤ 600) : wrap64 (wrap64 (2 * wrap64 (wrap64 (1 + inputs) + (i : Int))) - 1) = 2 * (1 + inputs + i) - 1 := by
  rw [w_id (x := 1 + inputs) (by omega) (by omega), w_id (x := 1 + inputs + (i : Int)) (by omega) (by omega), w_id (x := 2 * (1 + inputs + (i : Int))) (by omega) (by omega), w_id (by omega) (by omega)]
theorem impl_cv_loop {inputs : Int} (h0 : 0 ≤ inputs) (h1 : inputs ≤ 12) (L : List S92) (hl : L.length ≤ 600) : ∀ (d i : Nat), i + d = L.length → ∃ b, Ev (fun k => impl_CircuitValid.l0 k L (L.length : Int) (i : Int) inputs L) b ∧ (b = true ↔ ∀ q (h : q < L.length), i ≤ q → GOk inputs q L[q]) := by
  intro d
  induction d with
  | zero =>
    intro i hi
    exact ⟨true, Ev.step (Ev.neg (by omega) (Ev.val _)) (fun k => impl_CircuitValid.l0.eq_2 ..), fun _ q h hq => absurd h (by omega), fun _ => rfl⟩
  | succ d ih =>
    intro i hi
    have hil : i < L.length := by omega
    obtain ⟨rest, er, hr⟩ := ih (i + 1) (by omega)
    rw [gate_split hil]
    unfold GOk at hr ⊢
    have st : ∀ b, Ev (fun k => (impl_in.f L[i].f0 0 (2 * (1 + inputs + (i : Int)) - 1)).bind fun t => if t = true then (impl_in.f L[i].f1 0 (2 * (1 + inputs + (i : Int)) - 1)).bind fun t => if t = true then impl_CircuitValid.l0 k L (L.length : Int) (wrap64 ((i : Int) + 1)) inputs L else some false else some false) b → Ev (fun k => impl_CircuitValid.l0 k L (L.length : Int) (i : Int) inputs L) b := fun b hb => by
      refine Ev.step (Ev.pos (by omega) (Ev.pos (by omega) (Ev.pos (by omega) ?_))) (fun k => impl_CircuitValid.l0.eq_2 ..)
      rw [rdG hil, most_w h0 h1 i (by omega)]
      exact hb
    by_cases c1 : 0 ≤ L[i].f0 ∧ L[i].f0 ≤ 2 * (1 + inputs + (i : Int)) - 1
    · by_cases c2 : 0 ≤ L[i].f1 ∧ L[i].f1 ≤ 2 * (1 + inputs + (i : Int)) - 1
      · refine ⟨rest, st _ ?_, ?_⟩
        · simp only [in_val, Option.bind_some, decide_eq_true_eq]
          refine Ev.pos c1 (Ev.pos c2 ?_)
          rw [wsucc i (by omega)]
          exact er
        · rw [hr]
          exact ⟨fun h => ⟨⟨c1, c2⟩, h⟩, fun h => h.2⟩
      · refine ⟨false, st _ ?_, fun h => (by cases h), fun h => absurd h.1.2 c2⟩
        simp only [in_val, Option.bind_some, decide_eq_true_eq]
        exact Ev.pos c1 (Ev.neg c2 (Ev.val _))
    · refine ⟨false, st _ ?_, fun h => (by cases h), fun h => absurd h.1.1 c1⟩
      simp only [in_val, Option.bind_some, decide_eq_true_eq]
      exact Ev.neg c1 (Ev.val _)
theorem impl_cv (inputs : Int) (L : List S92) : ∃ b, Ev (fun k => impl_CircuitValid.f k inputs L) b ∧ (b = true ↔ CV inputs L) := by
  unfold impl_CircuitValid.f
  simp only [in_val, Option.bind_some]
  have e0 : Ev (fun k => impl_CircuitValid.j0 k true inputs L) false := Ev.step (Ev.pos rfl (Ev.val _)) (fun k => impl_CircuitValid.j0.eq_2 ..)
  by_cases c1 : 0 ≤ inputs ∧ inputs ≤ 12
  · rw [decide_eq_true c1]
    by_cases c2 : (L.length : Int) > 600
    · rw [decide_eq_true c2]
      exact ⟨false, Ev.pos rfl e0, fun h => (by cases h), fun h => by have := h.len; omega⟩
    · rw [decide_eq_false c2]
      obtain ⟨b, hb, h2⟩ := impl_cv_loop c1.1 c1.2 L (by omega) L.length 0 (by omega)
      refine ⟨b, Ev.pos rfl (Ev.step (Ev.neg (by decide) hb) (fun k => impl_CircuitValid.j0.eq_2 ..)), ?_⟩
      rw [h2]
      exact ⟨fun h => ⟨c1.1, c1.2, by omega, fun i hi => h i hi (Nat.zero_le _)⟩, fun h q hq _ => h.ok q hq⟩
  · rw [decide_eq_false c1]
    exact ⟨false, Ev.neg (by decide) e0, fun h => (by cases h), fun h => absurd ⟨h.i0, h.i12⟩ c1⟩
theorem spec_cv_loop {inputs : Int} (h0 : 0 ≤ inputs) (h1 : inputs ≤ 12) (L : List S92) (hl : L.length ≤ 600) : ∀ (d i : Nat), i + d = L.length → ∃ b, Ev (fun k => spec_CircuitValid.l0 k (i : Int) inputs L) b ∧ (b = true ↔ ∀ q (h : q < L.length), i ≤ q → GOk inputs q L[q]) := by
  intro d
  induction d with
  | zero =>
    intro i hi
    exact ⟨true, Ev.step (Ev.neg (by omega) (Ev.val _)) (fun k => spec_CircuitValid.l0.eq_2 ..), fun _ q h hq => absurd h (by omega), fun _ => rfl⟩
  | succ d ih =>
    intro i hi
    have hil : i < L.length := by omega
    obtain ⟨rest, er, hr⟩ := ih (i + 1) (by omega)
    rw [gate_split hil]
    unfold GOk at hr ⊢
    have st : ∀ b, Ev (fun k => (spec_l1In.f L[i].f0 0 (2 * (1 + inputs + (i : Int)) - 1)).bind fun t => if t = true then (spec_l1In.f L[i].f1 0 (2 * (1 + inputs + (i : Int)) - 1)).bind fun t => if t = true then spec_CircuitValid.l0 k (wrap64 ((i : Int) + 1)) inputs L else some false else some false) b → Ev (fun k => spec_CircuitValid.l0 k (i : Int) inputs L) b := fun b hb => by
      refine Ev.step (Ev.pos (by omega) (Ev.pos (by omega) ?_)) (fun k => spec_CircuitValid.l0.eq_2 ..)
      rw [rdG hil, most_w h0 h1 i (by omega)]
      exact hb
    by_cases c1 : 0 ≤ L[i].f0 ∧ L[i].f0 ≤ 2 * (1 + inputs + (i : Int)) - 1
    · by_cases c2 : 0 ≤ L[i].f1 ∧ L[i].f1 ≤ 2 * (1 + inputs + (i : Int)) - 1
      · refine ⟨rest, st _ ?_, ?_⟩
        · simp only [l1In_val, Option.bind_some, decide_eq_true_eq]
          refine Ev.pos c1 (Ev.pos c2 ?_)
          rw [wsucc i (by omega)]
          exact er
        · rw [hr]
          exact ⟨fun h => ⟨⟨c1, c2⟩, h⟩, fun h => h.2⟩
      · refine ⟨false, st _ ?_, fun h => (by cases h), fun h => absurd h.1.2 c2⟩
        simp only [l1In_val, Option.bind_some, decide_eq_true_eq]
        exact Ev.pos c1 (Ev.neg c2 (Ev.val _))
    · refine ⟨false, st _ ?_, fun h => (by cases h), fun h => absurd h.1.1 c1⟩
      simp only [l1In_val, Option.bind_some, decide_eq_true_eq]
      exact Ev.neg c1 (Ev.val _)
theorem spec_cv (inputs : Int) (L : List S92) : ∃ b, Ev (fun k => spec_CircuitValid.f k inputs L) b ∧ (b = true ↔ CV inputs L) := by
  unfold spec_CircuitValid.f
  simp only [l1In_val, Option.bind_some]
  have e0 : Ev (fun k => spec_CircuitValid.j0 k true inputs L) false := Ev.step (Ev.pos rfl (Ev.val _)) (fun k => spec_CircuitValid.j0.eq_2 ..)
  by_cases c1 : 0 ≤ inputs ∧ inputs ≤ 12
  · rw [decide_eq_true c1]
    by_cases c2 : (L.length : Int) > 600
    · rw [decide_eq_true c2]
      exact ⟨false, Ev.pos rfl e0, fun h => (by cases h), fun h => by have := h.len; omega⟩
    · rw [decide_eq_false c2]
      obtain ⟨b, hb, h2⟩ := spec_cv_loop c1.1 c1.2 L (by omega) L.length 0 (by omega)
      refine ⟨b, Ev.pos rfl (Ev.step (Ev.neg (by decide) hb) (fun k => spec_CircuitValid.j0.eq_2 ..)), ?_⟩
      rw [h2]
      exact ⟨fun h => ⟨c1.1, c1.2, by omega, fun i hi => h i hi (Nat.zero_le _)⟩, fun h q hq _ => h.ok q hq⟩
  · rw [decide_eq_false c1]
    exact ⟨false, Ev.neg (by decide) e0, fun h => (by cases h), fun h => absurd ⟨h.i0, h.i12⟩ c1⟩
theorem impl_edge {inputs : Int} {L : List S92} (h : CV inputs L) (e : Int) : impl_Circuit_isEdge.f inputs L e = some (decide (0 ≤ e ∧ e ≤ 2 * (1 + inputs + (L.length : Int)) - 1)) := by
  unfold impl_Circuit_isEdge.f
  rw [most_w h.i0 h.i12 L.length h.len, in_val]
  rfl
theorem spec_edge {inputs : Int} {L : List S92} (h : CV inputs L) (e : Int) : spec_l7Edge.f inputs L e = some (decide (0 ≤ e ∧ e ≤ 2 * (1 + inputs + (L.length : Int)) - 1)) := by
  unfold spec_l7Edge.f spec_l7Nodes.f
  simp only [Option.bind_some]
  rw [most_w h.i0 h.i12 L.length h.len, l1In_val]
  rfl
/-! #### the law's own copies of circuits -/
theorem sz_gates (l : List S113) (h : l.length ≤ maxLen) : ∃ z, laws_szAndS.f l 1048576 = some z ∧ (z < 0 ∨ l.length ≤ 1048576) := by
  unfold laws_szAndS.f
  simp only [maxLen] at h
  rw [w_id (by omega) (by omega)]
  by_cases c : 1048576 - (l.length : Int) < 0
  · rw [if_pos c]
    exact ⟨_, rfl, .inl (by decide)⟩
  · rw [if_neg c]
    exact ⟨_, rfl, .inr (by omega)⟩
theorem sz_circuit (a : Int) (l : List S113) (h : l.length ≤ maxLen) : ∃ z, laws_szCircuit.f a l 1048576 = some z ∧ (z < 0 ∨ l.length ≤ 1048576) := by
  obtain ⟨z, h1, h2⟩ := sz_gates l h
  unfold laws_szCircuit.f
  rw [h1, Option.bind_some]
  by_cases c : z < 0
  · rw [if_pos c]
    exact ⟨_, rfl, .inl (by decide)⟩
  · rw [if_neg c]
    exact ⟨_, rfl, h2⟩
theorem to_gates_loop (l : List S113) (hl : l.length ≤ 1048576) : ∀ (d i : Nat) (ys : List S92), i + d = l.length → ys.length = l.length →
    ∃ r, Ev (fun k => laws_toAndS.l0 k l ys (i : Int)) r ∧ r.length = l.length := by
  intro d
  induction d with
  | zero =>
    intro i ys hi hy
    exact ⟨ys, Ev.step (Ev.neg (by omega) (Ev.val _)) (fun k => laws_toAndS.l0.eq_2 ..), hy⟩
  | succ d ih =>
    intro i ys hi hy
    have hwi := wnat i (by omega)
    obtain ⟨r, hr, hl2⟩ := ih (i + 1) (ys.set i (⟨(rd_T113 l (i : Int)).f0, (rd_T113 l (i : Int)).f1⟩ : S92)) (by omega) (by simpa using hy)
    refine ⟨r, Ev.step ?_ (fun k => laws_toAndS.l0.eq_2 ..), hl2⟩
    rw [hwi, Int.toNat_natCast]
    exact Ev.pos (by omega) (Ev.pos (by omega) (Ev.bind (Ev.const (by unfold laws_toAnd.f; rfl)) (Ev.pos (by omega) hr)))
theorem to_circuit (a : Int) (l : List S113) (hl : l.length ≤ 1048576) : ∃ L, Ev (fun k => laws_toCircuit.f k a l) (a, L) ∧ L.length = l.length := by
  obtain ⟨r, hr, hl2⟩ := to_gates_loop l hl l.length 0 (List.replicate l.length z92) (by omega) (by simp)
  refine ⟨r, ?_, hl2⟩
  unfold laws_toCircuit.f
  refine Ev.bind (a := r) ?_ (Ev.val _)
  unfold laws_toAndS.f
  refine Ev.pos (by omega) (Ev.pos (by omega) ?_)
  rw [Int.toNat_natCast]
  exact hr
theorem eq_gates_loop (l : List S92) (hl : l.length ≤ 4611686018427387904) : ∀ (d i : Nat), i + d = l.length → Ev (fun k => laws_eqAndS.l0 k l l (i : Int)) true := by
  intro d
  induction d with
  | zero =>
    intro i hi
    exact Ev.step (Ev.neg (by omega) (Ev.val _)) (fun k => laws_eqAndS.l0.eq_2 ..)
  | succ d ih =>
    intro i hi
    have hwi : wrap64 ((i : Int) + 1) = ((i + 1 : Nat) : Int) := by rw [w_id (by omega) (by omega)]; omega
    refine Ev.step ?_ (fun k => laws_eqAndS.l0.eq_2 ..)
    rw [hwi]
    exact Ev.pos (by omega) (Ev.pos (by omega) (Ev.pos (by omega) (Ev.bind (Ev.const (by unfold laws_eqAnd.f; simp)) (Ev.pos rfl (ih (i + 1) (by omega))))))
theorem eq_circuit (a : Int) (l : List S92) (hl : l.length ≤ 4611686018427387904) : Ev (fun k => laws_eqCircuit.f k a l a l) true := by
  unfold laws_eqCircuit.f
  refine Ev.pos rfl (Ev.bind (a := true) ?_ (Ev.pos rfl (Ev.val _)))
  unfold laws_eqAndS.f
  exact Ev.pos rfl (eq_gates_loop l hl l.length 0 (by omega))
theorem rdSetG {L : List S92} {i : Nat} (x : S92) (h : i < L.length) : rd_T92 (L.set i x) (i : Int) = x := by rw [rdG (by simpa using h), List.getElem_set_self]
/-- The numbers that the law writes into gates. -/
def markG (c : Nat) : S92 := ⟨1 + 2 * (c : Int), 2 + 2 * (c : Int)⟩
theorem mark_gates_loop (n : Nat) (hn : n ≤ 1048576) : ∀ (d i : Nat) (c : Int) (ys : List S92), i + d = n → ys.length = n → c = 1 + 2 * (i : Int) → (∀ q (h : q < ys.length), q < i → ys[q] = markG q) →
    ∃ zs, Ev (fun k => laws_markAndS.l0 k ys c (i : Int)) (1 + 2 * (n : Int), zs) ∧ zs.length = n ∧ ∀ q (h : q < zs.length), zs[q] = markG q := by
  intro d
  induction d with
  | zero =>
    intro i c ys hi hy hc hq
    have : i = n := by omega
    subst this
    subst hc
    exact ⟨ys, Ev.step (Ev.neg (by omega) (Ev.val _)) (fun k => laws_markAndS.l0.eq_2 ..), hy, fun q h => hq q h (by omega)⟩
  | succ d ih =>
    intro i c ys hi hy hc hq
    have hwi := wnat i (by omega)
    have w1 : wrap64 (c + 1) = c + 1 := w_id (by omega) (by omega)
    have w2 : wrap64 (c + 1 + 1) = c + 1 + 1 := w_id (by omega) (by omega)
    have hil : i < ys.length := by omega
    have key := ih (i + 1) (c + 1 + 1) (ys.set i (markG i)) (by omega) (by simpa using hy) (by omega) (fun q h hqi => by
      rw [List.length_set] at h
      by_cases e : q = i
      · subst e
        rw [List.getElem_set_self]
      · rw [List.getElem_set_ne (fun e2 => e e2.symm)]
        exact hq q h (by omega))
    obtain ⟨zs, e1, e2, e3⟩ := key
    refine ⟨zs, Ev.step ?_ (fun k => laws_markAndS.l0.eq_2 ..), e2, e3⟩
    simp only [w1, w2, hwi, Int.toNat_natCast, Option.bind_some]
    refine Ev.pos (by omega) (Ev.pos (by omega) ?_)
    rw [rdSetG _ hil, List.set_set]
    have e4 : (⟨c, c + 1⟩ : S92) = markG i := by
      unfold markG
      rw [hc]
      congr 1
      omega
    rw [e4]
    exact e1
theorem mark_circuit (a : Int) (l : List S92) (hl : l.length ≤ 1048576) : ∃ zs, Ev (fun k => laws_markCircuit.f k a l 1) (1 + 2 * (l.length : Int), zs) ∧ zs.length = l.length ∧ ∀ q (h : q < zs.length), zs[q] = markG q := by
  obtain ⟨zs, h1, h2, h3⟩ := mark_gates_loop l.length hl l.length 0 1 l (by omega) rfl (by omega) (fun q h hq => absurd hq (by omega))
  refine ⟨zs, ?_, h2, h3⟩
  unfold laws_markCircuit.f
  refine Ev.bind (a := (1 + 2 * (l.length : Int), zs)) ?_ (Ev.val _)
  unfold laws_markAndS.f
  exact h1
/-! #### the law's marks in circuits -/
theorem held_gates_loop (zs : List S92) (hn : zs.length ≤ 1048576) (hz : ∀ q (h : q < zs.length), zs[q] = markG q) : ∀ (d i : Nat) (c : Int), i + d = zs.length → c = 1 + 2 * (i : Int) → Ev (fun k => laws_heldAndS.l0 k zs c (i : Int)) (1 + 2 * (zs.length : Int)) := by
  intro d
  induction d with
  | zero =>
    intro i c hi hc
    subst hc
    exact Ev.step (Ev.neg (by omega) (Ev.valEq (by omega))) (fun k => laws_heldAndS.l0.eq_2 ..)
  | succ d ih =>
    intro i c hi hc
    have hwi := wnat i (by omega)
    have w1 : wrap64 (c + 1) = c + 1 := w_id (by omega) (by omega)
    have w2 : wrap64 (c + 1 + 1) = c + 1 + 1 := w_id (by omega) (by omega)
    have hil : i < zs.length := by omega
    refine Ev.step ?_ (fun k => laws_heldAndS.l0.eq_2 ..)
    simp only [w1, w2, hwi]
    rw [rdG hil, hz i hil]
    exact Ev.pos (by omega) (Ev.pos (by omega) (Ev.pos (by unfold markG; simp only; omega) (Ev.pos (by unfold markG; simp only; omega) (ih (i + 1) _ (by omega) (by omega)))))
theorem held_circuit (a : Int) (zs : List S92) (hn : zs.length ≤ 1048576) (hz : ∀ q (h : q < zs.length), zs[q] = markG q) : Ev (fun k => laws_heldCircuit.f k a zs 1) (1 + 2 * (zs.length : Int)) := by
  unfold laws_heldCircuit.f
  refine Ev.bind (a := 1 + 2 * (zs.length : Int)) ?_ (Ev.neg (by omega) (Ev.val _))
  unfold laws_heldAndS.f
  exact held_gates_loop zs hn hz zs.length 0 1 (by omega) (by omega)
/-! #### gates that are added once: the reference and the program -/
theorem xor_val (m n : Nat) (hm : m < 2 ^ 62) (hn : n < 2 ^ 62) : Go.bits .xor .i64 (m : Int) (n : Int) = ((m ^^^ n : Nat) : Int) := by
  have hx := Nat.xor_lt_two_pow hm hn
  have e : (BitVec.ofInt 64 (m : Int) ^^^ BitVec.ofInt 64 (n : Int)).toNat = m ^^^ n := by
    rw [BitVec.ofInt_natCast, BitVec.ofInt_natCast, BitVec.toNat_xor, BitVec.toNat_ofNat, BitVec.toNat_ofNat, Nat.mod_eq_of_lt (by omega), Nat.mod_eq_of_lt (by omega)]
  have e2 : Go.bits .xor .i64 (m : Int) (n : Int) = IntKind.i64.wrap ((BitVec.ofInt 64 (m : Int) ^^^ BitVec.ofInt 64 (n : Int)).toNat : Int) := rfl
  rw [e2, e, IntKind.wrap_i64]
  omega
/-- The contrary of an edge. -/
def notE (x : Int) : Int := x + 1 - 2 * (x % 2)
theorem xor_one {x : Int} (h0 : 0 ≤ x) (h1 : x ≤ 1000000000) : Go.bits .xor .i64 x 1 = notE x := by
  obtain ⟨n, rfl⟩ := Int.eq_ofNat_of_zero_le h0
  have := xor_val n 1 (by omega) (by decide)
  rw [show ((1 : Nat) : Int) = 1 from rfl] at this
  rw [this]
  have a : (n ^^^ 1) / 2 = n / 2 := by rw [Nat.xor_div_two]; simp
  have b := @Nat.xor_mod_two_eq_one n 1
  unfold notE
  omega
def cfind (G : List S92) (x : S92) : Option Nat := G.findIdx? (fun y => decide (y = x))
theorem cfind_at {G : List S92} {x : S92} {i : Nat} (hi : i < G.length) (h : G[i] = x) (hn : ∀ q (hq : q < G.length), q < i → G[q] ≠ x) : cfind G x = some i := by
  unfold cfind
  rw [List.findIdx?_eq_some_iff_getElem]
  exact ⟨hi, decide_eq_true h, fun j hj => by simpa using hn j (by omega) hj⟩
theorem cfind_no {G : List S92} {x : S92} (hn : ∀ q (hq : q < G.length), G[q] ≠ x) : cfind G x = none := by
  unfold cfind
  rw [List.findIdx?_eq_none_iff]
  intro y hy
  obtain ⟨q, hq, rfl⟩ := List.mem_iff_getElem.1 hy
  simpa using hn q hq
theorem cfind_lt {G : List S92} {x : S92} {i : Nat} (h : cfind G x = some i) : i < G.length := by
  unfold cfind at h
  rw [List.findIdx?_eq_some_iff_getElem] at h
  exact h.1
theorem cfind_ne {G : List S92} {x : S92} (h : cfind G x = none) : ∀ q (hq : q < G.length), G[q] ≠ x := by
  unfold cfind at h
  rw [List.findIdx?_eq_none_iff] at h
  intro q hq
  simpa using h G[q] (List.getElem_mem hq)
theorem cfind_snoc (G : List S92) {x : S92} (hx : cfind G x = none) (y : S92) : cfind (G ++ [x]) y = if y = x then some G.length else cfind G y := by
  by_cases e : y = x
  · rw [if_pos e, e]
    refine cfind_at (by simp) (by simp) (fun q hq hl => ?_)
    rw [List.getElem_append_left (by omega)]
    exact cfind_ne hx q (by omega)
  · rw [if_neg e]
    cases h : cfind G y with
    | some i =>
      have hi := cfind_lt h
      have h2 := h
      unfold cfind at h2
      rw [List.findIdx?_eq_some_iff_getElem] at h2
      obtain ⟨_, g1, g2⟩ := h2
      refine cfind_at (by simp; omega) (by rw [List.getElem_append_left hi]; exact of_decide_eq_true g1) (fun q hq hl => ?_)
      rw [List.getElem_append_left (by omega)]
      simpa using g2 q hl
    | none =>
      refine cfind_no (fun q hq => ?_)
      by_cases c : q < G.length
      · rw [List.getElem_append_left c]
        exact cfind_ne h q c
      · have hl : q = G.length := by simp at hq; omega
        subst hl
        simp
        exact fun e2 => e e2.symm
/-- And of two edges, the lesser one first. -/
def caddO (inputs : Int) (G : List S92) (a b : Int) : List S92 × Int :=
  if a = 0 then (G, 0) else if a / 2 = b / 2 ∧ a ≠ b then (G, 0) else if a = 1 then (G, b) else if a = b then (G, b) else
  match cfind G ⟨a, b⟩ with
  | some i => (G, 2 * (1 + inputs + (i : Int)))
  | none => if 600 ≤ G.length then (G, -1) else (G ++ [⟨a, b⟩], 2 * (1 + inputs + (G.length : Int)))
def cadd (inputs : Int) (G : List S92) (x y : Int) : List S92 × Int := caddO inputs G (if y < x then y else x) (if x < y then y else x)
theorem find_loop {inputs : Int} (h0 : 0 ≤ inputs) (h12 : inputs ≤ 12) (G : List S92) (hl : G.length ≤ 600) (a b : Int) : ∀ (d i : Nat), i + d = G.length → (∀ q (hq : q < G.length), q < i → G[q] ≠ (⟨a, b⟩ : S92)) →
    Ev (fun k => spec_l7Find.l0 k a b (i : Int) inputs G) (match cfind G ⟨a, b⟩ with | some i => 1 + inputs + (i : Int) | none => -1) := by
  intro d
  induction d with
  | zero =>
    intro i hi hn
    rw [cfind_no (fun q hq => hn q hq (by omega))]
    exact Ev.step (Ev.neg (by omega) (Ev.val _)) (fun k => spec_l7Find.l0.eq_2 ..)
  | succ d ih =>
    intro i hi hn
    have hil : i < G.length := by omega
    refine Ev.step (Ev.pos (by omega) (Ev.pos (by omega) ?_)) (fun k => spec_l7Find.l0.eq_2 ..)
    rw [rdG hil, wsucc i (by omega)]
    by_cases c : G[i] = (⟨a, b⟩ : S92)
    · rw [cfind_at hil c hn, c]
      refine Ev.pos rfl (Ev.pos rfl (Ev.valEq ?_))
      simp only
      rw [w_id (x := 1 + inputs) (by omega) (by omega), w_id (by omega) (by omega)]
    · have nx := ih (i + 1) (by omega) (fun q hq hl => by
        by_cases e : q = i
        · subst e
          exact c
        · exact hn q hq (by omega))
      by_cases c1 : G[i].f0 = a
      · by_cases c2 : G[i].f1 = b
        · refine absurd ?_ c
          generalize G[i] = z at c1 c2
          obtain ⟨z0, z1⟩ := z
          simp only at c1 c2
          rw [c1, c2]
        · exact Ev.pos c1 (Ev.neg c2 nx)
      · exact Ev.neg c1 nx
theorem spec_caddO {inputs : Int} (h0 : 0 ≤ inputs) (h12 : inputs ≤ 12) (G : List S92) (hl : G.length ≤ 600) {a b : Int} (a0 : 0 ≤ a) (a1 : a ≤ 1000000) (b0 : 0 ≤ b) (b1 : b ≤ 1000000) :
    Ev (fun k => spec_l7And.j0 k a b inputs G) (inputs, (caddO inputs G a b).1, (caddO inputs G a b).2) := by
  have ta : wrap64 (Int.tdiv a 2) = a / 2 := by rw [Int.tdiv_eq_ediv_of_nonneg a0, w_id (by omega) (by omega)]
  have tb : wrap64 (Int.tdiv b 2) = b / 2 := by rw [Int.tdiv_eq_ediv_of_nonneg b0, w_id (by omega) (by omega)]
  have y1 : Ev (fun k => spec_l7And.j1 k a b true inputs G) (inputs, G, 0) := Ev.step (Ev.pos rfl (Ev.val _)) (fun k => spec_l7And.j1.eq_2 ..)
  have y2 : Ev (fun k => spec_l7And.j2 k a b true inputs G) (inputs, G, b) := Ev.step (Ev.pos rfl (Ev.val _)) (fun k => spec_l7And.j2.eq_2 ..)
  refine Ev.step ?_ (fun k => spec_l7And.j0.eq_2 ..)
  rw [ta, tb]
  unfold caddO
  by_cases c1 : a = 0
  · rw [if_pos c1]
    exact Ev.pos c1 y1
  rw [if_neg c1]
  refine Ev.neg c1 ?_
  have no : ∀ q : Bool, q = false → ¬ (a / 2 = b / 2 ∧ a ≠ b) → Ev (fun k => spec_l7And.j1 k a b q inputs G) (inputs, (if a / 2 = b / 2 ∧ a ≠ b then (G, 0) else if a = 1 then (G, b) else if a = b then (G, b) else match cfind G ⟨a, b⟩ with | some i => (G, 2 * (1 + inputs + (i : Int))) | none => if 600 ≤ G.length then (G, -1) else (G ++ [⟨a, b⟩], 2 * (1 + inputs + (G.length : Int)))).1, (if a / 2 = b / 2 ∧ a ≠ b then (G, 0) else if a = 1 then (G, b) else if a = b then (G, b) else match cfind G ⟨a, b⟩ with | some i => (G, 2 * (1 + inputs + (i : Int))) | none => if 600 ≤ G.length then (G, -1) else (G ++ [⟨a, b⟩], 2 * (1 + inputs + (G.length : Int)))).2) := by
    intro q hq c2
    rw [hq, if_neg c2]
    refine Ev.step (Ev.neg (by decide) ?_) (fun k => spec_l7And.j1.eq_2 ..)
    by_cases c3 : a = 1
    · rw [if_pos c3]
      exact Ev.pos c3 y2
    rw [if_neg c3]
    refine Ev.neg c3 ?_
    by_cases c4 : a = b
    · rw [if_pos c4, beq_iff_eq.mpr c4]
      exact y2
    rw [if_neg c4, beq_eq_false_iff_ne.mpr c4]
    refine Ev.step (Ev.neg (by decide) (Ev.bind (find_loop h0 h12 G hl a b G.length 0 (by omega) (fun q hq h => absurd h (by omega))) ?_)) (fun k => spec_l7And.j2.eq_2 ..)
    cases hf : cfind G ⟨a, b⟩ with
    | some i =>
      have hi := cfind_lt hf
      refine Ev.pos (by simp only; omega) (Ev.valEq ?_)
      simp only
      rw [w_id (by omega) (by omega)]
    | none =>
      refine Ev.neg (by simp only; omega) ?_
      by_cases c5 : 600 ≤ G.length
      · simp only [if_pos c5]
        exact Ev.pos (by omega) (Ev.val _)
      · simp only [if_neg c5]
        refine Ev.neg (by omega) (Ev.pos (by omega) (Ev.bind (Ev.val _) (Ev.bind (a := 1 + inputs + ((G.length : Int) + 1)) (Ev.const ?_) (Ev.valEq ?_))))
        · unfold spec_l7Nodes.f
          rw [w_id (x := 1 + inputs) (by omega) (by omega), List.length_append, List.length_singleton, w_id (by omega) (by omega)]
          congr 1
        · rw [w_id (x := 1 + inputs + ((G.length : Int) + 1) - 1) (by omega) (by omega), w_id (by omega) (by omega)]
          congr 2
          omega
  by_cases c2 : a / 2 = b / 2
  · refine Ev.pos c2 ?_
    by_cases c3 : a = b
    · exact no _ (bne_eq_false_iff_eq.mpr c3) (fun h => h.2 c3)
    · rw [bne_iff_ne.mpr c3, if_pos ⟨c2, c3⟩]
      exact y1
  · exact Ev.neg c2 (no false rfl (fun h => c2 h.1))
theorem spec_cadd {inputs : Int} (h0 : 0 ≤ inputs) (h12 : inputs ≤ 12) (G : List S92) (hl : G.length ≤ 600) {x y : Int} (a0 : 0 ≤ x) (a1 : x ≤ 1000000) (b0 : 0 ≤ y) (b1 : y ≤ 1000000) :
    Ev (fun k => spec_l7And.f k inputs G x y) (inputs, (cadd inputs G x y).1, (cadd inputs G x y).2) := by
  unfold spec_l7And.f cadd
  by_cases c : x > y
  · rw [if_pos (show y < x by omega), if_neg (show ¬ x < y by omega)]
    exact Ev.pos c (spec_caddO h0 h12 G hl b0 b1 a0 a1)
  · rw [if_neg (show ¬ y < x by omega)]
    by_cases c2 : x < y
    · rw [if_pos c2]
      exact Ev.neg c (spec_caddO h0 h12 G hl a0 a1 b0 b1)
    · have e : x = y := by omega
      subst e
      rw [if_neg c2]
      exact Ev.neg c (spec_caddO h0 h12 G hl a0 a1 a0 a1)
/-- The state of a circuit that grows. -/
structure CB (inputs : Int) (G : List S92) (s : BS) : Prop where
  ins : s.inputs = inputs
  gates : s.gates = G
  full : s.full = false
  seen : ∀ y, s.seen y = (cfind G y).map (fun (i : Nat) => 2 * (1 + inputs + (i : Int)))
theorem and_cadd {inputs : Int} (h0 : 0 ≤ inputs) (h12 : inputs ≤ 12) {G : List S92} (hl : G.length ≤ 600) {s : BS} (h : CB inputs G s) {x y : Int} (x0 : 0 ≤ x) (x1 : x ≤ 1000000) (y0 : 0 ≤ y) (y1 : y ≤ 1000000) :
    (0 ≤ (cadd inputs G x y).2 → ∃ s', impl_builder_and.f s x y = some (s', (cadd inputs G x y).2) ∧ CB inputs (cadd inputs G x y).1 s') ∧ ((cadd inputs G x y).2 < 0 → impl_builder_and.f s x y = some ({ s with full := true }, 0)) := by
  unfold cadd impl_builder_and.f
  obtain ⟨a, ha⟩ : ∃ a, (if y < x then y else x) = a := ⟨_, rfl⟩
  obtain ⟨b, hb⟩ : ∃ b, (if x < y then y else x) = b := ⟨_, rfl⟩
  rw [ha, hb]
  have a0 : 0 ≤ a ∧ a ≤ 1000000 := by rw [← ha]; split <;> omega
  have b0 : 0 ≤ b ∧ b ≤ 1000000 := by rw [← hb]; split <;> omega
  rw [xor_one a0.1 (by omega)]
  unfold caddO
  by_cases c1 : a = 0
  · rw [if_pos c1, if_pos c1]
    exact ⟨fun _ => ⟨s, rfl, h⟩, fun h => absurd (show (0 : Int) < 0 from h) (by decide)⟩
  rw [if_neg c1, if_neg c1]
  by_cases c2 : a / 2 = b / 2 ∧ a ≠ b
  · rw [if_pos c2, if_pos (show notE a = b by unfold notE; omega)]
    exact ⟨fun _ => ⟨s, rfl, h⟩, fun h => absurd (show (0 : Int) < 0 from h) (by decide)⟩
  rw [if_neg c2, if_neg (show ¬ notE a = b by unfold notE; omega)]
  by_cases c3 : a = 1
  · rw [if_pos c3, if_pos c3]
    exact ⟨fun _ => ⟨s, rfl, h⟩, fun h => absurd h (by simp only; omega)⟩
  rw [if_neg c3, if_neg c3]
  by_cases c4 : a = b
  · rw [if_pos c4, if_pos c4]
    exact ⟨fun _ => ⟨s, rfl, h⟩, fun h => absurd h (by simp only; omega)⟩
  rw [if_neg c4, if_neg c4]
  unfold impl_builder_and.put
  rw [if_pos (show okA ⟨a, b⟩ from ⟨⟨a0.1, by show a ≤ 9223372036854775807; omega⟩, ⟨b0.1, by show b ≤ 9223372036854775807; omega⟩⟩), h.seen]
  cases hf : cfind G ⟨a, b⟩ with
  | some i =>
    simp only [Option.map_some]
    exact ⟨fun _ => ⟨s, rfl, h⟩, fun h => absurd h (by omega)⟩
  | none =>
    simp only [Option.map_none]
    rw [h.gates]
    by_cases c5 : 600 ≤ G.length
    · simp only [if_pos c5]
      rw [if_pos (by omega)]
      exact ⟨fun h => absurd h (by decide), fun _ => by first | rfl | rw [← h.gates]⟩
    · simp only [if_neg c5]
      rw [if_neg (by omega)]
      have e : wrap64 (2 * (wrap64 (s.inputs + ((G.length : Int) + 1)))) = 2 * (1 + inputs + (G.length : Int)) := by
        rw [h.ins, w_id (x := inputs + ((G.length : Int) + 1)) (by omega) (by omega), w_id (by omega) (by omega)]
        omega
      rw [e]
      refine ⟨fun _ => ⟨_, rfl, h.ins, rfl, h.full, fun y => ?_⟩, fun h => absurd h (by omega)⟩
      rw [cfind_snoc G hf y]
      simp only
      by_cases ey : y = ⟨a, b⟩
      · rw [if_pos ey, if_pos ey]
        rfl
      · rw [if_neg ey, if_neg ey]
        exact h.seen y
/-! #### one of two edges by a third one: the reference and the program -/
theorem cfind_snoc2 (G : List S92) (x y : S92) : cfind (G ++ [x]) y = match cfind G y with | some i => some i | none => if y = x then some G.length else none := by
  cases h : cfind G y with
  | some i =>
    have hi := cfind_lt h
    have h2 := h
    unfold cfind at h2
    rw [List.findIdx?_eq_some_iff_getElem] at h2
    obtain ⟨_, g1, g2⟩ := h2
    refine cfind_at (by simp; omega) (by rw [List.getElem_append_left hi]; exact of_decide_eq_true g1) (fun q hq hl => ?_)
    rw [List.getElem_append_left (by omega)]
    simpa using g2 q hl
  | none =>
    by_cases e : y = x
    · subst e
      simp only [if_pos]
      rw [cfind_snoc G h y, if_pos rfl]
    · simp only [if_neg e]
      refine cfind_no (fun q hq => ?_)
      by_cases c : q < G.length
      · rw [List.getElem_append_left c]
        exact cfind_ne h q c
      · have hl : q = G.length := by simp at hq; omega
        subst hl
        simp
        exact fun e2 => e e2.symm
theorem cadd_room {inputs : Int} (h0 : 0 ≤ inputs) {G : List S92} (hl : G.length ≤ 600) {x y : Int} (x0 : 0 ≤ x) (x1 : x < 2 * (1 + inputs + (G.length : Int))) (y0 : 0 ≤ y) (y1 : y < 2 * (1 + inputs + (G.length : Int))) :
    0 ≤ (cadd inputs G x y).2 → (cadd inputs G x y).2 < 2 * (1 + inputs + ((cadd inputs G x y).1.length : Int)) ∧ G.length ≤ (cadd inputs G x y).1.length ∧ (cadd inputs G x y).1.length ≤ 600 := by
  unfold cadd
  obtain ⟨a, ha⟩ : ∃ a, (if y < x then y else x) = a := ⟨_, rfl⟩
  obtain ⟨b, hb⟩ : ∃ b, (if x < y then y else x) = b := ⟨_, rfl⟩
  rw [ha, hb]
  have b0 : 0 ≤ b ∧ b < 2 * (1 + inputs + (G.length : Int)) := by rw [← hb]; split <;> omega
  unfold caddO
  by_cases c1 : a = 0
  · rw [if_pos c1]
    exact fun _ => ⟨by simp only; omega, Nat.le_refl _, hl⟩
  rw [if_neg c1]
  by_cases c2 : a / 2 = b / 2 ∧ a ≠ b
  · rw [if_pos c2]
    exact fun _ => ⟨by simp only; omega, Nat.le_refl _, hl⟩
  rw [if_neg c2]
  by_cases c3 : a = 1
  · rw [if_pos c3]
    exact fun _ => ⟨b0.2, Nat.le_refl _, hl⟩
  rw [if_neg c3]
  by_cases c4 : a = b
  · rw [if_pos c4]
    exact fun _ => ⟨b0.2, Nat.le_refl _, hl⟩
  rw [if_neg c4]
  cases hf : cfind G ⟨a, b⟩ with
  | some i =>
    have := cfind_lt hf
    exact fun _ => ⟨by simp only; omega, Nat.le_refl _, hl⟩
  | none =>
    by_cases c5 : 600 ≤ G.length
    · simp only [if_pos c5]
      exact fun h => absurd h (by decide)
    · simp only [if_neg c5, List.length_append, List.length_singleton]
      exact fun _ => ⟨by omega, by omega, by omega⟩
theorem cadd_no {inputs : Int} {G : List S92} {x y : Int} (h0 : 0 ≤ inputs) (x0 : 0 ≤ x) (y0 : 0 ≤ y) (h : (cadd inputs G x y).2 < 0) : (cadd inputs G x y).2 = -1 := by
  unfold cadd at h ⊢
  obtain ⟨a, ha⟩ : ∃ a, (if y < x then y else x) = a := ⟨_, rfl⟩
  obtain ⟨b, hb⟩ : ∃ b, (if x < y then y else x) = b := ⟨_, rfl⟩
  rw [ha, hb] at h ⊢
  have b0 : 0 ≤ b := by rw [← hb]; split <;> omega
  unfold caddO at h ⊢
  by_cases c1 : a = 0
  · rw [if_pos c1] at h
    exact absurd (show (0 : Int) < 0 from h) (by decide)
  rw [if_neg c1] at h ⊢
  by_cases c2 : a / 2 = b / 2 ∧ a ≠ b
  · rw [if_pos c2] at h
    exact absurd (show (0 : Int) < 0 from h) (by decide)
  rw [if_neg c2] at h ⊢
  by_cases c3 : a = 1
  · rw [if_pos c3] at h
    have : b < 0 := h
    omega
  rw [if_neg c3] at h ⊢
  by_cases c4 : a = b
  · rw [if_pos c4] at h
    have : b < 0 := h
    omega
  rw [if_neg c4] at h ⊢
  cases hf : cfind G ⟨a, b⟩ with
  | some i =>
    rw [hf] at h
    simp only at h
    omega
  | none =>
    rw [hf] at h
    by_cases c5 : 600 ≤ G.length
    · simp only [if_pos c5]
    · simp only [if_neg c5] at h
      omega
theorem not_bound {e B : Int} (e0 : 0 ≤ e) (e1 : e < 2 * B) : 0 ≤ notE e ∧ notE e < 2 * B := by
  unfold notE
  omega
/-- The state of a circuit that may be too great. -/
def CBf (inputs : Int) (G : List S92) (f : Bool) (s : BS) : Prop := CB inputs G { s with full := false } ∧ s.full = f
theorem and_full (s : BS) (x y : Int) : impl_builder_and.f { s with full := true } x y = (impl_builder_and.f { s with full := false } x y).map (fun p => ({ p.1 with full := true }, p.2)) := by
  unfold impl_builder_and.f
  generalize (if y < x then y else x) = a
  generalize (if x < y then y else x) = b
  by_cases c1 : a = 0
  · rw [if_pos c1, if_pos c1]
    rfl
  rw [if_neg c1, if_neg c1]
  by_cases c2 : Go.bits .xor .i64 a 1 = b
  · rw [if_pos c2, if_pos c2]
    rfl
  rw [if_neg c2, if_neg c2]
  by_cases c3 : a = 1
  · rw [if_pos c3, if_pos c3]
    rfl
  rw [if_neg c3, if_neg c3]
  by_cases c4 : a = b
  · rw [if_pos c4, if_pos c4]
    rfl
  rw [if_neg c4, if_neg c4]
  unfold impl_builder_and.put
  by_cases c5 : okA ⟨a, b⟩
  · rw [if_pos c5, if_pos c5]
    simp only
    cases s.seen ⟨a, b⟩ with
    | some n => rfl
    | none =>
      simp only
      by_cases c6 : 600 ≤ (s.gates.length : Int)
      · rw [if_pos c6, if_pos c6]
        rfl
      · rw [if_neg c6, if_neg c6]
        rfl
  · rw [if_neg c5, if_neg c5]
    rfl
theorem and_step {inputs : Int} (h0 : 0 ≤ inputs) (h12 : inputs ≤ 12) {G : List S92} (hl : G.length ≤ 600) {f : Bool} {s : BS} (h : CBf inputs G f s) {x y : Int} (x0 : 0 ≤ x) (x1 : x < 2 * (1 + inputs + (G.length : Int))) (y0 : 0 ≤ y) (y1 : y < 2 * (1 + inputs + (G.length : Int))) :
    ∃ s' r G' f', impl_builder_and.f s x y = some (s', r) ∧ CBf inputs G' f' s' ∧ (0 ≤ r ∧ r < 2 * (1 + inputs + (G'.length : Int))) ∧ G.length ≤ G'.length ∧ G'.length ≤ 600 ∧ (0 ≤ (cadd inputs G x y).2 → G' = (cadd inputs G x y).1 ∧ r = (cadd inputs G x y).2 ∧ f' = f) ∧ ((cadd inputs G x y).2 < 0 ∨ f = true → f' = true) := by
  obtain ⟨hc, hf⟩ := h
  obtain ⟨a1, a2⟩ := and_cadd h0 h12 hl hc x0 (show x ≤ 1000000 by omega) y0 (show y ≤ 1000000 by omega)
  have hrm := cadd_room h0 hl x0 x1 y0 y1
  have lift : ∀ (t : BS) (r : Int), impl_builder_and.f { s with full := false } x y = some (t, r) → ∃ s', impl_builder_and.f s x y = some (s', r) ∧ ({ s' with full := false } : BS) = { t with full := false } ∧ s'.full = (t.full || f) := by
    intro t r ht
    cases f with
    | false =>
      have e : ({ s with full := false } : BS) = s := by rw [← hf]
      rw [e] at ht
      exact ⟨t, ht, rfl, by simp⟩
    | true =>
      have e : ({ s with full := true } : BS) = s := by rw [← hf]
      have := and_full s x y
      rw [e, ht] at this
      exact ⟨_, this, rfl, by simp⟩
  by_cases c : 0 ≤ (cadd inputs G x y).2
  · obtain ⟨t, t1, t2⟩ := a1 c
    obtain ⟨s', s1, s2, s3⟩ := lift t _ t1
    obtain ⟨r1, r2, r3⟩ := hrm c
    refine ⟨s', _, _, f, s1, ⟨?_, ?_⟩, ⟨c, r1⟩, r2, r3, fun _ => ⟨rfl, rfl, rfl⟩, fun h => ?_⟩
    · rw [s2]
      have e : ({ t with full := false } : BS) = t := by rw [← t2.full]
      rw [e]
      exact t2
    · rw [s3, t2.full]
      simp
    · rcases h with h | h
      · omega
      · exact h
  · have t1 := a2 (by omega)
    obtain ⟨s', s1, s2, s3⟩ := lift _ _ t1
    refine ⟨s', 0, G, true, s1, ⟨?_, by rw [s3]; rfl⟩, ⟨Int.le_refl _, by omega⟩, Nat.le_refl _, hl, fun h => absurd h c, fun _ => rfl⟩
    rw [s2]
    exact hc
/-- What both make. -/
def pickP (inputs : Int) (G : List S92) (by_ yes no : Int) : List S92 × Int :=
  if yes = no then (G, yes) else
  if (cadd inputs G by_ yes).2 < 0 then (G, -1) else
  if (cadd inputs (cadd inputs G by_ yes).1 (notE by_) no).2 < 0 then (G, -1) else
  if (cadd inputs (cadd inputs (cadd inputs G by_ yes).1 (notE by_) no).1 (notE (cadd inputs G by_ yes).2) (notE (cadd inputs (cadd inputs G by_ yes).1 (notE by_) no).2)).2 < 0 then (G, -1) else
  ((cadd inputs (cadd inputs (cadd inputs G by_ yes).1 (notE by_) no).1 (notE (cadd inputs G by_ yes).2) (notE (cadd inputs (cadd inputs G by_ yes).1 (notE by_) no).2)).1, notE (cadd inputs (cadd inputs (cadd inputs G by_ yes).1 (notE by_) no).1 (notE (cadd inputs G by_ yes).2) (notE (cadd inputs (cadd inputs G by_ yes).1 (notE by_) no).2)).2)
def toldP (inputs : Int) (p : List S92 × Int) : Int × List S92 × Int := if p.2 < 0 then (0, [], -1) else (inputs, p.1, p.2)
theorem not_val2 {x : Int} (h0 : 0 ≤ x) (h1 : x ≤ 1000000) : spec_l7Not.f x = some (notE x) := by
  unfold spec_l7Not.f notE
  rw [if_neg (by omega), Int.tdiv_eq_ediv_of_nonneg h0, Int.tmod_eq_emod_of_nonneg h0, w_id (x := x / 2) (by omega) (by omega), w_id (x := x / 2 * 2) (by omega) (by omega), w_id (x := x / 2 * 2 + 1) (by omega) (by omega), w_id (by omega) (by omega)]
  congr 1
  omega
theorem not_neg : spec_l7Not.f (-1) = some (-1) := by
  unfold spec_l7Not.f
  rw [if_pos (by decide)]
theorem told_val (inputs : Int) (p : List S92 × Int) : spec_l7Told.f inputs p.1 p.2 = some (toldP inputs p) := by
  unfold spec_l7Told.f toldP
  split <;> rfl
theorem spec_pick {inputs : Int} (h0 : 0 ≤ inputs) (h12 : inputs ≤ 12) {G : List S92} (hl : G.length ≤ 600) {by_ yes no : Int} (b0 : 0 ≤ by_) (b1 : by_ < 2 * (1 + inputs + (G.length : Int))) (y0 : 0 ≤ yes) (y1 : yes < 2 * (1 + inputs + (G.length : Int))) (n0 : 0 ≤ no) (n1 : no < 2 * (1 + inputs + (G.length : Int))) :
    ∃ r, Ev (fun k => spec_l7Pick.f k inputs G by_ yes no) r ∧ spec_l7Told.f r.1 r.2.1 r.2.2 = some (toldP inputs (pickP inputs G by_ yes no)) := by
  unfold spec_l7Pick.f pickP
  by_cases c0 : yes = no
  · rw [if_pos c0]
    exact ⟨_, Ev.pos c0 (Ev.val _), told_val inputs (G, yes)⟩
  rw [if_neg c0]
  have s1 := spec_cadd h0 h12 G hl b0 (show by_ ≤ 1000000 by omega) y0 (show yes ≤ 1000000 by omega)
  have r1 := cadd_room h0 hl b0 b1 y0 y1
  generalize cadd inputs G by_ yes = p1 at s1 r1 ⊢
  by_cases c1 : p1.2 < 0
  · rw [if_pos c1]
    exact ⟨_, Ev.neg c0 (Ev.bind s1 (Ev.pos c1 (Ev.val _))), told_val inputs (G, -1)⟩
  rw [if_neg c1]
  obtain ⟨q1, q2, q3⟩ := r1 (by omega)
  have nb := not_bound b0 b1
  have s2 := spec_cadd h0 h12 p1.1 q3 nb.1 (show notE by_ ≤ 1000000 by omega) n0 (show no ≤ 1000000 by omega)
  have r2 := cadd_room h0 q3 nb.1 (show notE by_ < 2 * (1 + inputs + (p1.1.length : Int)) by omega) n0 (by omega)
  have nv := not_val2 b0 (show by_ ≤ 1000000 by omega)
  generalize cadd inputs p1.1 (notE by_) no = p2 at s2 r2 ⊢
  by_cases c2 : p2.2 < 0
  · rw [if_pos c2]
    exact ⟨_, Ev.neg c0 (Ev.bind s1 (Ev.neg c1 (Ev.bind (Ev.const nv) (Ev.bind s2 (Ev.pos c2 (Ev.val _)))))), told_val inputs (G, -1)⟩
  rw [if_neg c2]
  obtain ⟨q4, q5, q6⟩ := r2 (by omega)
  have n3 := not_bound (show 0 ≤ p1.2 by omega) q1
  have n4 := not_bound (show 0 ≤ p2.2 by omega) q4
  have s3 := spec_cadd h0 h12 p2.1 q6 n3.1 (show notE p1.2 ≤ 1000000 by omega) n4.1 (show notE p2.2 ≤ 1000000 by omega)
  have r3 := cadd_room h0 q6 n3.1 (show notE p1.2 < 2 * (1 + inputs + (p2.1.length : Int)) by omega) n4.1 n4.2
  have no3 := cadd_no (inputs := inputs) (G := p2.1) (x := notE p1.2) (y := notE p2.2) h0 n3.1 n4.1
  have v1 := not_val2 (show 0 ≤ p1.2 by omega) (show p1.2 ≤ 1000000 by omega)
  have v2 := not_val2 (show 0 ≤ p2.2 by omega) (show p2.2 ≤ 1000000 by omega)
  generalize cadd inputs p2.1 (notE p1.2) (notE p2.2) = p3 at s3 r3 no3 ⊢
  have or_ : ∀ z, spec_l7Not.f p3.2 = some z → Ev (fun k => spec_l7Or.f k inputs p2.1 p1.2 p2.2) (inputs, p3.1, z) := fun z hz => by
    unfold spec_l7Or.f
    exact Ev.bind (Ev.const v1) (Ev.bind (Ev.const v2) (Ev.bind s3 (Ev.bind (Ev.const hz) (Ev.val _))))
  by_cases c3 : p3.2 < 0
  · rw [if_pos c3]
    have e := no3 c3
    refine ⟨_, Ev.neg c0 (Ev.bind s1 (Ev.neg c1 (Ev.bind (Ev.const nv) (Ev.bind s2 (Ev.neg c2 (or_ (-1) (by rw [e]; exact not_neg))))))), ?_⟩
    show spec_l7Told.f inputs p3.1 (-1) = _
    unfold spec_l7Told.f toldP
    rfl
  rw [if_neg c3]
  obtain ⟨q7, _, _⟩ := r3 (by omega)
  exact ⟨_, Ev.neg c0 (Ev.bind s1 (Ev.neg c1 (Ev.bind (Ev.const nv) (Ev.bind s2 (Ev.neg c2 (or_ _ (not_val2 (show 0 ≤ p3.2 by omega) (by omega)))))))), told_val inputs (p3.1, notE p3.2)⟩
theorem impl_pick {inputs : Int} (h0 : 0 ≤ inputs) (h12 : inputs ≤ 12) {G : List S92} (hl : G.length ≤ 600) {s : BS} (h : CBf inputs G false s) {by_ yes no : Int} (b0 : 0 ≤ by_) (b1 : by_ < 2 * (1 + inputs + (G.length : Int))) (y0 : 0 ≤ yes) (y1 : yes < 2 * (1 + inputs + (G.length : Int))) (n0 : 0 ≤ no) (n1 : no < 2 * (1 + inputs + (G.length : Int))) :
    ∃ s' r, impl_builder_pick.f s by_ yes no = some (s', r) ∧ impl_builder_done.f s' r = some (toldP inputs (pickP inputs G by_ yes no)) := by
  have dn : ∀ (G' : List S92) (s' : BS) (r : Int), CBf inputs G' false s' → G'.length ≤ 600 → 0 ≤ r → impl_builder_done.f s' r = some (toldP inputs (G', r)) := fun G' s' r hs hg hr => by
    have e1 : s'.gates = G' := hs.1.gates
    have e2 : s'.inputs = inputs := hs.1.ins
    have e3 : s'.full = false := hs.2
    unfold impl_builder_done.f impl_And_109.f toldP
    rw [if_neg (by rw [e3]; decide), e1, e2, if_pos (show G'.length ≤ 8796093022207 by omega)]
    show some (inputs, G', r) = some (if r < 0 then _ else _)
    rw [if_neg (by omega)]
  have df : ∀ (G' : List S92) (s' : BS) (r : Int), CBf inputs G' true s' → impl_builder_done.f s' r = some (toldP inputs (G, -1)) := fun G' s' r hs => by
    unfold impl_builder_done.f toldP
    rw [if_pos hs.2]
    show _ = some (if (-1 : Int) < 0 then _ else _)
    rw [if_pos (by decide)]
  unfold impl_builder_pick.f pickP
  by_cases c0 : yes = no
  · rw [if_pos c0, if_pos c0]
    exact ⟨s, yes, rfl, dn G s yes h hl y0⟩
  rw [if_neg c0, if_neg c0]
  obtain ⟨s1, r1, G1, f1, a1, a2, a3, a4, a5, a6, a7⟩ := and_step h0 h12 hl h b0 b1 y0 y1
  have nb := not_bound b0 b1
  obtain ⟨s2, r2, G2, f2, d1, d2, d3, d4, d5, d6, d7⟩ := and_step h0 h12 a5 a2 (x := notE by_) (y := no) nb.1 (by omega) n0 (by omega)
  have n3 := not_bound a3.1 a3.2
  have n4 := not_bound d3.1 d3.2
  obtain ⟨s3, r3, G3, f3, g1, g2, g3, g4, g5, g6, g7⟩ := and_step h0 h12 d5 d2 (x := notE r1) (y := notE r2) n3.1 (by omega) n4.1 n4.2
  have n5 := not_bound g3.1 g3.2
  have run : ((impl_builder_and.f s by_ yes).bind fun t => (impl_builder_and.f t.1 (Go.bits .xor .i64 by_ 1) no).bind fun t2 => impl_builder_or.f t2.1 t.2 t2.2) = some (s3, notE r3) := by
    rw [a1, Option.bind_some]
    simp only
    rw [xor_one b0 (by omega), d1, Option.bind_some]
    unfold impl_builder_or.f
    simp only
    rw [xor_one a3.1 (by omega), xor_one d3.1 (by omega), g1, Option.bind_some]
    simp only
    rw [xor_one g3.1 (by omega)]
  refine ⟨s3, notE r3, run, ?_⟩
  by_cases c1 : (cadd inputs G by_ yes).2 < 0
  · rw [if_pos c1]
    have e1 := a7 (.inl c1)
    have e2 := d7 (.inr e1)
    have e3 := g7 (.inr e2)
    rw [e3] at g2
    exact df G3 s3 _ g2
  rw [if_neg c1]
  obtain ⟨x1, x2, x3⟩ := a6 (by omega)
  rw [← x1, ← x2]
  by_cases c2 : (cadd inputs G1 (notE by_) no).2 < 0
  · rw [if_pos c2]
    have e2 := d7 (.inl c2)
    have e3 := g7 (.inr e2)
    rw [e3] at g2
    exact df G3 s3 _ g2
  rw [if_neg c2]
  obtain ⟨x4, x5, x6⟩ := d6 (by omega)
  rw [← x4, ← x5]
  by_cases c3 : (cadd inputs G2 (notE r1) (notE r2)).2 < 0
  · rw [if_pos c3]
    have e3 := g7 (.inl c3)
    rw [e3] at g2
    exact df G3 s3 _ g2
  rw [if_neg c3]
  obtain ⟨x7, x8, x9⟩ := g6 (by omega)
  rw [← x7, ← x8]
  rw [x9, x6, x3] at g2
  exact dn G3 s3 _ g2 g5 n5.1
theorem seen_find {inputs : Int} (h0 : 0 ≤ inputs) (h12 : inputs ≤ 12) (L : List S92) (hl : L.length ≤ 600) : ∀ i : Nat, i ≤ L.length → ∀ y, impl_building.seen inputs L i y = (cfind (L.take i) y).map (fun (j : Nat) => 2 * (1 + inputs + (j : Int))) := by
  intro i
  induction i with
  | zero => intro _ y; rfl
  | succ i ih =>
    intro hi y
    have hil : i < L.length := by omega
    have ts : L.take (i + 1) = L.take i ++ [L[i]] := by
      rw [List.take_add_one, List.getElem?_eq_getElem hil]
      rfl
    have tl : (L.take i).length = i := by rw [List.length_take]; omega
    have ih2 := ih (by omega)
    rw [ts, cfind_snoc2, impl_building.seen, ih2, rdG hil, tl]
    cases hf : cfind (L.take i) L[i] with
    | some j =>
      simp only [Option.map_some]
      rw [ih2]
      by_cases e : y = L[i]
      · rw [e, hf]
      · cases cfind (L.take i) y with
        | some q => rfl
        | none => simp only [if_neg e, Option.map_none]
    | none =>
      simp only [Option.map_none]
      rw [w_id (x := 1 + inputs) (by omega) (by omega), w_id (x := 1 + inputs + (i : Int)) (by omega) (by omega), w_id (by omega) (by omega)]
      by_cases e : y = L[i]
      · rw [if_pos e, e, hf]
        simp
      · rw [if_neg e, ih2]
        cases cfind (L.take i) y with
        | some q => rfl
        | none => simp only [if_neg e, Option.map_none]
theorem building_val {inputs : Int} {L : List S92} (h : CV inputs L) : ∃ s, impl_building.f inputs L = some s ∧ CBf inputs L false s := by
  have h0 := h.i0
  have h12 := h.i12
  have hl := h.len
  refine ⟨⟨inputs, L, impl_building.seen inputs L L.length, false⟩, ?_, ⟨rfl, rfl, rfl, fun y => ?_⟩, rfl⟩
  · unfold impl_building.f impl_And_108.f
    have ok : ∀ x ∈ L, okA x := fun x hx => by
      obtain ⟨i, hi, rfl⟩ := List.mem_iff_getElem.mp hx
      obtain ⟨⟨g1, g2⟩, g3, g4⟩ := h.ok i hi
      exact ⟨⟨g1, by omega⟩, ⟨g3, by omega⟩⟩
    simp only [Option.bind_some, List.length_nil, Nat.zero_add, List.nil_append]
    rw [if_pos (by omega), Option.bind_some, if_pos ok]
  · have := seen_find h0 h12 L hl L.length (Nat.le_refl _) y
    rw [List.take_length] at this
    exact this
theorem copy_loop {inputs : Int} (L : List S92) (hl : L.length ≤ 600) : ∀ (d i : Nat), i + d = L.length → Ev (fun k => spec_l7Copy.l0 k (i : Int) inputs L inputs (L.take i)) (inputs, L) := by
  intro d
  induction d with
  | zero =>
    intro i hi
    rw [List.take_of_length_le (by omega)]
    exact Ev.step (Ev.neg (by omega) (Ev.val _)) (fun k => spec_l7Copy.l0.eq_2 ..)
  | succ d ih =>
    intro i hi
    have hil : i < L.length := by omega
    have nx := ih (i + 1) (by omega)
    rw [List.take_add_one, List.getElem?_eq_getElem hil] at nx
    refine Ev.step (Ev.pos (by omega) (Ev.pos (by omega) (Ev.pos (by rw [List.length_take]; omega) ?_))) (fun k => spec_l7Copy.l0.eq_2 ..)
    rw [rdG hil, wsucc i (by omega)]
    exact nx
def AddAsk (inputs : Int) (L : List S92) (by_ yes no : Int) : Prop := CV inputs L ∧ (0 ≤ by_ ∧ by_ ≤ 2 * (1 + inputs + (L.length : Int)) - 1) ∧ (0 ≤ yes ∧ yes ≤ 2 * (1 + inputs + (L.length : Int)) - 1) ∧ (0 ≤ no ∧ no ≤ 2 * (1 + inputs + (L.length : Int)) - 1)
def AddIs (inputs : Int) (L : List S92) (by_ yes no : Int) (r : Int × List S92 × Int) : Prop :=
  (AddAsk inputs L by_ yes no → r = toldP inputs (pickP inputs L by_ yes no)) ∧ (¬ AddAsk inputs L by_ yes no → r = (0, [], -1))
theorem pick_len {inputs : Int} {L : List S92} {by_ yes no : Int} (h : AddAsk inputs L by_ yes no) : (toldP inputs (pickP inputs L by_ yes no)).2.1.length ≤ 600 := by
  obtain ⟨hc, hb, hy, hn⟩ := h
  obtain ⟨s, s1, s2⟩ := building_val hc
  obtain ⟨s', r, p1, p2⟩ := impl_pick hc.i0 hc.i12 hc.len s2 hb.1 (by omega) hy.1 (by omega) hn.1 (show no < 2 * (1 + inputs + (L.length : Int)) by omega)
  have r1 := cadd_room hc.i0 hc.len hb.1 (show by_ < 2 * (1 + inputs + (L.length : Int)) by omega) hy.1 (show yes < 2 * (1 + inputs + (L.length : Int)) by omega)
  unfold pickP
  by_cases c0 : yes = no
  · rw [if_pos c0]
    unfold toldP
    split
    · exact Nat.zero_le _
    · exact hc.len
  rw [if_neg c0]
  by_cases c1 : (cadd inputs L by_ yes).2 < 0
  · rw [if_pos c1]
    exact Nat.zero_le _
  rw [if_neg c1]
  obtain ⟨q1, q2, q3⟩ := r1 (by omega)
  have nb := not_bound hb.1 (show by_ < 2 * (1 + inputs + (L.length : Int)) by omega)
  have r2 := cadd_room hc.i0 q3 nb.1 (show notE by_ < 2 * (1 + inputs + ((cadd inputs L by_ yes).1.length : Int)) by omega) hn.1 (show no < _ by omega)
  by_cases c2 : (cadd inputs (cadd inputs L by_ yes).1 (notE by_) no).2 < 0
  · rw [if_pos c2]
    exact Nat.zero_le _
  rw [if_neg c2]
  obtain ⟨q4, q5, q6⟩ := r2 (by omega)
  have n3 := not_bound (show 0 ≤ (cadd inputs L by_ yes).2 by omega) q1
  have n4 := not_bound (show 0 ≤ (cadd inputs (cadd inputs L by_ yes).1 (notE by_) no).2 by omega) q4
  have r3 := cadd_room hc.i0 q6 n3.1 (show notE (cadd inputs L by_ yes).2 < _ by omega) n4.1 n4.2
  split
  · exact Nat.zero_le _
  · unfold toldP
    split
    · exact Nat.zero_le _
    · exact (r3 (by omega)).2.2
theorem addIs_ex (inputs : Int) (L : List S92) (by_ yes no : Int) : ∃ r, AddIs inputs L by_ yes no r ∧ r.2.1.length ≤ 600 := by
  by_cases c : AddAsk inputs L by_ yes no
  · exact ⟨_, ⟨fun _ => rfl, fun h => absurd c h⟩, pick_len c⟩
  · exact ⟨(0, [], -1), ⟨fun h => absurd h c, fun _ => rfl⟩, Nat.zero_le _⟩
theorem spec_addpick {inputs by_ yes no : Int} {L : List S92} {r : Int × List S92 × Int} (h : AddIs inputs L by_ yes no r) : Ev (fun k => spec_AddPick.f k inputs L by_ yes no) r := by
  obtain ⟨hy, hn⟩ := h
  unfold spec_AddPick.f
  have e0 : Ev (fun k => spec_AddPick.j0 k by_ yes no true inputs L) (0, [], -1) := Ev.step (Ev.pos rfl (Ev.val _)) (fun k => spec_AddPick.j0.eq_2 ..)
  obtain ⟨q, hb, h1⟩ := spec_cv inputs L
  cases q with
  | false =>
    rw [hn (fun h => by have := h1.2 h.1; cases this)]
    exact Ev.bind hb (Ev.neg (by decide) e0)
  | true =>
    have hd := h1.1 rfl
    have hl := hd.len
    refine Ev.bind hb (Ev.pos rfl (Ev.bind (Ev.const (spec_edge hd by_)) ?_))
    by_cases c : 0 ≤ by_ ∧ by_ ≤ 2 * (1 + inputs + (L.length : Int)) - 1
    · rw [decide_eq_true c]
      refine Ev.pos rfl (Ev.bind (Ev.const (spec_edge hd yes)) ?_)
      by_cases c2 : 0 ≤ yes ∧ yes ≤ 2 * (1 + inputs + (L.length : Int)) - 1
      · rw [decide_eq_true c2]
        refine Ev.pos rfl (Ev.bind (Ev.const (spec_edge hd no)) ?_)
        by_cases c3 : 0 ≤ no ∧ no ≤ 2 * (1 + inputs + (L.length : Int)) - 1
        · rw [decide_eq_true c3, hy ⟨hd, c, c2, c3⟩]
          obtain ⟨r', p1, p2⟩ := spec_pick hd.i0 hd.i12 hl c.1 (by omega) c2.1 (by omega) c3.1 (show no < 2 * (1 + inputs + (L.length : Int)) by omega)
          have cp : Ev (fun k => spec_l7Copy.f k inputs L) (inputs, L) := copy_loop L hl L.length 0 (by omega)
          exact Ev.step (Ev.neg (by decide) (Ev.bind cp (Ev.bind p1 (Ev.bind (Ev.const p2) (Ev.val _))))) (fun k => spec_AddPick.j0.eq_2 ..)
        · rw [decide_eq_false c3, hn (fun h => c3 h.2.2.2)]
          exact e0
      · rw [decide_eq_false c2, hn (fun h => c2 h.2.2.1)]
        exact Ev.neg (by decide) e0
    · rw [decide_eq_false c, hn (fun h => c h.2.1)]
      exact Ev.neg (by decide) e0
theorem addpick_v {inputs by_ yes no : Int} {L : List S92} {r : Int × List S92 × Int} (h : AddIs inputs L by_ yes no r) : Ev (fun k => impl_AddPick.f k inputs L by_ yes no) r := by
  obtain ⟨hy, hn⟩ := h
  unfold impl_AddPick.f
  obtain ⟨q, hb, h1⟩ := impl_cv inputs L
  cases q with
  | false =>
    rw [hn (fun h => by have := h1.2 h.1; cases this)]
    exact Ev.bind hb (Ev.pos rfl (Ev.val _))
  | true =>
    have hd := h1.1 rfl
    have hl := hd.len
    refine Ev.bind hb (Ev.neg (by decide) (Ev.bind (Ev.const (impl_edge hd by_)) ?_))
    by_cases c : 0 ≤ by_ ∧ by_ ≤ 2 * (1 + inputs + (L.length : Int)) - 1
    · rw [decide_eq_true c]
      refine Ev.neg (by decide) (Ev.bind (Ev.const (impl_edge hd yes)) ?_)
      by_cases c2 : 0 ≤ yes ∧ yes ≤ 2 * (1 + inputs + (L.length : Int)) - 1
      · rw [decide_eq_true c2]
        refine Ev.neg (by decide) (Ev.bind (Ev.const (impl_edge hd no)) ?_)
        by_cases c3 : 0 ≤ no ∧ no ≤ 2 * (1 + inputs + (L.length : Int)) - 1
        · rw [decide_eq_true c3, hy ⟨hd, c, c2, c3⟩]
          obtain ⟨s, s1, s2⟩ := building_val hd
          obtain ⟨s', r', p1, p2⟩ := impl_pick hd.i0 hd.i12 hl s2 c.1 (by omega) c2.1 (by omega) c3.1 (show no < 2 * (1 + inputs + (L.length : Int)) by omega)
          exact Ev.neg (by decide) (Ev.bind (Ev.const s1) (Ev.bind (Ev.const p1) (Ev.const p2)))
        · rw [decide_eq_false c3, hn (fun h => c3 h.2.2.2)]
          exact Ev.pos rfl (Ev.val _)
      · rw [decide_eq_false c2, hn (fun h => c2 h.2.2.1)]
        exact Ev.pos rfl (Ev.val _)
    · rw [decide_eq_false c, hn (fun h => c h.2.1)]
      exact Ev.pos rfl (Ev.val _)

theorem FnExactAddPick : laws_FnExactAddPick.Pure := by
  intro a0 l0 a1 a2 a3 _ hl _ _ _
  apply Ev.get
  unfold laws_FnExactAddPick.f
  obtain ⟨z, hz1, hz2⟩ := sz_circuit a0 l0 hl.1
  refine Ev.bind (Ev.const hz1) ?_
  by_cases c : z < 0
  · exact Ev.pos c (Ev.val _)
  refine Ev.neg c ?_
  have hl0 : l0.length ≤ 1048576 := by omega
  obtain ⟨L, hL, hLl⟩ := to_circuit a0 l0 hl0
  obtain ⟨⟨r1, R, r3⟩, ht, hR⟩ := addIs_ex a0 L a1 a2 a3
  have hs : Ev (fun k => spec_AddPick.f k a0 L a1 a2 a3) (r1, R, r3) := spec_addpick ht
  have hi : Ev (fun k => impl_AddPick.f k a0 L a1 a2 a3) (r1, R, r3) := addpick_v ht
  have hR2 : R.length ≤ 600 := hR
  obtain ⟨zs, hm, hml, _⟩ := mark_circuit a0 L (by omega)
  obtain ⟨ys, hn, hnl, hny⟩ := mark_circuit r1 R (by omega)
  have hh := held_circuit r1 ys (by omega) hny
  rw [hnl] at hh
  have j2 : Ev (fun k => laws_FnExactAddPick.j2 k (1 + 2 * (R.length : Int)) (r3 != r3) r1 ys) true := by
    refine Ev.step (Ev.neg (by simp) (Ev.bind hh (Ev.neg (by omega) (Ev.pos rfl (Ev.val _))))) (fun k => laws_FnExactAddPick.j2.eq_2 ..)
  have j1 : Ev (fun k => laws_FnExactAddPick.j1 k a1 a2 a3 r3 (r3 != r3) a0 l0 r1 R r1 R) true :=
    Ev.step (Ev.neg (by simp) (Ev.bind hn (Ev.bind hh (Ev.neg (by omega) (Ev.pos rfl (Ev.bind hL (Ev.bind hi (Ev.bind (eq_circuit r1 R (by omega)) (Ev.pos rfl j2))))))))) (fun k => laws_FnExactAddPick.j1.eq_2 ..)
  have j0 : Ev (fun k => laws_FnExactAddPick.j0 k a1 a2 a3 r3 r3 (r3 != r3) a0 l0 r1 R a0 L r1 R) true :=
    Ev.step (Ev.neg (by simp) (Ev.bind hL (Ev.bind (eq_circuit a0 L (by omega)) (Ev.pos rfl (Ev.bind hm (Ev.neg (by simp only; omega) (Ev.bind (eq_circuit r1 R (by omega)) (Ev.pos rfl j1)))))))) (fun k => laws_FnExactAddPick.j0.eq_2 ..)
  exact Ev.bind hL (Ev.bind hs (Ev.bind hL (Ev.bind hi (Ev.bind (eq_circuit r1 R (by omega)) (Ev.pos rfl j0)))))

end Go.Proofs.Ytpcckoljocpchaa.Pure
