/- FnExactFixed: the program's circuit in which an input is a constant is the reference's, whatever is handed in, and keeps none of what was handed in. -/
import Derived.Test.YtpcckoljocpchaaQFnExactFixedx7
namespace Go.Proofs.Ytpcckoljocpchaa.Pure
open Go.RowKit Go.Proofs.Ytpcckoljocpchaa.QFnExactFixed Go.Proofs.YtpcckoljocpchaaW.PrintWords Go.Proofs.YtpcckoljocpchaaW.PrintLast Go.Proofs.YtpcckoljocpchaaW.PrintMore
set_option linter.unusedVariables false
set_option linter.unusedSimpArgs false

/-! #### rounds -/
/-- From some number of rounds on, g tells r. -/
def Ev {α : Type} (g : Nat → Option α) (r : α) : Prop := ∃ K, ∀ k, K ≤ k → g k = some r
theorem Ev.val {α : Type} (r : α) : Ev (fun _ => some r) r := ⟨0, fun _ _ => rfl⟩
theorem Ev.valEq {α : Type} {r r' : α} (h : r = r') : Ev (fun _ => some r) r' := ⟨0, fun _ _ => by rw [h]⟩
theorem Ev.const {α : Type} {g : Option α} {r : α} (h : g = some r) : Ev (fun _ => g) r := ⟨0, fun _ _ => h⟩
theorem Ev.bind {α β : Type} {g : Nat → Option α} {f : Nat → α → Option β} {a : α} {b : β} (h : Ev g a) (h2 : Ev (fun k => f k a) b) : Ev (fun k => (g k).bind (f k)) b := by
  obtain ⟨K, hK⟩ := h
  obtain ⟨L, hL⟩ := h2
  exact ⟨max K L, fun k hk => by show (g k).bind (f k) = _; rw [hK k (by omega)]; exact hL k (by omega)⟩
theorem Ev.step {α : Type} {g g' : Nat → Option α} {r : α} (h : Ev g' r) (e : ∀ k, g (k + 1) = g' k) : Ev g r := by
  obtain ⟨K, hK⟩ := h
  exact ⟨K + 1, fun k hk => by
    obtain ⟨m, rfl⟩ : ∃ m, k = m + 1 := ⟨k - 1, by omega⟩
    rw [e]
    exact hK m (by omega)⟩
theorem Ev.pos {α : Type} {c : Prop} [Decidable c] {g g' : Nat → Option α} {r : α} (hc : c) (h : Ev g r) : Ev (fun k => if c then g k else g' k) r := by
  obtain ⟨K, hK⟩ := h
  exact ⟨K, fun k hk => by simp only [if_pos hc]; exact hK k hk⟩
theorem Ev.neg {α : Type} {c : Prop} [Decidable c] {g g' : Nat → Option α} {r : α} (hc : ¬ c) (h : Ev g' r) : Ev (fun k => if c then g k else g' k) r := by
  obtain ⟨K, hK⟩ := h
  exact ⟨K, fun k hk => by simp only [if_neg hc]; exact hK k hk⟩
theorem Ev.get {α : Type} {g : Nat → Option α} {r : α} (h : Ev g r) : ∃ k, g k = some r := by
  obtain ⟨K, hK⟩ := h
  exact ⟨K, hK K (Nat.le_refl _)⟩
/-! #### numbers -/
theorem w_id {x : Int} (h0 : -9223372036854775808 ≤ x) (h1 : x ≤ 9223372036854775807) : wrap64 x = x := by
  unfold wrap64
  omega
/-! #### lists -/
theorem rd_nat (l : List Int) (i : Nat) : rd l (i : Int) = l.getD i 0 := by
  unfold rd
  rw [Int.toNat_natCast]
theorem getD_lt {α : Type} {l : List α} {i : Nat} (h : i < l.length) (d : α) : l.getD i d = l[i] := by
  rw [List.getD_eq_getElem?_getD, List.getElem?_eq_getElem h]
  rfl
theorem rd_lt {l : List Int} {i : Nat} (h : i < l.length) : rd l (i : Int) = l[i] := by rw [rd_nat, getD_lt h]
theorem rd_set_eq {l : List Int} {i : Nat} {v : Int} (h : i < l.length) : rd (l.set i v) (i : Int) = v := by
  rw [rd_lt (by simpa using h)]
  simp
theorem rd_set_ne {l : List Int} {i j : Nat} {v : Int} (h : i ≠ j) : rd (l.set i v) (j : Int) = rd l (j : Int) := by
  rw [rd_nat, rd_nat, List.getD_eq_getElem?_getD, List.getD_eq_getElem?_getD, List.getElem?_set_ne h]
theorem rd_app_lt {l m : List Int} {j : Nat} (h : j < l.length) : rd (l ++ m) (j : Int) = rd l (j : Int) := by
  rw [rd_nat, rd_nat, List.getD_eq_getElem?_getD, List.getD_eq_getElem?_getD, List.getElem?_append_left h]
theorem rd_app_eq {l : List Int} {v : Int} : rd (l ++ [v]) (l.length : Int) = v := by
  rw [rd_nat, List.getD_eq_getElem?_getD, List.getElem?_append_right (Nat.le_refl _)]
  simp
theorem list_eq_rd {l m : List Int} (hl : l.length = m.length) (h : ∀ j : Nat, j < l.length → rd l (j : Int) = rd m (j : Int)) : l = m := by
  apply List.ext_getElem hl
  intro i h1 h2
  rw [← rd_lt h1, ← rd_lt h2]
  exact h i h1
theorem wsucc (i : Nat) (h : i ≤ 4611686018427387904) : wrap64 ((i : Int) + 1) = ((i + 1 : Nat) : Int) := by
  unfold wrap64
  omega
/-! #### small laws of numbers -/
theorem l1In_val (a b c : Int) : spec_l1In.f a b c = some (decide (b ≤ a ∧ a ≤ c)) := by
  unfold spec_l1In.f
  by_cases h : a ≥ b
  · rw [if_pos h]
    congr 1
    rw [decide_eq_decide]
    constructor
    · intro h2; exact ⟨h, h2⟩
    · intro h2; exact h2.2
  · rw [if_neg h]
    congr 1
    symm
    rw [decide_eq_false_iff_not]
    intro h2
    exact h h2.1
theorem in_val (a b c : Int) : impl_in.f a b c = some (decide (b ≤ a ∧ a ≤ c)) := by
  unfold impl_in.f
  by_cases h : a ≥ b
  · rw [if_pos h]
    congr 1
    rw [decide_eq_decide]
    constructor
    · intro h2; exact ⟨h, h2⟩
    · intro h2; exact h2.2
  · rw [if_neg h]
    congr 1
    symm
    rw [decide_eq_false_iff_not]
    intro h2
    exact h h2.1
theorem wnat (i : Nat) (h : i ≤ 1000000000000) : wrap64 ((i : Int) + 1) = ((i + 1 : Nat) : Int) := by rw [w_id (by omega) (by omega)]; omega
theorem and_one (x : Int) (h0 : 0 ≤ x) (h1 : x < 9223372036854775808) : Go.bits .and .i64 x 1 = x % 2 := by
  have := bits_mask .i64 63 (by decide) (fun n a b => by rw [IntKind.wrap_i64]; omega) 1 (by decide) x h0 (by omega)
  simpa using this
/-! #### circuits: which are valid, and what their nodes are -/
def GOk (inputs : Int) (i : Nat) (g : S92) : Prop := (0 ≤ g.f0 ∧ g.f0 ≤ 2 * (1 + inputs + i) - 1) ∧ (0 ≤ g.f1 ∧ g.f1 ≤ 2 * (1 + inputs + i) - 1)
structure CV (inputs : Int) (L : List S92) : Prop where
  i0 : 0 ≤ inputs
  i12 : inputs ≤ 12
  len : L.length ≤ 600
  ok : ∀ (i : Nat) (h : i < L.length), GOk inputs i L[i]
theorem rdG {L : List S92} {i : Nat} (h : i < L.length) : rd_T92 L (i : Int) = L[i] := by
  unfold rd_T92
  rw [Int.toNat_natCast, List.getD_eq_getElem?_getD, List.getElem?_eq_getElem h]
  rfl
theorem gate_split {inputs : Int} {L : List S92} {i : Nat} (hi : i < L.length) : (∀ q (h : q < L.length), i ≤ q → GOk inputs q L[q]) ↔ GOk inputs i L[i] ∧ ∀ q (h : q < L.length), i + 1 ≤ q → GOk inputs q L[q] := by
  constructor
  · intro h
    exact ⟨h i hi (Nat.le_refl _), fun q hq hq2 => h q hq (by omega)⟩
  · rintro ⟨ha, hb⟩ q hq hq2
    by_cases c : i = q
    · subst c
      exact ha
    · exact hb q hq (by omega)
theorem most_w {inputs : Int} (h0 : 0 ≤ inputs) (h1 : inputs ≤ 12) (i : Nat) (hi : i ≤ 600) : wrap64 (wrap64 (2 * wrap64 (wrap64 (1 + inputs) + (i : Int))) - 1) = 2 * (1 + inputs + i) - 1 := by
  rw [w_id (x := 1 + inputs) (by omega) (by omega), w_id (x := 1 + inputs + (i : Int)) (by omega) (by omega), w_id (x := 2 * (1 + inputs + (i : Int))) (by omega) (by omega), w_id (by omega) (by omega)]
theorem impl_cv_loop {inputs : Int} (h0 : 0 ≤ inputs) (h1 : inputs ≤ 12) (L : List S92) (hl : L.length ≤ 600) : ∀ (d i : Nat), i + d = L.length → ∃ b, Ev (fun k => impl_CircuitValid.l0 k L (L.length : Int) (i : Int) inputs L) b ∧ (b = true ↔ ∀ q (h : q < L.length), i ≤ q → GOk inputs q L[q]) := by
  intro d
  induction d with
  | zero =>
    intro i hi
    exact ⟨true, Ev.step (Ev.neg (by omega) (Ev.val _)) (fun k => impl_CircuitValid.l0.eq_2 ..), fun _ q h hq => absurd h (by omega), fun _ => rfl⟩
  | succ d ih =>
    intro i hi
    have hil : i < L.length := by omega
    obtain ⟨rest, er, hr⟩ := ih (i + 1) (by omega)
    rw [gate_split hil]
    unfold GOk at hr ⊢
    have st : ∀ b, Ev (fun k => (impl_in.f L[i].f0 0 (2 * (1 + inputs + (i : Int)) - 1)).bind fun t => if t = true then (impl_in.f L[i].f1 0 (2 * (1 + inputs + (i : Int)) - 1)).bind fun t => if t = true then impl_CircuitValid.l0 k L (L.length : Int) (wrap64 ((i : Int) + 1)) inputs L else some false else some false) b → Ev (fun k => impl_CircuitValid.l0 k L (L.length : Int) (i : Int) inputs L) b := fun b hb => by
      refine Ev.step (Ev.pos (by omega) (Ev.pos (by omega) (Ev.pos (by omega) ?_))) (fun k => impl_CircuitValid.l0.eq_2 ..)
      rw [rdG hil, most_w h0 h1 i (by omega)]
      exact hb
    by_cases c1 : 0 ≤ L[i].f0 ∧ L[i].f0 ≤ 2 * (1 + inputs + (i : Int)) - 1
    · by_cases c2 : 0 ≤ L[i].f1 ∧ L[i].f1 ≤ 2 * (1 + inputs + (i : Int)) - 1
      · refine ⟨rest, st _ ?_, ?_⟩
        · simp only [in_val, Option.bind_some, decide_eq_true_eq]
          refine Ev.pos c1 (Ev.pos c2 ?_)
          rw [wsucc i (by omega)]
          exact er
        · rw [hr]
          exact ⟨fun h => ⟨⟨c1, c2⟩, h⟩, fun h => h.2⟩
      · refine ⟨false, st _ ?_, fun h => (by cases h), fun h => absurd h.1.2 c2⟩
        simp only [in_val, Option.bind_some, decide_eq_true_eq]
        exact Ev.pos c1 (Ev.neg c2 (Ev.val _))
    · refine ⟨false, st _ ?_, fun h => (by cases h), fun h => absurd h.1.1 c1⟩
      simp only [in_val, Option.bind_some, decide_eq_true_eq]
      exact Ev.neg c1 (Ev.val _)
theorem impl_cv (inputs : Int) (L : List S92) : ∃ b, Ev (fun k => impl_CircuitValid.f k inputs L) b ∧ (b = true ↔ CV inputs L) := by
  unfold impl_CircuitValid.f
  simp only [in_val, Option.bind_some]
  have e0 : Ev (fun k => impl_CircuitValid.j0 k true inputs L) false := Ev.step (Ev.pos rfl (Ev.val _)) (fun k => impl_CircuitValid.j0.eq_2 ..)
  by_cases c1 : 0 ≤ inputs ∧ inputs ≤ 12
  · rw [decide_eq_true c1]
    by_cases c2 : (L.length : Int) > 600
    · rw [decide_eq_true c2]
      exact ⟨false, Ev.pos rfl e0, fun h => (by cases h), fun h => by have := h.len; omega⟩
    · rw [decide_eq_false c2]
      obtain ⟨b, hb, h2⟩ := impl_cv_loop c1.1 c1.2 L (by omega) L.length 0 (by omega)
      refine ⟨b, Ev.pos rfl (Ev.step (Ev.neg (by decide) hb) (fun k => impl_CircuitValid.j0.eq_2 ..)), ?_⟩
      rw [h2]
      exact ⟨fun h => ⟨c1.1, c1.2, by omega, fun i hi => h i hi (Nat.zero_le _)⟩, fun h q hq _ => h.ok q hq⟩
  · rw [decide_eq_false c1]
    exact ⟨false, Ev.neg (by decide) e0, fun h => (by cases h), fun h => absurd ⟨h.i0, h.i12⟩ c1⟩
theorem spec_cv_loop {inputs : Int} (h0 : 0 ≤ inputs) (h1 : inputs ≤ 12) (L : List S92) (hl : L.length ≤ 600) : ∀ (d i : Nat), i + d = L.length → ∃ b, Ev (fun k => spec_CircuitValid.l0 k (i : Int) inputs L) b ∧ (b = true ↔ ∀ q (h : q < L.length), i ≤ q → GOk inputs q L[q]) := by
  intro d
  induction d with
  | zero =>
    intro i hi
    exact ⟨true, Ev.step (Ev.neg (by omega) (Ev.val _)) (fun k => spec_CircuitValid.l0.eq_2 ..), fun _ q h hq => absurd h (by omega), fun _ => rfl⟩
  | succ d ih =>
    intro i hi
    have hil : i < L.length := by omega
    obtain ⟨rest, er, hr⟩ := ih (i + 1) (by omega)
    rw [gate_split hil]
    unfold GOk at hr ⊢
    have st : ∀ b, Ev (fun k => (spec_l1In.f L[i].f0 0 (2 * (1 + inputs + (i : Int)) - 1)).bind fun t => if t = true then (spec_l1In.f L[i].f1 0 (2 * (1 + inputs + (i : Int)) - 1)).bind fun t => if t = true then spec_CircuitValid.l0 k (wrap64 ((i : Int) + 1)) inputs L else some false else some false) b → Ev (fun k => spec_CircuitValid.l0 k (i : Int) inputs L) b := fun b hb => by
      refine Ev.step (Ev.pos (by omega) (Ev.pos (by omega) ?_)) (fun k => spec_CircuitValid.l0.eq_2 ..)
      rw [rdG hil, most_w h0 h1 i (by omega)]
      exact hb
    by_cases c1 : 0 ≤ L[i].f0 ∧ L[i].f0 ≤ 2 * (1 + inputs + (i : Int)) - 1
    · by_cases c2 : 0 ≤ L[i].f1 ∧ L[i].f1 ≤ 2 * (1 + inputs + (i : Int)) - 1
      · refine ⟨rest, st _ ?_, ?_⟩
        · simp only [l1In_val, Option.bind_some, decide_eq_true_eq]
          refine Ev.pos c1 (Ev.pos c2 ?_)
          rw [wsucc i (by omega)]
          exact er
        · rw [hr]
          exact ⟨fun h => ⟨⟨c1, c2⟩, h⟩, fun h => h.2⟩
      · refine ⟨false, st _ ?_, fun h => (by cases h), fun h => absurd h.1.2 c2⟩
        simp only [l1In_val, Option.bind_some, decide_eq_true_eq]
        exact Ev.pos c1 (Ev.neg c2 (Ev.val _))
    · refine ⟨false, st _ ?_, fun h => (by cases h), fun h => absurd h.1.1 c1⟩
      simp only [l1In_val, Option.bind_some, decide_eq_true_eq]
      exact Ev.neg c1 (Ev.val _)
theorem spec_cv (inputs : Int) (L : List S92) : ∃ b, Ev (fun k => spec_CircuitValid.f k inputs L) b ∧ (b = true ↔ CV inputs L) := by
  unfold spec_CircuitValid.f
  simp only [l1In_val, Option.bind_some]
  have e0 : Ev (fun k => spec_CircuitValid.j0 k true inputs L) false := Ev.step (Ev.pos rfl (Ev.val _)) (fun k => spec_CircuitValid.j0.eq_2 ..)
  by_cases c1 : 0 ≤ inputs ∧ inputs ≤ 12
  · rw [decide_eq_true c1]
    by_cases c2 : (L.length : Int) > 600
    · rw [decide_eq_true c2]
      exact ⟨false, Ev.pos rfl e0, fun h => (by cases h), fun h => by have := h.len; omega⟩
    · rw [decide_eq_false c2]
      obtain ⟨b, hb, h2⟩ := spec_cv_loop c1.1 c1.2 L (by omega) L.length 0 (by omega)
      refine ⟨b, Ev.pos rfl (Ev.step (Ev.neg (by decide) hb) (fun k => spec_CircuitValid.j0.eq_2 ..)), ?_⟩
      rw [h2]
      exact ⟨fun h => ⟨c1.1, c1.2, by omega, fun i hi => h i hi (Nat.zero_le _)⟩, fun h q hq _ => h.ok q hq⟩
  · rw [decide_eq_false c1]
    exact ⟨false, Ev.neg (by decide) e0, fun h => (by cases h), fun h => absurd ⟨h.i0, h.i12⟩ c1⟩
theorem impl_edge {inputs : Int} {L : List S92} (h : CV inputs L) (e : Int) : impl_Circuit_isEdge.f inputs L e = some (decide (0 ≤ e ∧ e ≤ 2 * (1 + inputs + (L.length : Int)) - 1)) := by
  unfold impl_Circuit_isEdge.f
  rw [most_w h.i0 h.i12 L.length h.len, in_val]
  rfl
theorem spec_edge {inputs : Int} {L : List S92} (h : CV inputs L) (e : Int) : spec_l7Edge.f inputs L e = some (decide (0 ≤ e ∧ e ≤ 2 * (1 + inputs + (L.length : Int)) - 1)) := by
  unfold spec_l7Edge.f spec_l7Nodes.f
  simp only [Option.bind_some]
  rw [most_w h.i0 h.i12 L.length h.len, l1In_val]
  rfl
/-! #### the law's own copies of circuits -/
theorem sz_gates (l : List S113) (h : l.length ≤ maxLen) : ∃ z, laws_szAndS.f l 1048576 = some z ∧ (z < 0 ∨ l.length ≤ 1048576) := by
  unfold laws_szAndS.f
  simp only [maxLen] at h
  rw [w_id (by omega) (by omega)]
  by_cases c : 1048576 - (l.length : Int) < 0
  · rw [if_pos c]
    exact ⟨_, rfl, .inl (by decide)⟩
  · rw [if_neg c]
    exact ⟨_, rfl, .inr (by omega)⟩
theorem sz_circuit (a : Int) (l : List S113) (h : l.length ≤ maxLen) : ∃ z, laws_szCircuit.f a l 1048576 = some z ∧ (z < 0 ∨ l.length ≤ 1048576) := by
  obtain ⟨z, h1, h2⟩ := sz_gates l h
  unfold laws_szCircuit.f
  rw [h1, Option.bind_some]
  by_cases c : z < 0
  · rw [if_pos c]
    exact ⟨_, rfl, .inl (by decide)⟩
  · rw [if_neg c]
    exact ⟨_, rfl, h2⟩
theorem to_gates_loop (l : List S113) (hl : l.length ≤ 1048576) : ∀ (d i : Nat) (ys : List S92), i + d = l.length → ys.length = l.length →
    ∃ r, Ev (fun k => laws_toAndS.l0 k l ys (i : Int)) r ∧ r.length = l.length := by
  intro d
  induction d with
  | zero =>
    intro i ys hi hy
    exact ⟨ys, Ev.step (Ev.neg (by omega) (Ev.val _)) (fun k => laws_toAndS.l0.eq_2 ..), hy⟩
  | succ d ih =>
    intro i ys hi hy
    have hwi := wnat i (by omega)
    obtain ⟨r, hr, hl2⟩ := ih (i + 1) (ys.set i (⟨(rd_T113 l (i : Int)).f0, (rd_T113 l (i : Int)).f1⟩ : S92)) (by omega) (by simpa using hy)
    refine ⟨r, Ev.step ?_ (fun k => laws_toAndS.l0.eq_2 ..), hl2⟩
    rw [hwi, Int.toNat_natCast]
    exact Ev.pos (by omega) (Ev.pos (by omega) (Ev.bind (Ev.const (by unfold laws_toAnd.f; rfl)) (Ev.pos (by omega) hr)))
theorem to_circuit (a : Int) (l : List S113) (hl : l.length ≤ 1048576) : ∃ L, Ev (fun k => laws_toCircuit.f k a l) (a, L) ∧ L.length = l.length := by
  obtain ⟨r, hr, hl2⟩ := to_gates_loop l hl l.length 0 (List.replicate l.length z92) (by omega) (by simp)
  refine ⟨r, ?_, hl2⟩
  unfold laws_toCircuit.f
  refine Ev.bind (a := r) ?_ (Ev.val _)
  unfold laws_toAndS.f
  refine Ev.pos (by omega) (Ev.pos (by omega) ?_)
  rw [Int.toNat_natCast]
  exact hr
theorem eq_gates_loop (l : List S92) (hl : l.length ≤ 4611686018427387904) : ∀ (d i : Nat), i + d = l.length → Ev (fun k => laws_eqAndS.l0 k l l (i : Int)) true := by
  intro d
  induction d with
  | zero =>
    intro i hi
    exact Ev.step (Ev.neg (by omega) (Ev.val _)) (fun k => laws_eqAndS.l0.eq_2 ..)
  | succ d ih =>
    intro i hi
    have hwi : wrap64 ((i : Int) + 1) = ((i + 1 : Nat) : Int) := by rw [w_id (by omega) (by omega)]; omega
    refine Ev.step ?_ (fun k => laws_eqAndS.l0.eq_2 ..)
    rw [hwi]
    exact Ev.pos (by omega) (Ev.pos (by omega) (Ev.pos (by omega) (Ev.bind (Ev.const (by unfold laws_eqAnd.f; simp)) (Ev.pos rfl (ih (i + 1) (by omega))))))
theorem eq_circuit (a : Int) (l : List S92) (hl : l.length ≤ 4611686018427387904) : Ev (fun k => laws_eqCircuit.f k a l a l) true := by
  unfold laws_eqCircuit.f
  refine Ev.pos rfl (Ev.bind (a := true) ?_ (Ev.pos rfl (Ev.val _)))
  unfold laws_eqAndS.f
  exact Ev.pos rfl (eq_gates_loop l hl l.length 0 (by omega))
theorem rdSetG {L : List S92} {i : Nat} (x : S92) (h : i < L.length) : rd_T92 (L.set i x) (i : Int) = x := by rw [rdG (by simpa using h), List.getElem_set_self]
/-- The numbers that the law writes into gates. -/
def markG (c : Nat) : S92 := ⟨1 + 2 * (c : Int), 2 + 2 * (c : Int)⟩
theorem mark_gates_loop (n : Nat) (hn : n ≤ 1048576) : ∀ (d i : Nat) (c : Int) (ys : List S92), i + d = n → ys.length = n → c = 1 + 2 * (i : Int) → (∀ q (h : q < ys.length), q < i → ys[q] = markG q) →
    ∃ zs, Ev (fun k => laws_markAndS.l0 k ys c (i : Int)) (1 + 2 * (n : Int), zs) ∧ zs.length = n ∧ ∀ q (h : q < zs.length), zs[q] = markG q := by
  intro d
  induction d with
  | zero =>
    intro i c ys hi hy hc hq
    have : i = n := by omega
    subst this
    subst hc
    exact ⟨ys, Ev.step (Ev.neg (by omega) (Ev.val _)) (fun k => laws_markAndS.l0.eq_2 ..), hy, fun q h => hq q h (by omega)⟩
  | succ d ih =>
    intro i c ys hi hy hc hq
    have hwi := wnat i (by omega)
    have w1 : wrap64 (c + 1) = c + 1 := w_id (by omega) (by omega)
    have w2 : wrap64 (c + 1 + 1) = c + 1 + 1 := w_id (by omega) (by omega)
    have hil : i < ys.length := by omega
    have key := ih (i + 1) (c + 1 + 1) (ys.set i (markG i)) (by omega) (by simpa using hy) (by omega) (fun q h hqi => by
      rw [List.length_set] at h
      by_cases e : q = i
      · subst e
        rw [List.getElem_set_self]
      · rw [List.getElem_set_ne (fun e2 => e e2.symm)]
        exact hq q h (by omega))
    obtain ⟨zs, e1, e2, e3⟩ := key
    refine ⟨zs, Ev.step ?_ (fun k => laws_markAndS.l0.eq_2 ..), e2, e3⟩
    simp only [w1, w2, hwi, Int.toNat_natCast, Option.bind_some]
    refine Ev.pos (by omega) (Ev.pos (by omega) ?_)
    rw [rdSetG _ hil, List.set_set]
    have e4 : (⟨c, c + 1⟩ : S92) = markG i := by
      unfold markG
      rw [hc]
      congr 1
      omega
    rw [e4]
    exact e1
theorem mark_circuit (a : Int) (l : List S92) (hl : l.length ≤ 1048576) : ∃ zs, Ev (fun k => laws_markCircuit.f k a l 1) (1 + 2 * (l.length : Int), zs) ∧ zs.length = l.length ∧ ∀ q (h : q < zs.length), zs[q] = markG q := by
  obtain ⟨zs, h1, h2, h3⟩ := mark_gates_loop l.length hl l.length 0 1 l (by omega) rfl (by omega) (fun q h hq => absurd hq (by omega))
  refine ⟨zs, ?_, h2, h3⟩
  unfold laws_markCircuit.f
  refine Ev.bind (a := (1 + 2 * (l.length : Int), zs)) ?_ (Ev.val _)
  unfold laws_markAndS.f
  exact h1
/-! #### the law's marks in circuits -/
theorem held_gates_loop (zs : List S92) (hn : zs.length ≤ 1048576) (hz : ∀ q (h : q < zs.length), zs[q] = markG q) : ∀ (d i : Nat) (c : Int), i + d = zs.length → c = 1 + 2 * (i : Int) → Ev (fun k => laws_heldAndS.l0 k zs c (i : Int)) (1 + 2 * (zs.length : Int)) := by
  intro d
  induction d with
  | zero =>
    intro i c hi hc
    subst hc
    exact Ev.step (Ev.neg (by omega) (Ev.valEq (by omega))) (fun k => laws_heldAndS.l0.eq_2 ..)
  | succ d ih =>
    intro i c hi hc
    have hwi := wnat i (by omega)
    have w1 : wrap64 (c + 1) = c + 1 := w_id (by omega) (by omega)
    have w2 : wrap64 (c + 1 + 1) = c + 1 + 1 := w_id (by omega) (by omega)
    have hil : i < zs.length := by omega
    refine Ev.step ?_ (fun k => laws_heldAndS.l0.eq_2 ..)
    simp only [w1, w2, hwi]
    rw [rdG hil, hz i hil]
    exact Ev.pos (by omega) (Ev.pos (by omega) (Ev.pos (by unfold markG; simp only; omega) (Ev.pos (by unfold markG; simp only; omega) (ih (i + 1) _ (by omega) (by omega)))))
theorem held_circuit (a : Int) (zs : List S92) (hn : zs.length ≤ 1048576) (hz : ∀ q (h : q < zs.length), zs[q] = markG q) : Ev (fun k => laws_heldCircuit.f k a zs 1) (1 + 2 * (zs.length : Int)) := by
  unfold laws_heldCircuit.f
  refine Ev.bind (a := 1 + 2 * (zs.length : Int)) ?_ (Ev.neg (by omega) (Ev.val _))
  unfold laws_heldAndS.f
  exact held_gates_loop zs hn hz zs.length 0 1 (by omega) (by omega)
/-! #### gates that are added once: the reference and the program -/
theorem xor_val (m n : Nat) (hm : m < 2 ^ 62) (hn : n < 2 ^ 62) : Go.bits .xor .i64 (m : Int) (n : Int) = ((m ^^^ n : Nat) : Int) := by
  have hx := Nat.xor_lt_two_pow hm hn
  have e : (BitVec.ofInt 64 (m : Int) ^^^ BitVec.ofInt 64 (n : Int)).toNat = m ^^^ n := by
    rw [BitVec.ofInt_natCast, BitVec.ofInt_natCast, BitVec.toNat_xor, BitVec.toNat_ofNat, BitVec.toNat_ofNat, Nat.mod_eq_of_lt (by omega), Nat.mod_eq_of_lt (by omega)]
  have e2 : Go.bits .xor .i64 (m : Int) (n : Int) = IntKind.i64.wrap ((BitVec.ofInt 64 (m : Int) ^^^ BitVec.ofInt 64 (n : Int)).toNat : Int) := rfl
  rw [e2, e, IntKind.wrap_i64]
  omega
/-- The contrary of an edge. -/
def notE (x : Int) : Int := x + 1 - 2 * (x % 2)
theorem xor_one {x : Int} (h0 : 0 ≤ x) (h1 : x ≤ 1000000000) : Go.bits .xor .i64 x 1 = notE x := by
  obtain ⟨n, rfl⟩ := Int.eq_ofNat_of_zero_le h0
  have := xor_val n 1 (by omega) (by decide)
  rw [show ((1 : Nat) : Int) = 1 from rfl] at this
  rw [this]
  have a : (n ^^^ 1) / 2 = n / 2 := by rw [Nat.xor_div_two]; simp
  have b := @Nat.xor_mod_two_eq_one n 1
  unfold notE
  omega
theorem xor_zero {x : Int} (h0 : 0 ≤ x) (h1 : x ≤ 1000000000) : Go.bits .xor .i64 x 0 = x := by
  obtain ⟨n, rfl⟩ := Int.eq_ofNat_of_zero_le h0
  have := xor_val n 0 (by omega) (by decide)
  rw [Nat.xor_zero] at this
  exact this
def cfind (G : List S92) (x : S92) : Option Nat := G.findIdx? (fun y => decide (y = x))
theorem cfind_at {G : List S92} {x : S92} {i : Nat} (hi : i < G.length) (h : G[i] = x) (hn : ∀ q (hq : q < G.length), q < i → G[q] ≠ x) : cfind G x = some i := by
  unfold cfind
  rw [List.findIdx?_eq_some_iff_getElem]
  exact ⟨hi, decide_eq_true h, fun j hj => by simpa using hn j (by omega) hj⟩
theorem cfind_no {G : List S92} {x : S92} (hn : ∀ q (hq : q < G.length), G[q] ≠ x) : cfind G x = none := by
  unfold cfind
  rw [List.findIdx?_eq_none_iff]
  intro y hy
  obtain ⟨q, hq, rfl⟩ := List.mem_iff_getElem.1 hy
  simpa using hn q hq
theorem cfind_lt {G : List S92} {x : S92} {i : Nat} (h : cfind G x = some i) : i < G.length := by
  unfold cfind at h
  rw [List.findIdx?_eq_some_iff_getElem] at h
  exact h.1
theorem cfind_ne {G : List S92} {x : S92} (h : cfind G x = none) : ∀ q (hq : q < G.length), G[q] ≠ x := by
  unfold cfind at h
  rw [List.findIdx?_eq_none_iff] at h
  intro q hq
  simpa using h G[q] (List.getElem_mem hq)
theorem cfind_snoc (G : List S92) {x : S92} (hx : cfind G x = none) (y : S92) : cfind (G ++ [x]) y = if y = x then some G.length else cfind G y := by
  by_cases e : y = x
  · rw [if_pos e, e]
    refine cfind_at (by simp) (by simp) (fun q hq hl => ?_)
    rw [List.getElem_append_left (by omega)]
    exact cfind_ne hx q (by omega)
  · rw [if_neg e]
    cases h : cfind G y with
    | some i =>
      have hi := cfind_lt h
      have h2 := h
      unfold cfind at h2
      rw [List.findIdx?_eq_some_iff_getElem] at h2
      obtain ⟨_, g1, g2⟩ := h2
      refine cfind_at (by simp; omega) (by rw [List.getElem_append_left hi]; exact of_decide_eq_true g1) (fun q hq hl => ?_)
      rw [List.getElem_append_left (by omega)]
      simpa using g2 q hl
    | none =>
      refine cfind_no (fun q hq => ?_)
      by_cases c : q < G.length
      · rw [List.getElem_append_left c]
        exact cfind_ne h q c
      · have hl : q = G.length := by simp at hq; omega
        subst hl
        simp
        exact fun e2 => e e2.symm
/-- And of two edges, the lesser one first. -/
def caddO (inputs : Int) (G : List S92) (a b : Int) : List S92 × Int :=
  if a = 0 then (G, 0) else if a / 2 = b / 2 ∧ a ≠ b then (G, 0) else if a = 1 then (G, b) else if a = b then (G, b) else
  match cfind G ⟨a, b⟩ with
  | some i => (G, 2 * (1 + inputs + (i : Int)))
  | none => if 600 ≤ G.length then (G, -1) else (G ++ [⟨a, b⟩], 2 * (1 + inputs + (G.length : Int)))
def cadd (inputs : Int) (G : List S92) (x y : Int) : List S92 × Int := caddO inputs G (if y < x then y else x) (if x < y then y else x)
theorem find_loop {inputs : Int} (h0 : 0 ≤ inputs) (h12 : inputs ≤ 12) (G : List S92) (hl : G.length ≤ 600) (a b : Int) : ∀ (d i : Nat), i + d = G.length → (∀ q (hq : q < G.length), q < i → G[q] ≠ (⟨a, b⟩ : S92)) →
    Ev (fun k => spec_l7Find.l0 k a b (i : Int) inputs G) (match cfind G ⟨a, b⟩ with | some i => 1 + inputs + (i : Int) | none => -1) := by
  intro d
  induction d with
  | zero =>
    intro i hi hn
    rw [cfind_no (fun q hq => hn q hq (by omega))]
    exact Ev.step (Ev.neg (by omega) (Ev.val _)) (fun k => spec_l7Find.l0.eq_2 ..)
  | succ d ih =>
    intro i hi hn
    have hil : i < G.length := by omega
    refine Ev.step (Ev.pos (by omega) (Ev.pos (by omega) ?_)) (fun k => spec_l7Find.l0.eq_2 ..)
    rw [rdG hil, wsucc i (by omega)]
    by_cases c : G[i] = (⟨a, b⟩ : S92)
    · rw [cfind_at hil c hn, c]
      refine Ev.pos rfl (Ev.pos rfl (Ev.valEq ?_))
      simp only
      rw [w_id (x := 1 + inputs) (by omega) (by omega), w_id (by omega) (by omega)]
    · have nx := ih (i + 1) (by omega) (fun q hq hl => by
        by_cases e : q = i
        · subst e
          exact c
        · exact hn q hq (by omega))
      by_cases c1 : G[i].f0 = a
      · by_cases c2 : G[i].f1 = b
        · refine absurd ?_ c
          generalize G[i] = z at c1 c2
          obtain ⟨z0, z1⟩ := z
          simp only at c1 c2
          rw [c1, c2]
        · exact Ev.pos c1 (Ev.neg c2 nx)
      · exact Ev.neg c1 nx
theorem spec_caddO {inputs : Int} (h0 : 0 ≤ inputs) (h12 : inputs ≤ 12) (G : List S92) (hl : G.length ≤ 600) {a b : Int} (a0 : 0 ≤ a) (a1 : a ≤ 1000000) (b0 : 0 ≤ b) (b1 : b ≤ 1000000) :
    Ev (fun k => spec_l7And.j0 k a b inputs G) (inputs, (caddO inputs G a b).1, (caddO inputs G a b).2) := by
  have ta : wrap64 (Int.tdiv a 2) = a / 2 := by rw [Int.tdiv_eq_ediv_of_nonneg a0, w_id (by omega) (by omega)]
  have tb : wrap64 (Int.tdiv b 2) = b / 2 := by rw [Int.tdiv_eq_ediv_of_nonneg b0, w_id (by omega) (by omega)]
  have y1 : Ev (fun k => spec_l7And.j1 k a b true inputs G) (inputs, G, 0) := Ev.step (Ev.pos rfl (Ev.val _)) (fun k => spec_l7And.j1.eq_2 ..)
  have y2 : Ev (fun k => spec_l7And.j2 k a b true inputs G) (inputs, G, b) := Ev.step (Ev.pos rfl (Ev.val _)) (fun k => spec_l7And.j2.eq_2 ..)
  refine Ev.step ?_ (fun k => spec_l7And.j0.eq_2 ..)
  rw [ta, tb]
  unfold caddO
  by_cases c1 : a = 0
  · rw [if_pos c1]
    exact Ev.pos c1 y1
  rw [if_neg c1]
  refine Ev.neg c1 ?_
  have no : ∀ q : Bool, q = false → ¬ (a / 2 = b / 2 ∧ a ≠ b) → Ev (fun k => spec_l7And.j1 k a b q inputs G) (inputs, (if a / 2 = b / 2 ∧ a ≠ b then (G, 0) else if a = 1 then (G, b) else if a = b then (G, b) else match cfind G ⟨a, b⟩ with | some i => (G, 2 * (1 + inputs + (i : Int))) | none => if 600 ≤ G.length then (G, -1) else (G ++ [⟨a, b⟩], 2 * (1 + inputs + (G.length : Int)))).1, (if a / 2 = b / 2 ∧ a ≠ b then (G, 0) else if a = 1 then (G, b) else if a = b then (G, b) else match cfind G ⟨a, b⟩ with | some i => (G, 2 * (1 + inputs + (i : Int))) | none => if 600 ≤ G.length then (G, -1) else (G ++ [⟨a, b⟩], 2 * (1 + inputs + (G.length : Int)))).2) := by
    intro q hq c2
    rw [hq, if_neg c2]
    refine Ev.step (Ev.neg (by decide) ?_) (fun k => spec_l7And.j1.eq_2 ..)
    by_cases c3 : a = 1
    · rw [if_pos c3]
      exact Ev.pos c3 y2
    rw [if_neg c3]
    refine Ev.neg c3 ?_
    by_cases c4 : a = b
    · rw [if_pos c4, beq_iff_eq.mpr c4]
      exact y2
    rw [if_neg c4, beq_eq_false_iff_ne.mpr c4]
    refine Ev.step (Ev.neg (by decide) (Ev.bind (find_loop h0 h12 G hl a b G.length 0 (by omega) (fun q hq h => absurd h (by omega))) ?_)) (fun k => spec_l7And.j2.eq_2 ..)
    cases hf : cfind G ⟨a, b⟩ with
    | some i =>
      have hi := cfind_lt hf
      refine Ev.pos (by simp only; omega) (Ev.valEq ?_)
      simp only
      rw [w_id (by omega) (by omega)]
    | none =>
      refine Ev.neg (by simp only; omega) ?_
      by_cases c5 : 600 ≤ G.length
      · simp only [if_pos c5]
        exact Ev.pos (by omega) (Ev.val _)
      · simp only [if_neg c5]
        refine Ev.neg (by omega) (Ev.pos (by omega) (Ev.bind (Ev.val _) (Ev.bind (a := 1 + inputs + ((G.length : Int) + 1)) (Ev.const ?_) (Ev.valEq ?_))))
        · unfold spec_l7Nodes.f
          rw [w_id (x := 1 + inputs) (by omega) (by omega), List.length_append, List.length_singleton, w_id (by omega) (by omega)]
          congr 1
        · rw [w_id (x := 1 + inputs + ((G.length : Int) + 1) - 1) (by omega) (by omega), w_id (by omega) (by omega)]
          congr 2
          omega
  by_cases c2 : a / 2 = b / 2
  · refine Ev.pos c2 ?_
    by_cases c3 : a = b
    · exact no _ (bne_eq_false_iff_eq.mpr c3) (fun h => h.2 c3)
    · rw [bne_iff_ne.mpr c3, if_pos ⟨c2, c3⟩]
      exact y1
  · exact Ev.neg c2 (no false rfl (fun h => c2 h.1))
theorem spec_cadd {inputs : Int} (h0 : 0 ≤ inputs) (h12 : inputs ≤ 12) (G : List S92) (hl : G.length ≤ 600) {x y : Int} (a0 : 0 ≤ x) (a1 : x ≤ 1000000) (b0 : 0 ≤ y) (b1 : y ≤ 1000000) :
    Ev (fun k => spec_l7And.f k inputs G x y) (inputs, (cadd inputs G x y).1, (cadd inputs G x y).2) := by
  unfold spec_l7And.f cadd
  by_cases c : x > y
  · rw [if_pos (show y < x by omega), if_neg (show ¬ x < y by omega)]
    exact Ev.pos c (spec_caddO h0 h12 G hl b0 b1 a0 a1)
  · rw [if_neg (show ¬ y < x by omega)]
    by_cases c2 : x < y
    · rw [if_pos c2]
      exact Ev.neg c (spec_caddO h0 h12 G hl a0 a1 b0 b1)
    · have e : x = y := by omega
      subst e
      rw [if_neg c2]
      exact Ev.neg c (spec_caddO h0 h12 G hl a0 a1 a0 a1)
/-- The state of a circuit that grows. -/
structure CB (inputs : Int) (G : List S92) (s : BS) : Prop where
  ins : s.inputs = inputs
  gates : s.gates = G
  full : s.full = false
  seen : ∀ y, s.seen y = (cfind G y).map (fun (i : Nat) => 2 * (1 + inputs + (i : Int)))
theorem and_cadd {inputs : Int} (h0 : 0 ≤ inputs) (h12 : inputs ≤ 12) {G : List S92} (hl : G.length ≤ 600) {s : BS} (h : CB inputs G s) {x y : Int} (x0 : 0 ≤ x) (x1 : x ≤ 1000000) (y0 : 0 ≤ y) (y1 : y ≤ 1000000) :
    (0 ≤ (cadd inputs G x y).2 → ∃ s', impl_builder_and.f s x y = some (s', (cadd inputs G x y).2) ∧ CB inputs (cadd inputs G x y).1 s') ∧ ((cadd inputs G x y).2 < 0 → impl_builder_and.f s x y = some ({ s with full := true }, 0)) := by
  unfold cadd impl_builder_and.f
  obtain ⟨a, ha⟩ : ∃ a, (if y < x then y else x) = a := ⟨_, rfl⟩
  obtain ⟨b, hb⟩ : ∃ b, (if x < y then y else x) = b := ⟨_, rfl⟩
  rw [ha, hb]
  have a0 : 0 ≤ a ∧ a ≤ 1000000 := by rw [← ha]; split <;> omega
  have b0 : 0 ≤ b ∧ b ≤ 1000000 := by rw [← hb]; split <;> omega
  rw [xor_one a0.1 (by omega)]
  unfold caddO
  by_cases c1 : a = 0
  · rw [if_pos c1, if_pos c1]
    exact ⟨fun _ => ⟨s, rfl, h⟩, fun h => absurd (show (0 : Int) < 0 from h) (by decide)⟩
  rw [if_neg c1, if_neg c1]
  by_cases c2 : a / 2 = b / 2 ∧ a ≠ b
  · rw [if_pos c2, if_pos (show notE a = b by unfold notE; omega)]
    exact ⟨fun _ => ⟨s, rfl, h⟩, fun h => absurd (show (0 : Int) < 0 from h) (by decide)⟩
  rw [if_neg c2, if_neg (show ¬ notE a = b by unfold notE; omega)]
  by_cases c3 : a = 1
  · rw [if_pos c3, if_pos c3]
    exact ⟨fun _ => ⟨s, rfl, h⟩, fun h => absurd h (by simp only; omega)⟩
  rw [if_neg c3, if_neg c3]
  by_cases c4 : a = b
  · rw [if_pos c4, if_pos c4]
    exact ⟨fun _ => ⟨s, rfl, h⟩, fun h => absurd h (by simp only; omega)⟩
  rw [if_neg c4, if_neg c4]
  unfold impl_builder_and.put
  rw [if_pos (show okA ⟨a, b⟩ from ⟨⟨a0.1, by show a ≤ 9223372036854775807; omega⟩, ⟨b0.1, by show b ≤ 9223372036854775807; omega⟩⟩), h.seen]
  cases hf : cfind G ⟨a, b⟩ with
  | some i =>
    simp only [Option.map_some]
    exact ⟨fun _ => ⟨s, rfl, h⟩, fun h => absurd h (by omega)⟩
  | none =>
    simp only [Option.map_none]
    rw [h.gates]
    by_cases c5 : 600 ≤ G.length
    · simp only [if_pos c5]
      rw [if_pos (by omega)]
      exact ⟨fun h => absurd h (by decide), fun _ => by first | rfl | rw [← h.gates]⟩
    · simp only [if_neg c5]
      rw [if_neg (by omega)]
      have e : wrap64 (2 * (wrap64 (s.inputs + ((G.length : Int) + 1)))) = 2 * (1 + inputs + (G.length : Int)) := by
        rw [h.ins, w_id (x := inputs + ((G.length : Int) + 1)) (by omega) (by omega), w_id (by omega) (by omega)]
        omega
      rw [e]
      refine ⟨fun _ => ⟨_, rfl, h.ins, rfl, h.full, fun y => ?_⟩, fun h => absurd h (by omega)⟩
      rw [cfind_snoc G hf y]
      simp only
      by_cases ey : y = ⟨a, b⟩
      · rw [if_pos ey, if_pos ey]
        rfl
      · rw [if_neg ey, if_neg ey]
        exact h.seen y
/-- Which edges there are behind. -/
theorem cadd_bound {inputs : Int} (h0 : 0 ≤ inputs) {G : List S92} (hl : G.length < 600) {x y : Int} (x0 : 0 ≤ x) (x1 : x < 2 * (1 + inputs + (G.length : Int))) (y0 : 0 ≤ y) (y1 : y < 2 * (1 + inputs + (G.length : Int))) :
    0 ≤ (cadd inputs G x y).2 ∧ (cadd inputs G x y).2 < 2 * (1 + inputs + ((cadd inputs G x y).1.length : Int)) ∧ G.length ≤ (cadd inputs G x y).1.length ∧ (cadd inputs G x y).1.length ≤ G.length + 1 := by
  unfold cadd
  obtain ⟨a, ha⟩ : ∃ a, (if y < x then y else x) = a := ⟨_, rfl⟩
  obtain ⟨b, hb⟩ : ∃ b, (if x < y then y else x) = b := ⟨_, rfl⟩
  rw [ha, hb]
  have b0 : 0 ≤ b ∧ b < 2 * (1 + inputs + (G.length : Int)) := by rw [← hb]; split <;> omega
  unfold caddO
  by_cases c1 : a = 0
  · rw [if_pos c1]
    exact ⟨Int.le_refl _, by simp only; omega, Nat.le_refl _, by simp⟩
  rw [if_neg c1]
  by_cases c2 : a / 2 = b / 2 ∧ a ≠ b
  · rw [if_pos c2]
    exact ⟨Int.le_refl _, by simp only; omega, Nat.le_refl _, by simp⟩
  rw [if_neg c2]
  by_cases c3 : a = 1
  · rw [if_pos c3]
    exact ⟨b0.1, b0.2, Nat.le_refl _, by simp⟩
  rw [if_neg c3]
  by_cases c4 : a = b
  · rw [if_pos c4]
    exact ⟨b0.1, b0.2, Nat.le_refl _, by simp⟩
  rw [if_neg c4]
  cases hf : cfind G ⟨a, b⟩ with
  | some i =>
    have := cfind_lt hf
    exact ⟨by simp only; omega, by simp only; omega, Nat.le_refl _, by simp⟩
  | none =>
    simp only [if_neg (show ¬ 600 ≤ G.length by omega), List.length_append, List.length_singleton]
    exact ⟨by omega, by omega, by omega, by omega⟩
/-! #### an input as a constant: the reference and the program -/
def sgn (E : List Int) (e : Int) : Int := if e % 2 = 1 then notE (rd E (e / 2)) else rd E (e / 2)
def fxL (inputs : Int) : List S92 → List S92 → List Int → List S92 × List Int
  | [], G, E => (G, E)
  | g :: gs, G, E => fxL inputs gs (cadd inputs G (sgn E g.f0) (sgn E g.f1)).1 (E ++ [(cadd inputs G (sgn E g.f0) (sgn E g.f1)).2])
/-- Each edge is one of the circuit. -/
def FB (inputs : Int) (G : List S92) (E : List Int) : Prop := ∀ z : Int, 0 ≤ z → z < (E.length : Int) → 0 ≤ rd E z ∧ rd E z < 2 * (1 + inputs + (G.length : Int))
theorem sgn_bound {inputs : Int} {G : List S92} {E : List Int} (h : FB inputs G E) {e : Int} (e0 : 0 ≤ e) (e1 : e < 2 * (E.length : Int)) : 0 ≤ sgn E e ∧ sgn E e < 2 * (1 + inputs + (G.length : Int)) := by
  have := h (e / 2) (by omega) (by omega)
  unfold sgn notE
  split <;> omega
theorem rd_snoc {E : List Int} {v z : Int} (h0 : 0 ≤ z) (h : z < ((E ++ [v]).length : Int)) : (z < (E.length : Int) ∧ rd (E ++ [v]) z = rd E z) ∨ (z = (E.length : Int) ∧ rd (E ++ [v]) z = v) := by
  obtain ⟨n, rfl⟩ := Int.eq_ofNat_of_zero_le h0
  simp only [List.length_append, List.length_singleton] at h
  by_cases c : n < E.length
  · exact .inl ⟨by omega, rd_app_lt c⟩
  · have e : n = E.length := by omega
    subst e
    exact .inr ⟨rfl, rd_app_eq⟩
theorem fb_step {inputs : Int} (h0 : 0 ≤ inputs) {G : List S92} {E : List Int} (h : FB inputs G E) (hl : G.length < 600) {e f : Int} (e0 : 0 ≤ e) (e1 : e < 2 * (E.length : Int)) (f0 : 0 ≤ f) (f1 : f < 2 * (E.length : Int)) :
    0 ≤ (cadd inputs G (sgn E e) (sgn E f)).2 ∧ (cadd inputs G (sgn E e) (sgn E f)).1.length ≤ G.length + 1 ∧ FB inputs (cadd inputs G (sgn E e) (sgn E f)).1 (E ++ [(cadd inputs G (sgn E e) (sgn E f)).2]) := by
  obtain ⟨a0, a1⟩ := sgn_bound h e0 e1
  obtain ⟨b0, b1⟩ := sgn_bound h f0 f1
  obtain ⟨c1, c2, c3, c4⟩ := cadd_bound h0 hl a0 a1 b0 b1
  refine ⟨c1, c4, fun z z0 z1 => ?_⟩
  rcases rd_snoc z0 z1 with ⟨h2, e⟩ | ⟨_, e⟩
  · rw [e]
    have := h z z0 h2
    omega
  · rw [e]
    exact ⟨c1, c2⟩
theorem half_w {e : Int} (h0 : 0 ≤ e) (h1 : e ≤ 1000000) : wrap64 (Int.tdiv e 2) = e / 2 := by rw [Int.tdiv_eq_ediv_of_nonneg h0, w_id (by omega) (by omega)]
theorem not_val {x : Int} (h0 : 0 ≤ x) (h1 : x ≤ 1000000) : spec_l7Not.f x = some (notE x) := by
  unfold spec_l7Not.f notE
  rw [if_neg (by omega), half_w h0 h1, Int.tmod_eq_emod_of_nonneg h0, w_id (x := x / 2 * 2) (by omega) (by omega), w_id (x := x / 2 * 2 + 1) (by omega) (by omega), w_id (by omega) (by omega)]
  congr 1
  omega
theorem at_val {E : List Int} {e : Int} (h0 : 0 ≤ e) (h1 : e ≤ 1000000) (b : 0 ≤ rd E (e / 2) ∧ rd E (e / 2) ≤ 1000000) : impl_Fixed.at_ E e = sgn E e := by
  unfold impl_Fixed.at_ sgn
  rw [half_w h0 h1, and_one e h0 (by omega)]
  by_cases c : e % 2 = 1
  · rw [if_pos c, c, xor_one b.1 (by omega)]
  · rw [if_neg c, show e % 2 = 0 by omega, xor_zero b.1 (by omega)]
theorem fx_len (inputs : Int) : ∀ (L : List S92) (G : List S92) (E : List Int), (fxL inputs L G E).2.length = E.length + L.length := by
  intro L
  induction L with
  | nil => intro G E; rfl
  | cons g gs ih =>
    intro G E
    unfold fxL
    rw [ih, List.length_append, List.length_singleton, List.length_cons]
    omega
/-- Both go through the gates side by side. -/
theorem fx_both {inputs : Int} {L : List S92} (hc : CV inputs L) {edge : Int} (he : 0 ≤ edge ∧ edge ≤ 2 * (1 + inputs + (L.length : Int)) - 1) : ∀ (d i : Nat) (G : List S92) (E : List Int) (s : BS), i + d = L.length → G.length ≤ i → (E.length : Int) = 1 + inputs + i → FB inputs G E → CB inputs G s →
    Ev (fun k => spec_Fixed.l1 k edge E (i : Int) inputs L inputs G) (inputs, (fxL inputs (L.drop i) G E).1, sgn (fxL inputs (L.drop i) G E).2 edge) ∧
    (∃ s', impl_Fixed.lp (L.drop i) s E = some (s', (fxL inputs (L.drop i) G E).2) ∧ CB inputs (fxL inputs (L.drop i) G E).1 s') ∧ FB inputs (fxL inputs (L.drop i) G E).1 (fxL inputs (L.drop i) G E).2 ∧ (fxL inputs (L.drop i) G E).1.length ≤ L.length := by
  have h0 := hc.i0
  have h12 := hc.i12
  have hl := hc.len
  intro d
  induction d with
  | zero =>
    intro i G E s hi hg hE hb hs
    rw [List.drop_of_length_le (by omega)]
    refine ⟨?_, ⟨s, rfl, hs⟩, hb, by show G.length ≤ L.length; omega⟩
    have hr := hb (edge / 2) (by omega) (by omega)
    refine Ev.step (Ev.neg (by omega) ?_) (fun k => spec_Fixed.l1.eq_2 ..)
    rw [half_w he.1 (by omega), Int.tmod_eq_emod_of_nonneg he.1]
    refine Ev.pos (by omega) (Ev.pos (by omega) ?_)
    show Ev _ (inputs, G, sgn E edge)
    by_cases c : edge % 2 = 1
    · have e : sgn E edge = notE (rd E (edge / 2)) := by unfold sgn; rw [if_pos c]
      rw [e]
      exact Ev.pos c (Ev.bind (Ev.const (not_val hr.1 (by omega))) (Ev.val _))
    · have e : sgn E edge = rd E (edge / 2) := by unfold sgn; rw [if_neg c]
      rw [e]
      exact Ev.neg c (Ev.val _)
  | succ d ih =>
    intro i G E s hi hg hE hb hs
    have hil : i < L.length := by omega
    obtain ⟨⟨g1, g2⟩, g3, g4⟩ := hc.ok i hil
    have e1 : L[i].f0 < 2 * (E.length : Int) := by omega
    have f1 : L[i].f1 < 2 * (E.length : Int) := by omega
    obtain ⟨p1, p2, p3⟩ := fb_step h0 hb (by omega) g1 e1 g3 f1
    obtain ⟨a0, a1⟩ := sgn_bound hb g1 e1
    obtain ⟨b0, b1⟩ := sgn_bound hb g3 f1
    have ra := hb (L[i].f0 / 2) (by omega) (by omega)
    have rb := hb (L[i].f1 / 2) (by omega) (by omega)
    obtain ⟨s', s1, s2⟩ := (and_cadd h0 h12 (by omega) hs (x := sgn E L[i].f0) (y := sgn E L[i].f1) a0 (by omega) b0 (by omega)).1 p1
    have nx := ih (i + 1) _ _ s' (by omega) (by omega) (by simp; omega) p3 s2
    rw [List.drop_eq_getElem_cons hil]
    obtain ⟨n1, ⟨s3, n2, n3⟩, n4, n5⟩ := nx
    refine ⟨?_, ⟨s3, ?_, n3⟩, n4, n5⟩
    · have sa := spec_cadd h0 h12 G (by omega) a0 (show sgn E L[i].f0 ≤ 1000000 by omega) b0 (show sgn E L[i].f1 ≤ 1000000 by omega)
      have j3 : ∀ v, v = sgn E L[i].f0 → Ev (fun k => spec_Fixed.j3 k edge E (i : Int) v inputs L inputs G) (inputs, (fxL inputs (L[i] :: L.drop (i + 1)) G E).1, sgn (fxL inputs (L[i] :: L.drop (i + 1)) G E).2 edge) := by
        intro v hv
        subst hv
        refine Ev.step ?_ (fun k => spec_Fixed.j3.eq_2 ..)
        rw [rdG hil, half_w g3 (by omega), Int.tmod_eq_emod_of_nonneg g3, wsucc i (by omega)]
        refine Ev.pos (by omega) (Ev.pos (by omega) (Ev.pos (by omega) (Ev.pos (by omega) ?_)))
        by_cases c : L[i].f1 % 2 = 1
        · have e : notE (rd E (L[i].f1 / 2)) = sgn E L[i].f1 := by unfold sgn; rw [if_pos c]
          refine Ev.pos c (Ev.bind (Ev.const (not_val rb.1 (by omega))) ?_)
          rw [e]
          exact Ev.bind sa (Ev.pos (by omega) n1)
        · have e : rd E (L[i].f1 / 2) = sgn E L[i].f1 := by unfold sgn; rw [if_neg c]
          rw [e]
          exact Ev.neg c (Ev.bind sa (Ev.pos (by omega) n1))
      refine Ev.step ?_ (fun k => spec_Fixed.l1.eq_2 ..)
      rw [rdG hil, half_w g1 (by omega), Int.tmod_eq_emod_of_nonneg g1]
      refine Ev.pos (by omega) (Ev.pos (by omega) (Ev.pos (by omega) (Ev.pos (by omega) ?_)))
      by_cases c : L[i].f0 % 2 = 1
      · exact Ev.pos c (Ev.bind (Ev.const (not_val ra.1 (by omega))) (j3 _ (by unfold sgn; rw [if_pos c])))
      · exact Ev.neg c (j3 _ (by unfold sgn; rw [if_neg c]))
    · unfold impl_Fixed.lp
      have i0 : impl_Fixed.in_ E L[i].f0 := by
        unfold impl_Fixed.in_
        rw [half_w g1 (by omega)]
        omega
      have i1 : impl_Fixed.in_ E L[i].f1 := by
        unfold impl_Fixed.in_
        rw [half_w g3 (by omega)]
        omega
      rw [if_pos ⟨i0, i1, by omega⟩, at_val g1 (by omega) ⟨ra.1, by omega⟩, at_val g3 (by omega) ⟨rb.1, by omega⟩, s1]
      exact n2
/-- The edges of the nodes that are inputs. -/
def e0L (m : Nat) (input value : Int) : List Int := (List.range (m + 1)).map (fun j => if ((j : Nat) : Int) = input + 1 then value else 2 * ((j : Nat) : Int))
theorem e0_len (m : Nat) (input value : Int) : (e0L m input value).length = m + 1 := by simp [e0L]
theorem e0_get {m : Nat} {input value : Int} {j : Nat} (h : j < m + 1) : rd (e0L m input value) (j : Int) = if (j : Int) = input + 1 then value else 2 * (j : Int) := by
  rw [rd_lt (by rw [e0_len]; exact h)]
  simp [e0L]
theorem to0_len (n : Nat) : (impl_Fixed.to0 n).length = n := by simp [impl_Fixed.to0]
theorem e0_impl {m : Nat} (hm : m ≤ 12) {input value : Int} (i0 : 0 ≤ input) (i1 : input ≤ (m : Int) - 1) : (impl_Fixed.to0 (m + 1)).set (wrap64 (input + 1)).toNat value = e0L m input value := by
  rw [w_id (by omega) (by omega)]
  refine list_eq_rd (by rw [List.length_set, to0_len, e0_len]) (fun j hj => ?_)
  rw [List.length_set, to0_len] at hj
  rw [e0_get hj]
  by_cases e : (j : Int) = input + 1
  · rw [if_pos e, show (input + 1).toNat = j by omega, rd_set_eq (by rw [to0_len]; exact hj)]
  · rw [if_neg e, rd_set_ne (by omega), rd_lt (by rw [to0_len]; exact hj)]
    simp only [impl_Fixed.to0, List.getElem_map, List.getElem_range]
    rw [w_id (by omega) (by omega)]
theorem e0_spec {m : Nat} (hm : m ≤ 12) {L : List S92} {edge input value : Int} (i0 : 0 ≤ input) (r : Int × List S92 × Int) (rest : Ev (fun k => spec_Fixed.l1 k edge (e0L m input value) 0 (m : Int) L (m : Int) []) r) : ∀ (d i : Nat), i + d = m →
    Ev (fun k => spec_Fixed.l0 k edge input value ((e0L m input value).take (i + 1)) (i : Int) (m : Int) L (m : Int)) r := by
  intro d
  induction d with
  | zero =>
    intro i hi
    rw [List.take_of_length_le (by rw [e0_len]; omega)]
    exact Ev.step (Ev.neg (by omega) rest) (fun k => spec_Fixed.l0.eq_2 ..)
  | succ d ih =>
    intro i hi
    have nx := ih (i + 1) (by omega)
    have hg := e0_get (m := m) (input := input) (value := value) (j := i + 1) (by omega)
    rw [rd_lt (by rw [e0_len]; omega)] at hg
    have et : (e0L m input value).take (i + 1 + 1) = (e0L m input value).take (i + 1) ++ [if ((i + 1 : Nat) : Int) = input + 1 then value else 2 * ((i + 1 : Nat) : Int)] := by
      rw [List.take_add_one, List.getElem?_eq_getElem (by rw [e0_len]; omega), hg]
      rfl
    rw [et] at nx
    have tl : ((e0L m input value).take (i + 1)).length ≤ 14 := by rw [List.length_take, e0_len]; omega
    refine Ev.step (Ev.pos (by omega) ?_) (fun k => spec_Fixed.l0.eq_2 ..)
    rw [wsucc i (by omega)]
    by_cases c : (i : Int) = input
    · rw [if_pos (by omega)] at nx
      exact Ev.pos c (Ev.pos (by omega) nx)
    · rw [if_neg (by omega)] at nx
      have e : wrap64 (2 * (wrap64 (1 + (i : Int)))) = 2 * ((i + 1 : Nat) : Int) := by rw [w_id (x := 1 + (i : Int)) (by omega) (by omega), w_id (by omega) (by omega)]; omega
      rw [e]
      exact Ev.neg c (Ev.pos (by omega) nx)
def FixAsk (inputs : Int) (L : List S92) (edge input value : Int) : Prop := CV inputs L ∧ (0 ≤ edge ∧ edge ≤ 2 * (1 + inputs + (L.length : Int)) - 1) ∧ (0 ≤ input ∧ input ≤ inputs - 1) ∧ (0 ≤ value ∧ value ≤ 1)
def fixed (inputs : Int) (L : List S92) (input value : Int) : List S92 × List Int := fxL inputs L [] (e0L inputs.toNat input value)
def FixIs (inputs : Int) (L : List S92) (edge input value : Int) (r : Int × List S92 × Int) : Prop :=
  (FixAsk inputs L edge input value → r = (inputs, (fixed inputs L input value).1, sgn (fixed inputs L input value).2 edge)) ∧ (¬ FixAsk inputs L edge input value → r = (0, [], -1))
theorem cb_nil (inputs : Int) : CB inputs [] ⟨inputs, [], fun _ => none, false⟩ := ⟨rfl, rfl, rfl, fun _ => rfl⟩
theorem fb_e0 {inputs : Int} {m : Nat} (hm : (m : Int) = inputs) {input value : Int} (v0 : 0 ≤ value) (v1 : value ≤ 1) : FB inputs [] (e0L m input value) := fun z z0 z1 => by
  obtain ⟨j, rfl⟩ := Int.eq_ofNat_of_zero_le z0
  rw [e0_len] at z1
  rw [e0_get (by omega)]
  simp only [List.length_nil]
  split <;> omega
theorem fix_run {inputs : Int} {L : List S92} {edge input value : Int} (h : FixAsk inputs L edge input value) :
    Ev (fun k => spec_Fixed.l0 k edge input value [0] 0 inputs L inputs) (inputs, (fixed inputs L input value).1, sgn (fixed inputs L input value).2 edge) ∧
    (∃ s', impl_Fixed.lp L ⟨inputs, [], fun _ => none, false⟩ (e0L inputs.toNat input value) = some (s', (fixed inputs L input value).2) ∧ CB inputs (fixed inputs L input value).1 s') ∧ FB inputs (fixed inputs L input value).1 (fixed inputs L input value).2 ∧ (fixed inputs L input value).1.length ≤ L.length := by
  obtain ⟨hc, he, hi, hv⟩ := h
  have h12 := hc.i12
  obtain ⟨m, rfl⟩ := Int.eq_ofNat_of_zero_le hc.i0
  obtain ⟨k1, k2, k3, k4⟩ := fx_both hc he L.length 0 [] (e0L m input value) _ (by omega) (Nat.zero_le _) (by rw [e0_len]; omega) (fb_e0 rfl hv.1 hv.2) (cb_nil (m : Int))
  rw [List.drop_zero] at k1 k2 k3 k4
  unfold fixed
  rw [Int.toNat_natCast]
  refine ⟨?_, k2, k3, k4⟩
  have := e0_spec (m := m) (by omega) hi.1 _ k1 m 0 (by omega)
  have e : (e0L m input value).take (0 + 1) = [0] := by
    have := e0_get (m := m) (input := input) (value := value) (j := 0) (by omega)
    rw [rd_lt (by rw [e0_len]; omega), if_neg (by omega)] at this
    rw [List.take_add_one, List.take_zero, List.getElem?_eq_getElem (by rw [e0_len]; omega), this]
    rfl
  rw [e] at this
  exact this
theorem fixIs_ex (inputs : Int) (L : List S92) (edge input value : Int) : ∃ r, FixIs inputs L edge input value r ∧ r.2.1.length ≤ 600 := by
  by_cases c : FixAsk inputs L edge input value
  · refine ⟨_, ⟨fun _ => rfl, fun h => absurd c h⟩, ?_⟩
    have := (fix_run c).2.2.2
    have := c.1.len
    show (fixed inputs L input value).1.length ≤ 600
    omega
  · exact ⟨(0, [], -1), ⟨fun h => absurd h c, fun _ => rfl⟩, Nat.zero_le _⟩
theorem spec_fix {inputs edge input value : Int} {L : List S92} {r : Int × List S92 × Int} (h : FixIs inputs L edge input value r) : Ev (fun k => spec_Fixed.f k inputs L edge input value) r := by
  obtain ⟨hy, hn⟩ := h
  unfold spec_Fixed.f
  have e0 : Ev (fun k => spec_Fixed.j0 k edge input value true inputs L) (0, [], -1) := Ev.step (Ev.pos rfl (Ev.val _)) (fun k => spec_Fixed.j0.eq_2 ..)
  obtain ⟨q, hb, h1⟩ := spec_cv inputs L
  cases q with
  | false =>
    rw [hn (fun h => by have := h1.2 h.1; cases this)]
    exact Ev.bind hb (Ev.neg (by decide) e0)
  | true =>
    have hd := h1.1 rfl
    refine Ev.bind hb (Ev.pos rfl (Ev.bind (Ev.const (spec_edge hd edge)) ?_))
    have w1 : wrap64 (inputs - 1) = inputs - 1 := by have := hd.i0; have := hd.i12; exact w_id (by omega) (by omega)
    by_cases c : 0 ≤ edge ∧ edge ≤ 2 * (1 + inputs + (L.length : Int)) - 1
    · rw [decide_eq_true c]
      refine Ev.pos rfl (Ev.bind (Ev.const (l1In_val _ _ _)) ?_)
      rw [w1]
      by_cases c2 : 0 ≤ input ∧ input ≤ inputs - 1
      · rw [decide_eq_true c2]
        refine Ev.pos rfl (Ev.bind (Ev.const (l1In_val _ _ _)) ?_)
        by_cases c3 : 0 ≤ value ∧ value ≤ 1
        · rw [decide_eq_true c3, hy ⟨hd, c, c2, c3⟩]
          exact Ev.step (Ev.neg (by decide) (fix_run ⟨hd, c, c2, c3⟩).1) (fun k => spec_Fixed.j0.eq_2 ..)
        · rw [decide_eq_false c3, hn (fun h => c3 h.2.2.2)]
          exact e0
      · rw [decide_eq_false c2, hn (fun h => c2 h.2.2.1)]
        exact Ev.neg (by decide) e0
    · rw [decide_eq_false c, hn (fun h => c h.2.1)]
      exact Ev.neg (by decide) e0
theorem fix_v {inputs edge input value : Int} {L : List S92} {r : Int × List S92 × Int} (h : FixIs inputs L edge input value r) : Ev (fun k => impl_Fixed.f k inputs L edge input value) r := by
  obtain ⟨hy, hn⟩ := h
  unfold impl_Fixed.f
  obtain ⟨q, hb, h1⟩ := impl_cv inputs L
  cases q with
  | false =>
    rw [hn (fun h => by have := h1.2 h.1; cases this)]
    exact Ev.bind hb (Ev.pos rfl (Ev.val _))
  | true =>
    have hd := h1.1 rfl
    have i0 := hd.i0
    have i12 := hd.i12
    have hl := hd.len
    refine Ev.bind hb (Ev.neg (by decide) (Ev.bind (Ev.const (impl_edge hd edge)) ?_))
    have w1 : wrap64 (inputs - 1) = inputs - 1 := w_id (by omega) (by omega)
    by_cases c : 0 ≤ edge ∧ edge ≤ 2 * (1 + inputs + (L.length : Int)) - 1
    · rw [decide_eq_true c]
      refine Ev.neg (by decide) (Ev.bind (Ev.const (in_val _ _ _)) ?_)
      rw [w1]
      by_cases c2 : 0 ≤ input ∧ input ≤ inputs - 1
      · rw [decide_eq_true c2]
        refine Ev.neg (by decide) (Ev.bind (Ev.const (in_val _ _ _)) ?_)
        by_cases c3 : 0 ≤ value ∧ value ≤ 1
        · rw [decide_eq_true c3, hy ⟨hd, c, c2, c3⟩]
          obtain ⟨_, ⟨s', s1, s2⟩, s3, s4⟩ := fix_run ⟨hd, c, c2, c3⟩
          have w2 : wrap64 (input + 1) = input + 1 := w_id (by omega) (by omega)
          have e1 := e0_impl (m := inputs.toNat) (by omega) (value := value) c2.1 (show input ≤ (inputs.toNat : Int) - 1 by omega)
          have bo : impl_building.f inputs [] = some ⟨inputs, [], fun _ => none, false⟩ := by
            unfold impl_building.f impl_And_108.f
            simp [impl_building.seen]
          have fl : ((fixed inputs L input value).2.length : Int) = 1 + inputs + (L.length : Int) := by
            unfold fixed
            rw [fx_len, e0_len]
            omega
          have hr := s3 (edge / 2) (by omega) (by omega)
          have ie : impl_Fixed.in_ (fixed inputs L input value).2 edge := by
            unfold impl_Fixed.in_
            rw [half_w c.1 (by omega)]
            omega
          refine Ev.neg (by decide) (Ev.pos ⟨⟨i0, by omega⟩, by rw [w2]; omega, by rw [w2]; omega⟩ (Ev.bind (Ev.const bo) (Ev.bind (a := (s', (fixed inputs L input value).2)) (Ev.const (by rw [e1]; exact s1)) (Ev.pos ie (Ev.const ?_)))))
          show impl_builder_done.f s' (impl_Fixed.at_ (fixed inputs L input value).2 edge) = _
          rw [at_val c.1 (by omega) ⟨hr.1, by omega⟩]
          unfold impl_builder_done.f impl_And_109.f
          rw [if_neg (by rw [s2.full]; decide), s2.gates, if_pos (by omega), s2.ins]
          rfl
        · rw [decide_eq_false c3, hn (fun h => c3 h.2.2.2)]
          exact Ev.pos rfl (Ev.val _)
      · rw [decide_eq_false c2, hn (fun h => c2 h.2.2.1)]
        exact Ev.pos rfl (Ev.val _)
    · rw [decide_eq_false c, hn (fun h => c h.2.1)]
      exact Ev.pos rfl (Ev.val _)

theorem FnExactFixed : laws_FnExactFixed.Pure := by
  intro a0 l0 a1 a2 a3 _ hl _ _ _
  apply Ev.get
  unfold laws_FnExactFixed.f
  obtain ⟨z, hz1, hz2⟩ := sz_circuit a0 l0 hl.1
  refine Ev.bind (Ev.const hz1) ?_
  by_cases c : z < 0
  · exact Ev.pos c (Ev.val _)
  refine Ev.neg c ?_
  have hl0 : l0.length ≤ 1048576 := by omega
  obtain ⟨L, hL, hLl⟩ := to_circuit a0 l0 hl0
  obtain ⟨⟨r1, R, r3⟩, ht, hR⟩ := fixIs_ex a0 L a1 a2 a3
  have hs : Ev (fun k => spec_Fixed.f k a0 L a1 a2 a3) (r1, R, r3) := spec_fix ht
  have hi : Ev (fun k => impl_Fixed.f k a0 L a1 a2 a3) (r1, R, r3) := fix_v ht
  have hR2 : R.length ≤ 600 := hR
  obtain ⟨zs, hm, hml, _⟩ := mark_circuit a0 L (by omega)
  obtain ⟨ys, hn, hnl, hny⟩ := mark_circuit r1 R (by omega)
  have hh := held_circuit r1 ys (by omega) hny
  rw [hnl] at hh
  have j2 : Ev (fun k => laws_FnExactFixed.j2 k (1 + 2 * (R.length : Int)) (r3 != r3) r1 ys) true := by
    refine Ev.step (Ev.neg (by simp) (Ev.bind hh (Ev.neg (by omega) (Ev.pos rfl (Ev.val _))))) (fun k => laws_FnExactFixed.j2.eq_2 ..)
  have j1 : Ev (fun k => laws_FnExactFixed.j1 k a1 a2 a3 r3 (r3 != r3) a0 l0 r1 R r1 R) true :=
    Ev.step (Ev.neg (by simp) (Ev.bind hn (Ev.bind hh (Ev.neg (by omega) (Ev.pos rfl (Ev.bind hL (Ev.bind hi (Ev.bind (eq_circuit r1 R (by omega)) (Ev.pos rfl j2))))))))) (fun k => laws_FnExactFixed.j1.eq_2 ..)
  have j0 : Ev (fun k => laws_FnExactFixed.j0 k a1 a2 a3 r3 r3 (r3 != r3) a0 l0 r1 R a0 L r1 R) true :=
    Ev.step (Ev.neg (by simp) (Ev.bind hL (Ev.bind (eq_circuit a0 L (by omega)) (Ev.pos rfl (Ev.bind hm (Ev.neg (by simp only; omega) (Ev.bind (eq_circuit r1 R (by omega)) (Ev.pos rfl j1)))))))) (fun k => laws_FnExactFixed.j0.eq_2 ..)
  exact Ev.bind hL (Ev.bind hs (Ev.bind hL (Ev.bind hi (Ev.bind (eq_circuit r1 R (by omega)) (Ev.pos rfl j0)))))

end Go.Proofs.Ytpcckoljocpchaa.Pure
