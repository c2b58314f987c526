/- FnExactGuessKept: impl.GuessKept and spec.GuessKept return the same for all arguments, the argument reads as before, and the result shares no memory; for every input. -/
import Derived.Test.YtdigdhckbhlkmaaQFnExactGuessKeptx9
namespace Go.Proofs.Ytdigdhckbhlkmaa.Pure
open Go.RowKit Go.Proofs.Ytdigdhckbhlkmaa.QFnExactGuessKept Go.Proofs.YtdigdhckbhlkmaaW.PrintWords Go.Proofs.YtdigdhckbhlkmaaW.PrintLast Go.Proofs.YtdigdhckbhlkmaaW.PrintMore
set_option linter.unusedVariables false
set_option linter.unusedSimpArgs false

/-! #### rounds -/
/-- From some number of rounds on, g tells r. -/
def Ev {α : Type} (g : Nat → Option α) (r : α) : Prop := ∃ K, ∀ k, K ≤ k → g k = some r
theorem Ev.val {α : Type} (r : α) : Ev (fun _ => some r) r := ⟨0, fun _ _ => rfl⟩
theorem Ev.valEq {α : Type} {r r' : α} (h : r = r') : Ev (fun _ => some r) r' := ⟨0, fun _ _ => by rw [h]⟩
theorem Ev.const {α : Type} {g : Option α} {r : α} (h : g = some r) : Ev (fun _ => g) r := ⟨0, fun _ _ => h⟩
theorem Ev.bind {α β : Type} {g : Nat → Option α} {f : Nat → α → Option β} {a : α} {b : β} (h : Ev g a) (h2 : Ev (fun k => f k a) b) : Ev (fun k => (g k).bind (f k)) b := by
  obtain ⟨K, hK⟩ := h
  obtain ⟨L, hL⟩ := h2
  exact ⟨max K L, fun k hk => by show (g k).bind (f k) = _; rw [hK k (by omega)]; exact hL k (by omega)⟩
theorem Ev.step {α : Type} {g g' : Nat → Option α} {r : α} (h : Ev g' r) (e : ∀ k, g (k + 1) = g' k) : Ev g r := by
  obtain ⟨K, hK⟩ := h
  exact ⟨K + 1, fun k hk => by
    obtain ⟨m, rfl⟩ : ∃ m, k = m + 1 := ⟨k - 1, by omega⟩
    rw [e]
    exact hK m (by omega)⟩
theorem Ev.eq {α : Type} {g g' : Nat → Option α} {r : α} (h : Ev g' r) (e : ∀ k, g k = g' k) : Ev g r := by
  obtain ⟨K, hK⟩ := h
  exact ⟨K, fun k hk => by rw [e]; exact hK k hk⟩
theorem Ev.pos {α : Type} {c : Prop} [Decidable c] {g g' : Nat → Option α} {r : α} (hc : c) (h : Ev g r) : Ev (fun k => if c then g k else g' k) r := by
  obtain ⟨K, hK⟩ := h
  exact ⟨K, fun k hk => by simp only [if_pos hc]; exact hK k hk⟩
theorem Ev.neg {α : Type} {c : Prop} [Decidable c] {g g' : Nat → Option α} {r : α} (hc : ¬ c) (h : Ev g' r) : Ev (fun k => if c then g k else g' k) r := by
  obtain ⟨K, hK⟩ := h
  exact ⟨K, fun k hk => by simp only [if_neg hc]; exact hK k hk⟩
theorem Ev.exStep {α β : Type} {g g' : Nat → Option α} {f : β → α} (h : ∃ r, Ev g' (f r)) (e : ∀ k, g (k + 1) = g' k) : ∃ r, Ev g (f r) := by
  obtain ⟨r, h⟩ := h
  exact ⟨r, Ev.step h e⟩
theorem Ev.exPos {α β : Type} {c : Prop} [Decidable c] {g g' : Nat → Option α} {f : β → α} (hc : c) (h : ∃ r, Ev g (f r)) : ∃ r, Ev (fun k => if c then g k else g' k) (f r) := by
  obtain ⟨r, h⟩ := h
  exact ⟨r, Ev.pos hc h⟩
theorem Ev.get {α : Type} {g : Nat → Option α} {r : α} (h : Ev g r) : ∃ k, g k = some r := by
  obtain ⟨K, hK⟩ := h
  exact ⟨K, hK K (Nat.le_refl _)⟩
theorem Ev.to {α : Type} {g : Nat → Option α} {r r' : α} (h : Ev g r) (e : r = r') : Ev g r' := e ▸ h

/-! #### numbers -/
theorem w_id {x : Int} (h0 : -9223372036854775808 ≤ x) (h1 : x ≤ 9223372036854775807) : wrap64 x = x := by
  unfold wrap64
  omega
theorem wf_i64 {x : Int} (h : (Lit.int .i64 x).wf = true) : -9223372036854775808 ≤ x ∧ x ≤ 9223372036854775807 := by
  simp [Lit.wf, IntKind.min, IntKind.max, IntKind.signed, IntKind.bits] at h
  omega

/-! #### lists -/
theorem rd_nat (l : List Int) (i : Nat) : rd l (i : Int) = l.getD i 0 := by
  unfold rd
  rw [Int.toNat_natCast]
theorem getD_lt {α : Type} {l : List α} {i : Nat} (h : i < l.length) (d : α) : l.getD i d = l[i] := by
  rw [List.getD_eq_getElem?_getD, List.getElem?_eq_getElem h]
  rfl
theorem rd_lt {l : List Int} {i : Nat} (h : i < l.length) : rd l (i : Int) = l[i] := by rw [rd_nat, getD_lt h]
theorem rd_set_eq {l : List Int} {i : Nat} {v : Int} (h : i < l.length) : rd (l.set i v) (i : Int) = v := by
  rw [rd_lt (by simpa using h)]
  simp
theorem rd_set_ne {l : List Int} {i j : Nat} {v : Int} (h : i ≠ j) : rd (l.set i v) (j : Int) = rd l (j : Int) := by
  rw [rd_nat, rd_nat, List.getD_eq_getElem?_getD, List.getD_eq_getElem?_getD, List.getElem?_set_ne h]
theorem rd_app_lt {l m : List Int} {j : Nat} (h : j < l.length) : rd (l ++ m) (j : Int) = rd l (j : Int) := by
  rw [rd_nat, rd_nat, List.getD_eq_getElem?_getD, List.getD_eq_getElem?_getD, List.getElem?_append_left h]
theorem rd_app_eq {l : List Int} {v : Int} : rd (l ++ [v]) (l.length : Int) = v := by
  rw [rd_nat, List.getD_eq_getElem?_getD, List.getElem?_append_right (Nat.le_refl _)]
  simp
theorem list_eq_rd {l m : List Int} (hl : l.length = m.length) (h : ∀ j : Nat, j < l.length → rd l (j : Int) = rd m (j : Int)) : l = m := by
  apply List.ext_getElem hl
  intro i h1 h2
  rw [← rd_lt h1, ← rd_lt h2]
  exact h i h1
theorem wsucc (i : Nat) (h : i ≤ 4611686018427387904) : wrap64 ((i : Int) + 1) = ((i + 1 : Nat) : Int) := by
  unfold wrap64
  omega

/-- g tells in the end whether p is so. -/
def Dec (g : Nat → Option Bool) (p : Prop) : Prop := ∃ b, Ev g b ∧ (b = true ↔ p)
theorem Dec.yes {g : Nat → Option Bool} {p : Prop} (h : Ev g true) (hp : p) : Dec g p := ⟨true, h, by simp [hp]⟩
theorem Dec.no {g : Nat → Option Bool} {p : Prop} (h : Ev g false) (hp : ¬ p) : Dec g p := ⟨false, h, by simp [hp]⟩
theorem Dec.same {g g' : Nat → Option Bool} {p : Prop} (h : Dec g p) (h' : Dec g' p) : ∃ b, Ev g b ∧ Ev g' b ∧ (b = true ↔ p) := by
  obtain ⟨b, h1, h2⟩ := h
  obtain ⟨b', h3, h4⟩ := h'
  have : b = b' := by
    rw [Bool.eq_iff_iff, h2, h4]
  subst this
  exact ⟨b, h1, h3, h2⟩
theorem Dec.iff {g : Nat → Option Bool} {p q : Prop} (h : Dec g p) (e : p ↔ q) : Dec g q := by
  obtain ⟨b, h1, h2⟩ := h
  exact ⟨b, h1, h2.trans e⟩
theorem all_from {P : Nat → Prop} {i n : Nat} (hi : i < n) : (∀ j, i ≤ j → j < n → P j) ↔ P i ∧ ∀ j, i + 1 ≤ j → j < n → P j := by
  constructor
  · intro h
    exact ⟨h i (Nat.le_refl _) hi, fun j h1 h2 => h j (by omega) h2⟩
  · rintro ⟨h1, h2⟩ j h3 h4
    rcases Nat.lt_or_eq_of_le h3 with h | rfl
    · exact h2 j h h4
    · exact h1
theorem all_none {P : Nat → Prop} {i n : Nat} (hi : n ≤ i) : ∀ j, i ≤ j → j < n → P j := fun j h1 h2 => by omega

/-! #### formulas of time -/
/-- A step that may stand at place i of a formula over so many facts. -/
def StepOk (f0 f1 f2 f3 i facts : Int) : Prop :=
  (f0 = 0 ∧ f1 = 0 ∧ f2 = 0 ∧ f3 = 0) ∨ (f0 = 1 ∧ 0 ≤ f1 ∧ f1 < facts ∧ f2 = 0 ∧ f3 = 0) ∨
  (2 ≤ f0 ∧ f0 ≤ 7 ∧ f1 = 0 ∧ 0 ≤ f2 ∧ f2 < i ∧ 0 ≤ f3 ∧ f3 < i ∧ ((f0 = 2 ∨ f0 = 5) → f3 = f2))
def StepAt (l : List S37) (facts : Int) (j : Nat) : Prop :=
  StepOk (rd_T37 l j).f0 (rd_T37 l j).f1 (rd_T37 l j).f2 (rd_T37 l j).f3 j facts
/-- A formula of time over so many facts. -/
def TimesOk (l : List S37) (facts : Int) : Prop := (0 ≤ facts ∧ facts ≤ 4) ∧ (1 ≤ l.length ∧ l.length ≤ 24) ∧ ∀ j, 0 ≤ j → j < l.length → StepAt l facts j

theorem in_dec (x a b : Int) : ∃ c, spec_l1In.f x a b = some c ∧ (c = true ↔ a ≤ x ∧ x ≤ b) := by
  unfold spec_l1In.f
  by_cases h : x ≥ a
  · rw [if_pos h]
    exact ⟨_, rfl, by simp; omega⟩
  · rw [if_neg h]
    exact ⟨_, rfl, by simp; omega⟩
theorem in_yes {x a b : Int} (h : a ≤ x ∧ x ≤ b) : spec_l1In.f x a b = some true := by
  unfold spec_l1In.f
  rw [if_pos h.1]
  simp [h.2]
theorem in_no {x a b : Int} (h : ¬ (a ≤ x ∧ x ≤ b)) : spec_l1In.f x a b = some false := by
  unfold spec_l1In.f
  by_cases h1 : x ≥ a
  · rw [if_pos h1]
    simp
    omega
  · rw [if_neg h1]
theorem iin_yes {x a b : Int} (h : a ≤ x ∧ x ≤ b) : impl_in.f x a b = some true := in_yes h
theorem iin_no {x a b : Int} (h : ¬ (a ≤ x ∧ x ≤ b)) : impl_in.f x a b = some false := in_no h

theorem spec_step_yes {f0 f1 f2 f3 i facts : Int} (hi : 0 ≤ i) (hi2 : i ≤ 1000) (hf : 0 ≤ facts) (hf2 : facts ≤ 4) (h : StepOk f0 f1 f2 f3 i facts) : spec_l20Step.f f0 f1 f2 f3 i facts = some true := by
  have w1 : wrap64 (i - 1) = i - 1 := w_id (by omega) (by omega)
  have w2 : wrap64 (facts - 1) = facts - 1 := w_id (by omega) (by omega)
  unfold spec_l20Step.f
  rw [w1, w2]
  rcases h with ⟨h0, h1, h2, h3⟩ | ⟨h0, h1, h2, h3, h4⟩ | ⟨h0, h1, h2, h3, h4, h5, h6, h7⟩
  · rw [if_pos h0, if_pos h1, if_pos h2]
    simp [h3]
  · rw [if_neg (by omega), if_pos h0, in_yes (by omega)]
    simp [h3, h4]
  · rw [if_neg (by omega), if_neg (by omega), in_yes (by omega)]
    simp only [Option.bind_some, if_true]
    rw [if_pos h2, in_yes (by omega)]
    simp only [Option.bind_some, if_true]
    rw [in_yes (by omega)]
    simp only [Option.bind_some, if_true]
    unfold spec_l20One.f
    by_cases c : f0 = 2
    · rw [if_pos c]
      simp [h7 (.inl c)]
    · rw [if_neg c]
      by_cases c2 : f0 = 5
      · simp [c2, h7 (.inr c2)]
      · simp [c2]
theorem spec_step_no {f0 f1 f2 f3 i facts : Int} (hi : 0 ≤ i) (hi2 : i ≤ 1000) (hf : 0 ≤ facts) (hf2 : facts ≤ 4) (h : ¬ StepOk f0 f1 f2 f3 i facts) : spec_l20Step.f f0 f1 f2 f3 i facts = some false := by
  have w1 : wrap64 (i - 1) = i - 1 := w_id (by omega) (by omega)
  have w2 : wrap64 (facts - 1) = facts - 1 := w_id (by omega) (by omega)
  unfold spec_l20Step.f
  unfold StepOk at h
  rw [w1, w2]
  by_cases c0 : f0 = 0
  · rw [if_pos c0]
    by_cases c1 : f1 = 0
    · rw [if_pos c1]
      by_cases c2 : f2 = 0
      · rw [if_pos c2]
        have : f3 ≠ 0 := by omega
        simp [this]
      · rw [if_neg c2]
    · rw [if_neg c1]
  · rw [if_neg c0]
    by_cases c1 : f0 = 1
    · rw [if_pos c1]
      by_cases c2 : 0 ≤ f1 ∧ f1 ≤ facts - 1
      · rw [in_yes c2]
        simp only [Option.bind_some, if_true]
        by_cases c3 : f2 = 0
        · rw [if_pos c3]
          have : f3 ≠ 0 := by omega
          simp [this]
        · rw [if_neg c3]
      · rw [in_no c2]
        simp
    · rw [if_neg c1]
      by_cases c2 : 2 ≤ f0 ∧ f0 ≤ 7
      · rw [in_yes c2]
        simp only [Option.bind_some, if_true]
        by_cases c3 : f1 = 0
        · rw [if_pos c3]
          by_cases c4 : 0 ≤ f2 ∧ f2 ≤ i - 1
          · rw [in_yes c4]
            simp only [Option.bind_some, if_true]
            by_cases c5 : 0 ≤ f3 ∧ f3 ≤ i - 1
            · rw [in_yes c5]
              simp only [Option.bind_some, if_true]
              unfold spec_l20One.f
              by_cases c6 : f0 = 2
              · rw [if_pos c6]
                have : f3 ≠ f2 := by omega
                simp [this]
              · rw [if_neg c6]
                have c7 : f0 = 5 := by omega
                have : f3 ≠ f2 := by omega
                simp [c7, this]
            · rw [in_no c5]
              simp
          · rw [in_no c4]
            simp
        · rw [if_neg c3]
      · rw [in_no c2]
        simp

theorem spec_tv_loop (l : List S37) (facts : Int) (hl : l.length ≤ 24) (h0 : 0 ≤ facts) (h4 : facts ≤ 4) : ∀ (d i : Nat), i + d = l.length →
    Dec (fun k => spec_TimesValid.l0 k l facts (i : Int)) (∀ j, i ≤ j → j < l.length → StepAt l facts j) := by
  intro d
  induction d with
  | zero =>
    intro i hi
    exact Dec.yes (Ev.step (Ev.neg (by omega) (Ev.val _)) (fun k => spec_TimesValid.l0.eq_2 ..)) (all_none (by omega))
  | succ d ih =>
    intro i hi
    by_cases hS : StepAt l facts i
    · obtain ⟨b, hb, hb2⟩ := ih (i + 1) (by omega)
      refine ⟨b, Ev.step ?_ (fun k => spec_TimesValid.l0.eq_2 ..), hb2.trans ?_⟩
      · refine Ev.pos (by omega) (Ev.pos (by omega) (Ev.bind (Ev.const (spec_step_yes (by omega) (by omega) h0 h4 hS)) (Ev.pos rfl ?_)))
        rw [wsucc i (by omega)]
        exact hb
      · rw [all_from (i := i) (by omega)]
        simp [hS]
    · refine Dec.no (Ev.step (Ev.pos (by omega) (Ev.pos (by omega) (Ev.bind (Ev.const (spec_step_no (by omega) (by omega) h0 h4 hS)) (Ev.neg (by decide) (Ev.val _))))) (fun k => spec_TimesValid.l0.eq_2 ..)) ?_
      intro h
      exact hS (h i (Nat.le_refl _) (by omega))

theorem spec_tv (l : List S37) (facts : Int) : Dec (fun k => spec_TimesValid.f k l facts) (TimesOk l facts) := by
  unfold spec_TimesValid.f TimesOk
  by_cases h1 : 0 ≤ facts ∧ facts ≤ 4
  · by_cases h2 : 1 ≤ (l.length : Int) ∧ (l.length : Int) ≤ 24
    · obtain ⟨b, hb, hb2⟩ := spec_tv_loop l facts (by omega) h1.1 h1.2 l.length 0 (by omega)
      refine ⟨b, ?_, hb2.trans ?_⟩
      · refine Ev.bind (Ev.const (in_yes h1)) (Ev.pos rfl (Ev.bind (Ev.const (in_yes h2)) (Ev.step (Ev.neg (by decide) hb) (fun k => spec_TimesValid.j0.eq_2 ..))))
      · constructor
        · intro h
          exact ⟨h1, by omega, h⟩
        · intro h
          exact h.2.2
    · refine Dec.no (Ev.bind (Ev.const (in_yes h1)) (Ev.pos rfl (Ev.bind (Ev.const (in_no h2)) (Ev.step (Ev.pos rfl (Ev.val _)) (fun k => spec_TimesValid.j0.eq_2 ..))))) ?_
      rintro ⟨_, h, _⟩
      omega
  · refine Dec.no (Ev.bind (Ev.const (in_no h1)) (Ev.neg (by decide) (Ev.step (Ev.pos rfl (Ev.val _)) (fun k => spec_TimesValid.j0.eq_2 ..)))) ?_
    rintro ⟨h, _⟩
    exact h1 h

theorem impl_tv_step (l : List S37) (facts n : Int) (i : Nat) (hn : (i : Int) < n) (hn2 : i < l.length) (hi : i ≤ 1000) (h0 : 0 ≤ facts) (h4 : facts ≤ 4) (k : Nat) :
    (StepAt l facts i → impl_TimesValid.l0 (k + 1) facts l n i = impl_TimesValid.l0 k facts l n ((i + 1 : Nat) : Int)) ∧ (¬ StepAt l facts i → impl_TimesValid.l0 (k + 1) facts l n i = some false) := by
  have w1 : wrap64 ((i : Int) - 1) = i - 1 := w_id (by omega) (by omega)
  have w2 : wrap64 (facts - 1) = facts - 1 := w_id (by omega) (by omega)
  rw [impl_TimesValid.l0.eq_2, if_pos hn, if_pos (by omega), if_pos (by omega), wsucc i (by omega), w1, w2]
  unfold StepAt
  generalize impl_TimesValid.l0 k facts l n ((i + 1 : Nat) : Int) = c
  generalize rd_T37 l (i : Int) = t
  obtain ⟨f0, f1, f2, f3⟩ := t
  simp only
  constructor
  · intro hS
    rcases hS with ⟨h0, h1, h2, h3⟩ | ⟨h0, h1, h2, h3, h4⟩ | ⟨h0, h1, h2, h3, h4, h5, h6, h7⟩
    · subst h0 h1 h2 h3
      rw [iin_yes (by omega)]
      simp
    · subst h0 h3 h4
      rw [iin_yes (by omega)]
      simp only [Option.bind_some]
      rw [if_neg (by omega)]
      simp only [if_true]
      rw [iin_yes (by omega)]
      simp
    · rw [iin_yes (by omega)]
      simp only [Option.bind_some, if_true]
      rw [if_neg (by omega), if_neg (by omega), if_pos h2, iin_yes (by omega)]
      simp only [Option.bind_some, if_true]
      rw [iin_yes (by omega)]
      simp only [Option.bind_some, if_true]
      by_cases e : f2 = f3
      · rw [if_pos e]
      · rw [if_neg e, if_neg (by omega), if_neg (by omega)]
  · intro hS
    unfold StepOk at hS
    have hb : ∃ b, impl_in.f f0 0 7 = some b ∧ (b = true ↔ 0 ≤ f0 ∧ f0 ≤ 7) := in_dec f0 0 7
    obtain ⟨b, hb, hb2⟩ := hb
    rw [hb]
    simp only [Option.bind_some]
    by_cases c0 : f0 = 0
    · have hne : ¬ ((f1 == 0 && (f2 == 0 && f3 == 0)) = true) := by
        simp only [Bool.and_eq_true, beq_iff_eq]
        omega
      rw [if_pos c0, if_neg hne]
    · rw [if_neg c0]
      by_cases c1 : f0 = 1
      · rw [if_pos c1]
        by_cases c2 : 0 ≤ f1 ∧ f1 ≤ facts - 1
        · rw [iin_yes c2]
          simp only [Option.bind_some, if_true]
          by_cases c3 : f2 = 0
          · rw [if_pos c3, if_neg (by omega)]
          · rw [if_neg c3]
        · rw [iin_no c2]
          simp
      · rw [if_neg c1]
        by_cases c2 : b = true
        · rw [if_pos c2]
          have := hb2.1 c2
          by_cases c3 : f1 = 0
          · rw [if_pos c3]
            by_cases c4 : 0 ≤ f2 ∧ f2 ≤ (i : Int) - 1
            · rw [iin_yes c4]
              simp only [Option.bind_some, if_true]
              by_cases c5 : 0 ≤ f3 ∧ f3 ≤ (i : Int) - 1
              · rw [iin_yes c5]
                simp only [Option.bind_some, if_true]
                rw [if_neg (by omega)]
                by_cases c6 : f0 = 2
                · rw [if_pos c6]
                · rw [if_neg c6, if_pos (by omega)]
              · rw [iin_no c5]
                simp
            · rw [iin_no c4]
              simp
          · rw [if_neg c3]
        · rw [if_neg c2]

theorem impl_tv_loop (l : List S37) (facts : Int) (hl : l.length ≤ 24) (h0 : 0 ≤ facts) (h4 : facts ≤ 4) : ∀ (d i : Nat), i + d = l.length →
    Dec (fun k => impl_TimesValid.l0 k facts l (l.length : Int) (i : Int)) (∀ j, i ≤ j → j < l.length → StepAt l facts j) := by
  intro d
  induction d with
  | zero =>
    intro i hi
    exact Dec.yes (Ev.step (Ev.neg (by omega) (Ev.val _)) (fun k => impl_TimesValid.l0.eq_2 ..)) (all_none (by omega))
  | succ d ih =>
    intro i hi
    by_cases hS : StepAt l facts i
    · obtain ⟨b, hb, hb2⟩ := ih (i + 1) (by omega)
      refine ⟨b, Ev.step ?_ (fun k => (impl_tv_step l facts _ i (by omega) (by omega) (by omega) h0 h4 k).1 hS), hb2.trans ?_⟩
      · exact hb
      · rw [all_from (i := i) (by omega)]
        simp [hS]
    · refine Dec.no (Ev.step (Ev.val _) (fun k => (impl_tv_step l facts _ i (by omega) (by omega) (by omega) h0 h4 k).2 hS)) ?_
      intro h
      exact hS (h i (Nat.le_refl _) (by omega))

theorem impl_tv (l : List S37) (facts : Int) : Dec (fun k => impl_TimesValid.f k l facts) (TimesOk l facts) := by
  unfold impl_TimesValid.f TimesOk
  by_cases h1 : 0 ≤ facts ∧ facts ≤ 4
  · by_cases h2 : 1 ≤ (l.length : Int) ∧ (l.length : Int) ≤ 24
    · obtain ⟨b, hb, hb2⟩ := impl_tv_loop l facts (by omega) h1.1 h1.2 l.length 0 (by omega)
      refine ⟨b, ?_, hb2.trans ?_⟩
      · refine Ev.bind (Ev.const (iin_yes h1)) (Ev.pos rfl (Ev.bind (Ev.const (iin_yes h2)) (Ev.step (Ev.neg (by decide) hb) (fun k => impl_TimesValid.j0.eq_2 ..))))
      · constructor
        · intro h
          exact ⟨h1, by omega, h⟩
        · intro h
          exact h.2.2
    · refine Dec.no (Ev.bind (Ev.const (iin_yes h1)) (Ev.pos rfl (Ev.bind (Ev.const (iin_no h2)) (Ev.step (Ev.pos rfl (Ev.val _)) (fun k => impl_TimesValid.j0.eq_2 ..))))) ?_
      rintro ⟨_, h, _⟩
      omega
  · refine Dec.no (Ev.bind (Ev.const (iin_no h1)) (Ev.neg (by decide) (Ev.step (Ev.pos rfl (Ev.val _)) (fun k => impl_TimesValid.j0.eq_2 ..)))) ?_
    rintro ⟨h, _⟩
    exact h1 h

/-! #### guesses: the steps that are guessed, their bits -/
def stepsL (l : List S37) : Nat → Nat → List Int → List Int
  | 0, _, acc => acc
  | d + 1, i, acc => if (rd_T37 l (i : Int)).f0 ≥ 5 then stepsL l d (i + 1) (acc ++ [(i : Int)]) else stepsL l d (i + 1) acc
def cntL (l : List S37) : Nat → Nat → Nat
  | 0, _ => 0
  | d + 1, i => (if (rd_T37 l (i : Int)).f0 ≥ 5 then 1 else 0) + cntL l d (i + 1)
theorem cntL_le (l : List S37) : ∀ d i, cntL l d i ≤ d := by
  intro d
  induction d with
  | zero => intro i; exact Nat.le_refl _
  | succ d ih =>
    intro i
    have := ih (i + 1)
    unfold cntL
    split <;> omega
theorem stepsL_length (l : List S37) : ∀ d i acc, (stepsL l d i acc).length = acc.length + cntL l d i := by
  intro d
  induction d with
  | zero => intro i acc; rfl
  | succ d ih =>
    intro i acc
    unfold stepsL cntL
    split
    · rw [ih, List.length_append, List.length_singleton]; omega
    · rw [ih]; omega

theorem spec_steps_loop (l : List S37) (hl : l.length ≤ 24) : ∀ (d i : Nat) (acc : List Int), i + d = l.length → acc.length ≤ i →
    Ev (fun k => spec_l21Steps.l0 k l acc (i : Int)) (stepsL l d i acc) := by
  intro d
  induction d with
  | zero =>
    intro i acc hi ha
    exact Ev.step (Ev.neg (by omega) (Ev.val _)) (fun k => spec_l21Steps.l0.eq_2 ..)
  | succ d ih =>
    intro i acc hi ha
    refine Ev.step ?_ (fun k => spec_l21Steps.l0.eq_2 ..)
    refine Ev.pos (by omega) (Ev.pos (by omega) ?_)
    rw [wsucc i (by omega)]
    unfold stepsL
    by_cases h : (rd_T37 l (i : Int)).f0 ≥ 5
    · rw [if_pos h]
      exact Ev.pos h (Ev.pos (by omega) (ih (i + 1) _ (by omega) (by simp; omega)))
    · rw [if_neg h]
      exact Ev.neg h (ih (i + 1) _ (by omega) (by omega))
theorem spec_steps (l : List S37) (hl : l.length ≤ 24) : Ev (fun k => spec_l21Steps.f k l) (stepsL l l.length 0 []) :=
  spec_steps_loop l hl l.length 0 [] (by omega) (by simp)

theorem impl_guessed_loop (l : List S37) (facts : Int) (hf : 0 ≤ facts) (hf2 : facts ≤ 4) (hl : l.length ≤ 24) : ∀ (d i : Nat) (acc : List Int), i + d = l.length → acc.length ≤ i →
    Ev (fun k => impl_guessed.l0 k facts acc l (l.length : Int) (i : Int)) (stepsL l d i acc, decide (facts + ((acc.length + cntL l d i : Nat) : Int) ≤ 7)) := by
  intro d
  induction d with
  | zero =>
    intro i acc hi ha
    refine Ev.step (Ev.neg (by omega) ?_) (fun k => impl_guessed.l0.eq_2 ..)
    have hc : impl_clone_int.f acc = some acc := by
      unfold impl_clone_int.f
      rw [if_pos (by omega)]
    refine Ev.bind (Ev.const hc) (Ev.valEq ?_)
    rw [w_id (by omega) (by omega)]
    rfl
  | succ d ih =>
    intro i acc hi ha
    refine Ev.step ?_ (fun k => impl_guessed.l0.eq_2 ..)
    refine Ev.pos (by omega) (Ev.pos (by omega) (Ev.pos (by omega) ?_))
    rw [wsucc i (by omega)]
    unfold stepsL cntL
    by_cases h : (rd_T37 l (i : Int)).f0 ≥ 5
    · rw [if_pos h, if_pos h]
      refine (Ev.pos h (Ev.pos (by omega) (ih (i + 1) _ (by omega) (by simp; omega)))).to ?_
      rw [List.length_append, List.length_singleton, Nat.add_assoc]
    · rw [if_neg h, if_neg h]
      refine (Ev.neg h (ih (i + 1) _ (by omega) (by omega))).to ?_
      rw [Nat.zero_add]

/-- How many truths are guessed. -/
def manyL (l : List S37) : Nat := cntL l l.length 0
def AskedOk (l : List S37) (facts : Int) : Prop := TimesOk l facts ∧ facts + (manyL l : Int) ≤ 7
theorem steps_len (l : List S37) : (stepsL l l.length 0 []).length = manyL l := by
  rw [stepsL_length]
  simp [manyL]

theorem impl_guessed_yes (l : List S37) (facts : Int) (h : TimesOk l facts) :
    Ev (fun k => impl_guessed.f k l facts) (stepsL l l.length 0 [], decide (facts + (manyL l : Int) ≤ 7)) := by
  obtain ⟨b, hb, hb2⟩ := impl_tv l facts
  have hbt : b = true := hb2.2 h
  subst hbt
  have := impl_guessed_loop l facts h.1.1 h.1.2 h.2.1.2 l.length 0 [] (by omega) (by simp)
  refine Ev.bind hb (Ev.pos rfl (this.to ?_))
  unfold manyL
  simp only [List.length_nil, Nat.zero_add]
theorem impl_guessed_no (l : List S37) (facts : Int) (h : ¬ TimesOk l facts) :
    Ev (fun k => impl_guessed.f k l facts) ([], false) := by
  obtain ⟨b, hb, hb2⟩ := impl_tv l facts
  have hbt : b = false := by
    cases b with
    | false => rfl
    | true => exact absurd (hb2.1 rfl) h
  subst hbt
  exact Ev.bind hb (Ev.neg (by decide) (Ev.val _))

theorem shl_small (m : Nat) (h : m ≤ 7) : shl .i64 1 (m : Int) = ((2 ^ m : Nat) : Int) := by
  have : m = 0 ∨ m = 1 ∨ m = 2 ∨ m = 3 ∨ m = 4 ∨ m = 5 ∨ m = 6 ∨ m = 7 := by omega
  rcases this with rfl | rfl | rfl | rfl | rfl | rfl | rfl | rfl <;> decide

/-- The number of guesses. -/
noncomputable def countL (l : List S37) (facts : Int) : Int := by
  classical
  exact if AskedOk l facts then ((2 ^ (facts.toNat + manyL l) : Nat) : Int) else 0

theorem spec_asked (l : List S37) (facts : Int) : Dec (fun k => spec_l21Asked.f k l facts) (AskedOk l facts) := by
  unfold spec_l21Asked.f AskedOk
  obtain ⟨b, hb, hb2⟩ := spec_tv l facts
  cases b with
  | false =>
    refine Dec.no (Ev.bind hb (Ev.neg (by decide) (Ev.val _))) ?_
    rintro ⟨h, _⟩
    exact absurd (hb2.2 h) (by decide)
  | true =>
    have h := hb2.1 rfl
    refine ⟨_, Ev.bind hb (Ev.pos rfl (Ev.bind (spec_steps l h.2.1.2) (Ev.val _))), ?_⟩
    have h1 := h.1
    have h2 := cntL_le l l.length 0
    have h3 := h.2.1.2
    have h4 : (stepsL l l.length 0 []).length = manyL l := steps_len l
    rw [h4, w_id (by unfold manyL; omega) (by unfold manyL; omega)]
    simp [h]

theorem spec_count (l : List S37) (facts : Int) : Ev (fun k => spec_GuessCount.f k l facts) (countL l facts) := by
  unfold spec_GuessCount.f countL
  obtain ⟨b, hb, hb2⟩ := spec_asked l facts
  cases b with
  | false =>
    have : ¬ AskedOk l facts := fun h => absurd (hb2.2 h) (by decide)
    rw [if_neg this]
    exact Ev.bind hb (Ev.neg (by decide) (Ev.val _))
  | true =>
    have h := hb2.1 rfl
    rw [if_pos h]
    have h1 := h.1.1
    have h7 := h.2
    have h4 : (stepsL l l.length 0 []).length = manyL l := steps_len l
    refine Ev.bind hb (Ev.pos rfl (Ev.bind (spec_steps l h.1.2.1.2) ?_))
    rw [h4, w_id (by omega) (by omega)]
    refine Ev.pos (by omega) (Ev.valEq ?_)
    rw [show facts + (manyL l : Int) = ((facts.toNat + manyL l : Nat) : Int) by omega]
    exact shl_small _ (by omega)
theorem impl_count (l : List S37) (facts : Int) : Ev (fun k => impl_GuessCount.f k l facts) (countL l facts) := by
  unfold impl_GuessCount.f countL
  by_cases h : TimesOk l facts
  · by_cases h7 : facts + (manyL l : Int) ≤ 7
    · rw [if_pos ⟨h, h7⟩]
      have h1 := h.1
      have h4 : (stepsL l l.length 0 []).length = manyL l := steps_len l
      refine Ev.bind (impl_guessed_yes l facts h) (Ev.pos (by simp [h7]) ?_)
      simp only
      rw [h4, w_id (by omega) (by omega)]
      refine Ev.pos (by omega) (Ev.valEq ?_)
      rw [show facts + (manyL l : Int) = ((facts.toNat + manyL l : Nat) : Int) by omega]
      exact shl_small _ (by omega)
    · rw [if_neg (fun h2 => h7 h2.2)]
      exact Ev.bind (impl_guessed_yes l facts h) (Ev.neg (by simp [h7]) (Ev.val _))
  · rw [if_neg (fun h2 => h h2.1)]
    exact Ev.bind (impl_guessed_no l facts h) (Ev.neg (by simp) (Ev.val _))

/-- A number's lower bits, the highest one first. -/
def bitsD (n : Int) : Nat → List Int
  | 0 => []
  | d + 1 => (n / 2 ^ d % 2) :: bitsD n d
theorem bitsD_length (n : Int) : ∀ d, (bitsD n d).length = d := by
  intro d
  induction d with
  | zero => rfl
  | succ d ih => simp [bitsD, ih]
theorem bitsD_get (n : Int) : ∀ d j : Nat, j < d → rd (bitsD n d) (j : Int) = n / 2 ^ (d - 1 - j) % 2 := by
  intro d
  induction d with
  | zero => intro j h; omega
  | succ d ih =>
    intro j h
    rw [rd_nat]
    cases j with
    | zero => simp [bitsD]
    | succ j =>
      have := ih j (by omega)
      rw [rd_nat] at this
      rw [show d + 1 - 1 - (j + 1) = d - 1 - j by omega, ← this]
      simp [bitsD]
def Bit (x : Int) : Prop := x = 0 ∨ x = 1
theorem bitsD_bit (n : Int) (d j : Nat) (h : j < d) : Bit (rd (bitsD n d) (j : Int)) := by
  rw [bitsD_get n d j h]
  unfold Bit
  omega

theorem shr_eq (n : Int) (d : Nat) (h : d ≤ 64) : shr .i64 n (d : Int) = n / 2 ^ d := by
  unfold shr
  rw [Int.toNat_natCast, Nat.min_eq_left (by simpa [IntKind.bits] using h)]
theorem spec_value_loop (n : Int) (hn : 0 ≤ n) : ∀ (d : Nat) (acc : List Int), d ≤ 60 → acc.length ≤ 1000 - d →
    Ev (fun k => spec_l6Value.l0 k n acc ((d : Int) - 1)) (acc ++ bitsD n d) := by
  intro d
  induction d with
  | zero =>
    intro acc _ _
    refine Ev.step (Ev.neg (by omega) (Ev.valEq (by simp [bitsD]))) (fun k => spec_l6Value.l0.eq_2 ..)
  | succ d ih =>
    intro acc hd ha
    refine Ev.step ?_ (fun k => spec_l6Value.l0.eq_2 ..)
    rw [show ((d + 1 : Nat) : Int) - 1 = (d : Int) by omega, shr_eq n d (by omega), w_id (by omega) (by omega)]
    refine Ev.pos (by omega) (Ev.pos (by omega) (Ev.pos (by omega) ?_))
    have := ih (acc ++ [n / 2 ^ d % 2]) (by omega) (by simp; omega)
    have e : Int.tmod (n / 2 ^ d) 2 = n / 2 ^ d % 2 := by
      rw [Int.tmod_eq_emod_of_nonneg]
      exact Int.ediv_nonneg hn (by exact_mod_cast Nat.zero_le _)
    rw [e]
    refine this.to ?_
    simp [bitsD]
theorem spec_value (n : Int) (hn : 0 ≤ n) (m : Nat) (hm : m ≤ 60) : Ev (fun k => spec_l6Value.f k n (m : Int)) (bitsD n m) := by
  unfold spec_l6Value.f
  rw [w_id (by omega) (by omega)]
  exact (spec_value_loop n hn m [] hm (by simp)).to (by simp)

theorem and_one (x : Int) (h0 : 0 ≤ x) (h1 : x < 9223372036854775808) : Go.bits .and .i64 x 1 = x % 2 := by
  have := bits_mask .i64 63 (by decide) (fun n a b => by rw [IntKind.wrap_i64]; omega) 1 (by decide) x h0 (by omega)
  simpa using this
theorem impl_bits_loop (n : Int) (hn : 0 ≤ n) (hn2 : n < 9223372036854775808) (m : Nat) (hm : m ≤ 60) : ∀ (d i : Nat) (ys : List Int), i + d = m → ys.length = m → (∀ j : Nat, j < i → rd ys (j : Int) = rd (bitsD n m) (j : Int)) →
    Ev (fun k => impl_valueBits.l0 k n (m : Int) ys (m : Int) (i : Int)) (bitsD n m) := by
  intro d
  induction d with
  | zero =>
    intro i ys hi hy h
    refine Ev.step (Ev.neg (by omega) (Ev.valEq ?_)) (fun k => impl_valueBits.l0.eq_2 ..)
    apply list_eq_rd
    · rw [hy, bitsD_length]
    · intro j hj
      exact h j (by omega)
  | succ d ih =>
    intro i ys hi hy h
    refine Ev.step ?_ (fun k => impl_valueBits.l0.eq_2 ..)
    rw [w_id (x := (m : Int) - 1) (by omega) (by omega), w_id (by omega) (by omega), wsucc i (by omega), Int.toNat_natCast]
    refine Ev.pos (by omega) (Ev.pos (by omega) (Ev.pos (by omega) (Ev.pos (by omega) ?_)))
    refine ih (i + 1) _ (by omega) (by simpa using hy) ?_
    intro j hj
    by_cases e : j = i
    · subst e
      rw [rd_set_eq (by omega), bitsD_get n m j (by omega)]
      rw [show (m : Int) - 1 - (j : Int) = ((m - 1 - j : Nat) : Int) by omega, shr_eq n _ (by omega)]
      refine and_one _ ?_ ?_
      · exact Int.ediv_nonneg hn (by exact_mod_cast Nat.zero_le _)
      · refine Int.lt_of_le_of_lt ?_ hn2
        exact Int.ediv_le_self _ hn
    · rw [rd_set_ne (by omega)]
      exact h j (by omega)
theorem impl_bits (n : Int) (hn : 0 ≤ n) (hn2 : n < 9223372036854775808) (m : Nat) (hm : m ≤ 60) : Ev (fun k => impl_valueBits.f k n (m : Int)) (bitsD n m) := by
  unfold impl_valueBits.f
  refine Ev.pos (by omega) (Ev.pos (by omega) ?_)
  simp only [Option.bind_some, Int.toNat_natCast, List.length_replicate]
  exact impl_bits_loop n hn hn2 m hm m 0 _ (by omega) (by simp) (fun j h => by omega)

/-! #### guesses: the truths of the steps -/
theorem and_bits {a b : Int} (ha : Bit a) (hb : Bit b) : Go.bits .and .i64 a b = wrap64 (a * b) ∧ Bit (wrap64 (a * b)) := by
  rcases ha with rfl | rfl <;> rcases hb with rfl | rfl <;> exact ⟨by decide +kernel, by unfold Bit; decide +kernel⟩
theorem or_bits {a b : Int} (ha : Bit a) (hb : Bit b) : ∃ c, spec_l1Truth.f (decide (wrap64 (a + b) > 0)) = some c ∧ Go.bits .or .i64 a b = c ∧ Bit c := by
  rcases ha with rfl | rfl <;> rcases hb with rfl | rfl
  · exact ⟨0, by decide +kernel, by decide +kernel, by unfold Bit; decide +kernel⟩
  · exact ⟨1, by decide +kernel, by decide +kernel, by unfold Bit; decide +kernel⟩
  · exact ⟨1, by decide +kernel, by decide +kernel, by unfold Bit; decide +kernel⟩
  · exact ⟨1, by decide +kernel, by decide +kernel, by unfold Bit; decide +kernel⟩
theorem not_bit {a : Int} (ha : Bit a) : Bit (wrap64 (1 - a)) := by
  rcases ha with rfl | rfl <;> (unfold Bit; decide +kernel)

/-- All entries are 0 or 1. -/
def Bits (xs : List Int) : Prop := ∀ j : Nat, j < xs.length → Bit (rd xs (j : Int))
theorem Bits.at {xs : List Int} (h : Bits xs) {i : Int} (h0 : 0 ≤ i) (h1 : i < (xs.length : Int)) : Bit (rd xs i) := by
  obtain ⟨n, rfl⟩ := Int.eq_ofNat_of_zero_le h0
  exact h n (by omega)
theorem Bits.snoc {xs : List Int} {v : Int} (h : Bits xs) (hv : Bit v) : Bits (xs ++ [v]) := by
  intro j hj
  by_cases e : j < xs.length
  · rw [rd_app_lt e]
    exact h j e
  · have : j = xs.length := by
      simp at hj
      omega
    subst this
    rw [rd_app_eq]
    exact hv

theorem both_truths_loop (l : List S37) (facts : Int) (hT : TimesOk l facts) (bits : List Int) (hb : Bits bits) (hbl : (bits.length : Int) = facts + (manyL l : Int)) :
    ∀ (d i c : Nat) (xs ys : List Int), i + d = l.length → c + cntL l d i = manyL l → xs.length = i → ys.length = l.length → Bits xs → (∀ j : Nat, j < i → rd ys (j : Int) = rd xs (j : Int)) →
    ∃ r, Ev (fun k => spec_l21Truths.l0 k l bits xs (facts + (c : Int)) (i : Int)) r ∧ Ev (fun k => impl_truths.l0 k bits ys (facts + (c : Int)) l (l.length : Int) (i : Int)) r ∧ r.length = l.length ∧ Bits r := by
  intro d
  have hf := hT.1
  have hl := hT.2.1
  induction d with
  | zero =>
    intro i c xs ys hi hc hx hy hB hE
    refine ⟨xs, Ev.step (Ev.neg (by omega) (Ev.val _)) (fun k => spec_l21Truths.l0.eq_2 ..), Ev.step (Ev.neg (by omega) (Ev.valEq ?_)) (fun k => impl_truths.l0.eq_2 ..), by omega, hB⟩
    exact list_eq_rd (by omega) (fun j hj => hE j (by omega))
  | succ d ih =>
    intro i c xs ys hi hc hx hy hB hE
    have hS := hT.2.2 i (by omega) (by omega)
    have hcl : manyL l ≤ l.length := cntL_le l l.length 0
    unfold StepAt at hS
    unfold cntL at hc
    have key : ∀ (v : Int) (c' : Nat), Bit v → c' + cntL l d (i + 1) = manyL l →
        ∃ r, Ev (fun k => spec_l21Truths.l0 k l bits (xs ++ [v]) (facts + (c' : Int)) ((i + 1 : Nat) : Int)) r ∧ Ev (fun k => impl_truths.l0 k bits (ys.set i v) (facts + (c' : Int)) l (l.length : Int) ((i + 1 : Nat) : Int)) r ∧ r.length = l.length ∧ Bits r := by
      intro v c' hv hc'
      refine ih (i + 1) c' (xs ++ [v]) (ys.set i v) (by omega) hc' (by simp; omega) (by simpa using hy) (hB.snoc hv) ?_
      intro j hj
      by_cases e : j = i
      · subst e
        rw [rd_set_eq (by omega)]
        have := rd_app_eq (l := xs) (v := v)
        rw [hx] at this
        exact this.symm
      · rw [rd_set_ne (by omega), rd_app_lt (by omega)]
        exact hE j (by omega)
    have hyx : ∀ z : Int, 0 ≤ z → z < (i : Int) → rd ys z = rd xs z := by
      intro z h0 h1
      obtain ⟨n, rfl⟩ := Int.eq_ofNat_of_zero_le h0
      exact hE n (by omega)
    have hwi := wsucc i (by omega)
    generalize ht : rd_T37 l (i : Int) = t at hS hc
    obtain ⟨f0, f1, f2, f3⟩ := t
    simp only at hS hc
    rcases hS with ⟨e0, e1, e2, e3⟩ | ⟨e0, e1, e2, e3, e4⟩ | ⟨g0, g1, g2, g3, g4, g5, g6, g7⟩
    · subst e0
      obtain ⟨r, h1, h2, h3⟩ := key 1 c (.inr rfl) (by simpa using hc)
      refine ⟨r, Ev.step ?_ (fun k => spec_l21Truths.l0.eq_2 ..), Ev.step ?_ (fun k => impl_truths.l0.eq_2 ..), h3⟩
      · rw [ht, hwi]
        exact Ev.pos (by omega) (Ev.pos (by omega) (Ev.neg (by simp) (Ev.neg (by simp) (Ev.neg (by simp) (Ev.neg (by simp) (Ev.neg (by simp) (Ev.pos (by omega) h1)))))))
      · rw [ht, hwi, Int.toNat_natCast]
        exact Ev.pos (by omega) (Ev.pos (by omega) (Ev.pos (by omega) (Ev.pos rfl (Ev.pos (by omega) h2))))
    · subst e0
      have hv : Bit (rd bits f1) := hb.at e1 (by omega)
      obtain ⟨r, h1, h2, h3⟩ := key (rd bits f1) c hv (by simpa using hc)
      refine ⟨r, Ev.step ?_ (fun k => spec_l21Truths.l0.eq_2 ..), Ev.step ?_ (fun k => impl_truths.l0.eq_2 ..), h3⟩
      · rw [ht, hwi]
        exact Ev.pos (by omega) (Ev.pos (by omega) (Ev.pos rfl (Ev.pos e1 (Ev.pos (by show f1 < _; omega) (Ev.pos (by omega) h1)))))
      · rw [ht, hwi, Int.toNat_natCast]
        exact Ev.pos (by omega) (Ev.pos (by omega) (Ev.pos (by omega) (Ev.neg (by simp) (Ev.pos rfl (Ev.pos e1 (Ev.pos (by show f1 < _; omega) (Ev.pos (by omega) h2)))))))
    · have hx2 : Bit (rd xs f2) := hB.at g3 (by omega)
      have hx3 : Bit (rd xs f3) := hB.at g5 (by omega)
      have hy2 := hyx f2 g3 g4
      have hy3 := hyx f3 g5 g6
      have hcase : f0 = 2 ∨ f0 = 3 ∨ f0 = 4 ∨ 5 ≤ f0 := by omega
      rcases hcase with e | e | e | e
      · subst e
        obtain ⟨r, h1, h2, h3⟩ := key (wrap64 (1 - rd xs f2)) c (not_bit hx2) (by simpa using hc)
        refine ⟨r, Ev.step ?_ (fun k => spec_l21Truths.l0.eq_2 ..), Ev.step ?_ (fun k => impl_truths.l0.eq_2 ..), h3⟩
        · rw [ht, hwi]
          exact Ev.pos (by omega) (Ev.pos (by omega) (Ev.neg (by simp) (Ev.pos rfl (Ev.pos g3 (Ev.pos (by show f2 < _; omega) (Ev.pos (by omega) h1))))))
        · rw [ht, hwi, Int.toNat_natCast]
          refine Ev.pos (by omega) (Ev.pos (by omega) (Ev.pos (by omega) (Ev.neg (by simp) (Ev.neg (by simp) (Ev.pos rfl (Ev.pos g3 (Ev.pos (by show f2 < _; omega) (Ev.pos (by omega) ?_))))))))
          show Ev (fun k => impl_truths.l0 k bits (ys.set i (wrap64 (1 - rd ys f2))) _ _ _ _) r
          rw [hy2]
          exact h2
      · subst e
        obtain ⟨r, h1, h2, h3⟩ := key (wrap64 (rd xs f2 * rd xs f3)) c (and_bits hx2 hx3).2 (by simpa using hc)
        refine ⟨r, Ev.step ?_ (fun k => spec_l21Truths.l0.eq_2 ..), Ev.step ?_ (fun k => impl_truths.l0.eq_2 ..), h3⟩
        · rw [ht, hwi]
          exact Ev.pos (by omega) (Ev.pos (by omega) (Ev.neg (by simp) (Ev.neg (by simp) (Ev.pos rfl (Ev.pos g3 (Ev.pos (by show f2 < _; omega) (Ev.pos g5 (Ev.pos (by show f3 < _; omega) (Ev.pos (by omega) h1)))))))))
        · rw [ht, hwi, Int.toNat_natCast]
          refine Ev.pos (by omega) (Ev.pos (by omega) (Ev.pos (by omega) (Ev.neg (by simp) (Ev.neg (by simp) (Ev.neg (by simp) (Ev.pos rfl (Ev.pos g3 (Ev.pos (by show f2 < _; omega) (Ev.pos g5 (Ev.pos (by show f3 < _; omega) (Ev.pos (by omega) ?_)))))))))))
          show Ev (fun k => impl_truths.l0 k bits (ys.set i (Go.bits .and .i64 (rd ys f2) (rd ys f3))) _ _ _ _) r
          rw [hy2, hy3, (and_bits hx2 hx3).1]
          exact h2
      · subst e
        obtain ⟨v, hv1, hv2, hv3⟩ := or_bits hx2 hx3
        obtain ⟨r, h1, h2, h3⟩ := key v c hv3 (by simpa using hc)
        refine ⟨r, Ev.step ?_ (fun k => spec_l21Truths.l0.eq_2 ..), Ev.step ?_ (fun k => impl_truths.l0.eq_2 ..), h3⟩
        · rw [ht, hwi]
          exact Ev.pos (by omega) (Ev.pos (by omega) (Ev.neg (by simp) (Ev.neg (by simp) (Ev.neg (by simp) (Ev.pos rfl (Ev.pos g3 (Ev.pos (by show f2 < _; omega) (Ev.pos g5 (Ev.pos (by show f3 < _; omega) (Ev.bind (Ev.const hv1) (Ev.pos (by omega) h1)))))))))))
        · rw [ht, hwi, Int.toNat_natCast]
          refine Ev.pos (by omega) (Ev.pos (by omega) (Ev.pos (by omega) (Ev.neg (by simp) (Ev.neg (by simp) (Ev.neg (by simp) (Ev.neg (by simp) (Ev.pos rfl (Ev.pos g3 (Ev.pos (by show f2 < _; omega) (Ev.pos g5 (Ev.pos (by show f3 < _; omega) (Ev.pos (by omega) ?_))))))))))))
          show Ev (fun k => impl_truths.l0 k bits (ys.set i (Go.bits .or .i64 (rd ys f2) (rd ys f3))) _ _ _ _) r
          rw [hy2, hy3, hv2]
          exact h2
      · rw [if_pos e] at hc
        have hv : Bit (rd bits (facts + (c : Int))) := hb.at (by omega) (by omega)
        obtain ⟨r, h1, h2, h3⟩ := key (rd bits (facts + (c : Int))) (c + 1) hv (by omega)
        have hwc : wrap64 (facts + (c : Int) + 1) = facts + ((c + 1 : Nat) : Int) := by
          rw [w_id (by omega) (by omega)]
          omega
        refine ⟨r, Ev.step ?_ (fun k => spec_l21Truths.l0.eq_2 ..), Ev.step ?_ (fun k => impl_truths.l0.eq_2 ..), h3⟩
        · rw [ht, hwi, hwc]
          exact Ev.pos (by omega) (Ev.pos (by omega) (Ev.neg (by show ¬ f0 = 1; omega) (Ev.neg (by show ¬ f0 = 2; omega) (Ev.neg (by show ¬ f0 = 3; omega) (Ev.neg (by show ¬ f0 = 4; omega) (Ev.pos e (Ev.pos (by omega) (Ev.pos (by omega) (Ev.pos (by omega) h1)))))))))
        · rw [ht, hwi, hwc, Int.toNat_natCast]
          exact Ev.pos (by omega) (Ev.pos (by omega) (Ev.pos (by omega) (Ev.neg (by show ¬ f0 = 0; omega) (Ev.neg (by show ¬ f0 = 1; omega) (Ev.neg (by show ¬ f0 = 2; omega) (Ev.neg (by show ¬ f0 = 3; omega) (Ev.neg (by show ¬ f0 = 4; omega) (Ev.pos (by omega) (Ev.pos (by omega) (Ev.pos (by omega) h2))))))))))

/-- What both make of a guess. -/
theorem both_truths (l : List S37) (facts n : Int) (h : AskedOk l facts) (h0 : 0 ≤ n) (h1 : n < 9223372036854775808) :
    ∃ r, Ev (fun k => spec_l21At.f k l facts n) r ∧ Ev (fun k => impl_truths.f k l facts n) r ∧ r.length = l.length ∧ Bits r := by
  obtain ⟨hT, h7⟩ := h
  have hf := hT.1
  have hl := hT.2.1
  have h4 : (stepsL l l.length 0 []).length = manyL l := steps_len l
  have em : facts + (manyL l : Int) = ((facts.toNat + manyL l : Nat) : Int) := by omega
  have hB : Bits (bitsD n (facts.toNat + manyL l)) := fun j hj => bitsD_bit n _ j (by rw [bitsD_length] at hj; exact hj)
  obtain ⟨r, e1, e2, e3, e4⟩ := both_truths_loop l facts hT (bitsD n (facts.toNat + manyL l)) hB (by rw [bitsD_length]; omega) l.length 0 0 [] (List.replicate l.length 0) (by omega) (by simp [manyL]) rfl (by simp) (fun j hj => by simp at hj) (fun j hj => by omega)
  refine ⟨r, ?_, ?_, e3, e4⟩
  · unfold spec_l21At.f
    refine Ev.bind (spec_steps l hl.2) ?_
    rw [h4, w_id (by omega) (by omega), em]
    refine Ev.bind (spec_value n h0 _ (by omega)) ?_
    unfold spec_l21Truths.f
    refine Ev.bind (a := r) ?_ (Ev.val _)
    simpa using e1
  · unfold impl_truths.f
    refine Ev.bind (impl_guessed_yes l facts hT) ?_
    simp only
    rw [h4, w_id (by omega) (by omega), em]
    refine Ev.bind (impl_bits n h0 h1 _ (by omega)) ?_
    refine Ev.pos (by omega) (Ev.pos (by omega) ?_)
    rw [Int.toNat_natCast]
    simpa using e2

theorem countL_le (l : List S37) (facts : Int) : 0 ≤ countL l facts ∧ countL l facts ≤ 128 := by
  unfold countL
  by_cases h : AskedOk l facts
  · rw [if_pos h]
    have h1 := h.1.1
    have h2 := h.2
    have : facts.toNat + manyL l ≤ 7 := by omega
    have h3 : 2 ^ (facts.toNat + manyL l) ≤ 2 ^ 7 := Nat.pow_le_pow_right (by decide) this
    generalize 2 ^ (facts.toNat + manyL l) = z at h3 ⊢
    omega
  · rw [if_neg h]
    omega
theorem countL_pos (l : List S37) (facts : Int) (h : 0 < countL l facts) : AskedOk l facts := by
  unfold countL at h
  by_cases h1 : AskedOk l facts
  · exact h1
  · rw [if_neg h1] at h
    omega

/-! #### the law's own copies of formulas -/
theorem sz_times (l : List S58) (h : l.length ≤ maxLen) : ∃ z, laws_szTimeS.f l 1048576 = some z ∧ (z < 0 ∨ l.length ≤ 1048576) := by
  unfold laws_szTimeS.f
  simp only [maxLen] at h
  rw [w_id (by omega) (by omega)]
  by_cases c : 1048576 - (l.length : Int) < 0
  · rw [if_pos c]
    exact ⟨_, rfl, .inl (by decide)⟩
  · rw [if_neg c]
    exact ⟨_, rfl, .inr (by omega)⟩
theorem to_times_loop (l : List S58) (hl : l.length ≤ 1048576) : ∀ (d i : Nat) (ys : List S37), i + d = l.length → ys.length = l.length →
    ∃ r, Ev (fun k => laws_toTimeS.l0 k l ys (i : Int)) r := by
  intro d
  induction d with
  | zero =>
    intro i ys hi hy
    exact ⟨ys, Ev.step (Ev.neg (by omega) (Ev.val _)) (fun k => laws_toTimeS.l0.eq_2 ..)⟩
  | succ d ih =>
    intro i ys hi hy
    have hwi := wsucc i (by omega)
    obtain ⟨r, hr⟩ := ih (i + 1) (ys.set i (⟨(rd_T58 l (i : Int)).f0, (rd_T58 l (i : Int)).f1, (rd_T58 l (i : Int)).f2, (rd_T58 l (i : Int)).f3⟩ : S37)) (by omega) (by simpa using hy)
    refine ⟨r, Ev.step ?_ (fun k => laws_toTimeS.l0.eq_2 ..)⟩
    rw [hwi, Int.toNat_natCast]
    exact Ev.pos (by omega) (Ev.pos (by omega) (Ev.bind (Ev.const (by unfold laws_toTime.f; rfl)) (Ev.pos (by omega) hr)))
theorem to_times (l : List S58) (hl : l.length ≤ 1048576) : ∃ r, Ev (fun k => laws_toTimeS.f k l) r := by
  unfold laws_toTimeS.f
  obtain ⟨r, hr⟩ := to_times_loop l hl l.length 0 (List.replicate l.length z37) (by omega) (by simp)
  refine ⟨r, Ev.pos (by omega) (Ev.pos (by omega) ?_)⟩
  rw [Int.toNat_natCast]
  exact hr
theorem eq_times_loop (l : List S37) (hl : l.length ≤ 4611686018427387904) : ∀ (d i : Nat), i + d = l.length → Ev (fun k => laws_eqTimeS.l0 k l l (i : Int)) true := by
  intro d
  induction d with
  | zero =>
    intro i hi
    exact Ev.step (Ev.neg (by omega) (Ev.val _)) (fun k => laws_eqTimeS.l0.eq_2 ..)
  | succ d ih =>
    intro i hi
    have hwi := wsucc i (by omega)
    refine Ev.step ?_ (fun k => laws_eqTimeS.l0.eq_2 ..)
    rw [hwi]
    exact Ev.pos (by omega) (Ev.pos (by omega) (Ev.pos (by omega) (Ev.bind (Ev.const (by unfold laws_eqTime.f; simp)) (Ev.pos rfl (ih (i + 1) (by omega))))))
theorem eq_times (l : List S37) (hl : l.length ≤ 4611686018427387904) : Ev (fun k => laws_eqTimeS.f k l l) true := by
  unfold laws_eqTimeS.f
  exact Ev.pos rfl (eq_times_loop l hl l.length 0 (by omega))
theorem to_times_len_loop (l : List S58) : ∀ (k : Nat) (i : Int) (ys r : List S37), laws_toTimeS.l0 k l ys i = some r → r.length = ys.length := by
  intro k
  induction k with
  | zero => intro i ys r h; simp [laws_toTimeS.l0] at h
  | succ k ih =>
    intro i ys r h
    rw [laws_toTimeS.l0.eq_2] at h
    split at h
    · split at h
      · rw [Option.bind_eq_some_iff] at h
        obtain ⟨t, _, h⟩ := h
        split at h
        · have := ih _ _ _ h
          simpa using this
        · cases h
      · cases h
    · cases h; rfl
theorem to_times_len (l : List S58) (r : List S37) (h : Ev (fun k => laws_toTimeS.f k l) r) : r.length = l.length := by
  obtain ⟨k, hk⟩ := h.get
  unfold laws_toTimeS.f at hk
  split at hk
  · split at hk
    · have := to_times_len_loop l _ _ _ _ hk
      simpa using this
    · cases hk
  · cases hk

/-! #### the law's own comparisons and marks of lists of numbers -/
theorem eq_ints_loop (l : List Int) (hl : l.length ≤ 4611686018427387904) : ∀ (d i : Nat), i + d = l.length → Ev (fun k => laws_eqIntS.l0 k l l (i : Int)) true := by
  intro d
  induction d with
  | zero =>
    intro i hi
    exact Ev.step (Ev.neg (by omega) (Ev.val _)) (fun k => laws_eqIntS.l0.eq_2 ..)
  | succ d ih =>
    intro i hi
    have hwi := wsucc i (by omega)
    refine Ev.step ?_ (fun k => laws_eqIntS.l0.eq_2 ..)
    rw [hwi]
    exact Ev.pos (by omega) (Ev.pos (by omega) (Ev.pos (by omega) (Ev.pos rfl (ih (i + 1) (by omega)))))
theorem eq_ints (l : List Int) (hl : l.length ≤ 4611686018427387904) : Ev (fun k => laws_eqIntS.f k l l) true := by
  unfold laws_eqIntS.f
  exact Ev.pos rfl (eq_ints_loop l hl l.length 0 (by omega))
theorem mark_ints_loop (n : Nat) (hn : n ≤ 1048576) : ∀ (d i : Nat) (ys : List Int), i + d = n → ys.length = n → (∀ j : Nat, j < i → rd ys (j : Int) = 1 + (j : Int)) →
    ∃ zs : List Int, zs.length = n ∧ (∀ j : Nat, j < n → rd zs (j : Int) = 1 + (j : Int)) ∧ Ev (fun k => laws_markIntS.l0 k ys (1 + (i : Int)) (i : Int)) (1 + (n : Int), zs) := by
  intro d
  induction d with
  | zero =>
    intro i ys hi hy h
    have : i = n := by omega
    subst this
    exact ⟨ys, hy, h, Ev.step (Ev.neg (by omega) (Ev.val _)) (fun k => laws_markIntS.l0.eq_2 ..)⟩
  | succ d ih =>
    intro i ys hi hy h
    have hwi := wsucc i (by omega)
    have hw : wrap64 (1 + (i : Int) + 1) = 1 + ((i + 1 : Nat) : Int) := by
      rw [w_id (by omega) (by omega)]
      omega
    obtain ⟨zs, h1, h2, h3⟩ := ih (i + 1) (ys.set i (1 + (i : Int))) (by omega) (by simpa using hy) (by
      intro j hj
      by_cases e : j = i
      · subst e
        rw [rd_set_eq (by omega)]
      · rw [rd_set_ne (by omega)]
        exact h j (by omega))
    refine ⟨zs, h1, h2, Ev.step ?_ (fun k => laws_markIntS.l0.eq_2 ..)⟩
    rw [hwi, hw, Int.toNat_natCast]
    exact Ev.pos (by omega) (Ev.pos (by omega) h3)
theorem held_ints_loop (n : Nat) (hn : n ≤ 1048576) (zs : List Int) (hz : zs.length = n) (h : ∀ j : Nat, j < n → rd zs (j : Int) = 1 + (j : Int)) : ∀ (d i : Nat), i + d = n →
    Ev (fun k => laws_heldIntS.l0 k zs (1 + (i : Int)) (i : Int)) (1 + (n : Int)) := by
  intro d
  induction d with
  | zero =>
    intro i hi
    have : i = n := by omega
    subst this
    exact Ev.step (Ev.neg (by omega) (Ev.val _)) (fun k => laws_heldIntS.l0.eq_2 ..)
  | succ d ih =>
    intro i hi
    have hwi := wsucc i (by omega)
    have hw : wrap64 (1 + (i : Int) + 1) = 1 + ((i + 1 : Nat) : Int) := by
      rw [w_id (by omega) (by omega)]
      omega
    refine Ev.step ?_ (fun k => laws_heldIntS.l0.eq_2 ..)
    rw [hwi, hw]
    exact Ev.pos (by omega) (Ev.pos (by omega) (Ev.pos (h i (by omega)) (ih (i + 1) (by omega))))
/-- What is marked is held. -/
theorem mark_held_ints (l : List Int) (hl : l.length ≤ 1048576) : ∃ zs : List Int, Ev (fun k => laws_markIntS.f k l 1) (1 + (l.length : Int), zs) ∧ Ev (fun k => laws_heldIntS.f k zs 1) (1 + (l.length : Int)) := by
  obtain ⟨zs, h1, h2, h3⟩ := mark_ints_loop l.length hl l.length 0 l (by omega) rfl (fun j hj => by omega)
  exact ⟨zs, h3, held_ints_loop l.length hl zs h1 h2 l.length 0 (by omega)⟩

theorem mark_times_loop (n : Nat) (hn : n ≤ 1048576) : ∀ (d i : Nat) (c : Int) (ys : List S37), i + d = n → ys.length = n → c = 1 + 4 * (i : Int) →
    ∃ zs, Ev (fun k => laws_markTimeS.l0 k ys c (i : Int)) (1 + 4 * (n : Int), zs) := by
  intro d
  induction d with
  | zero =>
    intro i c ys hi hy hc
    have : i = n := by omega
    subst this
    subst hc
    exact ⟨ys, Ev.step (Ev.neg (by omega) (Ev.val _)) (fun k => laws_markTimeS.l0.eq_2 ..)⟩
  | succ d ih =>
    intro i c ys hi hy hc
    have hwi := wsucc i (by omega)
    have w1 : wrap64 (c + 1) = c + 1 := w_id (by omega) (by omega)
    have w2 : wrap64 (c + 1 + 1) = c + 1 + 1 := w_id (by omega) (by omega)
    have w3 : wrap64 (c + 1 + 1 + 1) = c + 1 + 1 + 1 := w_id (by omega) (by omega)
    have w4 : wrap64 (c + 1 + 1 + 1 + 1) = c + 1 + 1 + 1 + 1 := w_id (by omega) (by omega)
    refine Ev.exStep ?_ (fun k => laws_markTimeS.l0.eq_2 ..)
    simp only [w1, w2, w3, w4, hwi, Int.toNat_natCast, Option.bind_some]
    exact Ev.exPos (by omega) (Ev.exPos (by omega) (ih (i + 1) _ _ (by omega) (by simpa using hy) (by omega)))
theorem mark_times (l : List S37) (hl : l.length ≤ 1048576) : ∃ zs, Ev (fun k => laws_markTimeS.f k l 1) (1 + 4 * (l.length : Int), zs) :=
  mark_times_loop l.length hl l.length 0 1 l (by omega) rfl (by omega)

theorem keep_until {x b : Int} (hx : Bit x) (hb : Bit b) :
    (x = 0 → Go.bits .or .i64 (wrap64 (1 - x)) b = 1) ∧ (¬ x = 0 → spec_l1Truth.f (b == 1) = some (Go.bits .or .i64 (wrap64 (1 - x)) b)) := by
  rcases hx with rfl | rfl <;> rcases hb with rfl | rfl <;> decide +kernel
theorem keep_release {x b : Int} (hx : Bit x) (hb : Bit b) :
    (x = 1 → Go.bits .or .i64 x (wrap64 (1 - b)) = 1) ∧ (¬ x = 1 → spec_l1Truth.f (b == 0) = some (Go.bits .or .i64 x (wrap64 (1 - b)))) := by
  rcases hx with rfl | rfl <;> rcases hb with rfl | rfl <;> decide +kernel
theorem truth_t : spec_l1Truth.f true = some 1 := by decide +kernel
theorem both_kept_loop (l : List S37) (facts : Int) (hT : TimesOk l facts) (xs : List Int) (hx : xs.length = l.length) (bx : Bits xs) :
    ∀ (d i : Nat) (acc : List Int), i + d = l.length → acc.length ≤ i → ∃ r, Ev (fun k => spec_l21Kept.l0 k l xs acc (i : Int)) r ∧ Ev (fun k => impl_keeps.l0 k xs acc l (l.length : Int) (i : Int)) r ∧ r.length ≤ l.length := by
  intro d
  have hl := hT.2.1
  induction d with
  | zero =>
    intro i acc hi ha
    have hc : impl_clone_int.f acc = some acc := by
      unfold impl_clone_int.f
      rw [if_pos (by omega)]
    exact ⟨acc, Ev.step (Ev.neg (by omega) (Ev.val _)) (fun k => spec_l21Kept.l0.eq_2 ..), Ev.step (Ev.neg (by omega) (Ev.bind (Ev.const hc) (Ev.val _))) (fun k => impl_keeps.l0.eq_2 ..), by omega⟩
  | succ d ih =>
    intro i acc hi ha
    have hS := hT.2.2 i (by omega) (by omega)
    unfold StepAt at hS
    have hwi := wsucc i (by omega)
    have key := fun v => ih (i + 1) (acc ++ [v]) (by omega) (by simp; omega)
    generalize ht : rd_T37 l (i : Int) = t at hS
    obtain ⟨f0, f1, f2, f3⟩ := t
    simp only at hS
    have vx : Bit (rd xs (i : Int)) := bx.at (by omega) (by omega)
    by_cases c6 : f0 = 6
    · subst c6
      have h3 : 0 ≤ f3 ∧ f3 < (i : Int) := by rcases hS with h | h | h <;> omega
      have vb : Bit (rd xs f3) := bx.at h3.1 (by omega)
      obtain ⟨u1, u2⟩ := keep_until vx vb
      obtain ⟨r, h1, h2, h4⟩ := key (Go.bits .or .i64 (wrap64 (1 - rd xs (i : Int))) (rd xs f3))
      refine ⟨r, Ev.step ?_ (fun k => spec_l21Kept.l0.eq_2 ..), Ev.step ?_ (fun k => impl_keeps.l0.eq_2 ..), h4⟩
      · rw [ht, hwi]
        refine Ev.pos (by omega) (Ev.pos (by omega) (Ev.pos rfl (Ev.pos (by omega) ?_)))
        by_cases c : rd xs (i : Int) = 0
        · refine Ev.pos c (Ev.bind (Ev.const truth_t) (Ev.pos (by omega) ?_))
          rw [u1 c] at h1
          exact h1
        · exact Ev.neg c (Ev.pos h3.1 (Ev.pos (by show f3 < _; omega) (Ev.bind (Ev.const (u2 c)) (Ev.pos (by omega) h1))))
      · rw [ht, hwi]
        exact Ev.pos (by omega) (Ev.pos (by omega) (Ev.pos (by omega) (Ev.pos rfl (Ev.pos (by omega) (Ev.pos h3.1 (Ev.pos (by show f3 < _; omega) (Ev.pos (by omega) h2)))))))
    · by_cases c7 : f0 = 7
      · subst c7
        have h3 : 0 ≤ f3 ∧ f3 < (i : Int) := by rcases hS with h | h | h <;> omega
        have vb : Bit (rd xs f3) := bx.at h3.1 (by omega)
        obtain ⟨u1, u2⟩ := keep_release vx vb
        obtain ⟨r, h1, h2, h4⟩ := key (Go.bits .or .i64 (rd xs (i : Int)) (wrap64 (1 - rd xs f3)))
        refine ⟨r, Ev.step ?_ (fun k => spec_l21Kept.l0.eq_2 ..), Ev.step ?_ (fun k => impl_keeps.l0.eq_2 ..), h4⟩
        · rw [ht, hwi]
          refine Ev.pos (by omega) (Ev.pos (by omega) (Ev.neg (by simp) (Ev.pos rfl (Ev.pos (by omega) ?_))))
          by_cases c : rd xs (i : Int) = 1
          · refine Ev.pos c (Ev.bind (Ev.const truth_t) (Ev.pos (by omega) ?_))
            rw [u1 c] at h1
            exact h1
          · exact Ev.neg c (Ev.pos h3.1 (Ev.pos (by show f3 < _; omega) (Ev.bind (Ev.const (u2 c)) (Ev.pos (by omega) h1))))
        · rw [ht, hwi]
          exact Ev.pos (by omega) (Ev.pos (by omega) (Ev.pos (by omega) (Ev.neg (by simp) (Ev.pos rfl (Ev.pos (by omega) (Ev.pos h3.1 (Ev.pos (by show f3 < _; omega) (Ev.pos (by omega) h2))))))))
      · obtain ⟨r, h1, h2, h4⟩ := ih (i + 1) acc (by omega) (by omega)
        refine ⟨r, Ev.step ?_ (fun k => spec_l21Kept.l0.eq_2 ..), Ev.step ?_ (fun k => impl_keeps.l0.eq_2 ..), h4⟩
        · rw [ht, hwi]
          exact Ev.pos (by omega) (Ev.pos (by omega) (Ev.neg c6 (Ev.neg c7 h1)))
        · rw [ht, hwi]
          exact Ev.pos (by omega) (Ev.pos (by omega) (Ev.pos (by omega) (Ev.neg c6 (Ev.neg c7 h2))))
theorem both_GuessKept (l : List S37) (facts n : Int) : ∃ r, Ev (fun k => spec_GuessKept.f k l facts n) r ∧ Ev (fun k => impl_GuessKept.f k l facts n) r ∧ r.length ≤ 24 := by
  unfold spec_GuessKept.f impl_GuessKept.f
  obtain ⟨hc0, hc1⟩ := countL_le l facts
  have hw : wrap64 (countL l facts - 1) = countL l facts - 1 := w_id (by omega) (by omega)
  by_cases hn : 0 ≤ n ∧ n ≤ countL l facts - 1
  · have hA := countL_pos l facts (by omega)
    obtain ⟨xs, x1, x2, x3, x4⟩ := both_truths l facts n hA hn.1 (by omega)
    have := hA.1.2.1
    obtain ⟨r, r1, r2, r3⟩ := both_kept_loop l facts hA.1 xs x3 x4 l.length 0 [] (by omega) (by simp)
    refine ⟨r, ?_, ?_, by omega⟩
    · exact Ev.bind (spec_count l facts) (Ev.bind (Ev.const (by rw [hw]; exact in_yes hn)) (Ev.pos rfl (Ev.bind x1 (Ev.bind (a := r) r1 (Ev.val _)))))
    · exact Ev.bind (impl_count l facts) (Ev.bind (Ev.const (by rw [hw]; exact iin_yes hn)) (Ev.pos rfl (Ev.bind x2 (Ev.bind (a := r) r2 (Ev.val _)))))
  · refine ⟨[], ?_, ?_, by simp⟩
    · exact Ev.bind (spec_count l facts) (Ev.bind (Ev.const (by rw [hw]; exact in_no hn)) (Ev.neg (by decide) (Ev.val _)))
    · exact Ev.bind (impl_count l facts) (Ev.bind (Ev.const (by rw [hw]; exact iin_no hn)) (Ev.neg (by decide) (Ev.val _)))
theorem FnExactGuessKept : laws_FnExactGuessKept.Pure := by
  intro l a1 a2 hl _ _
  obtain ⟨z, hz, hz2⟩ := sz_times l hl.1
  apply Ev.get
  unfold laws_FnExactGuessKept.f
  refine Ev.bind (Ev.const hz) ?_
  by_cases c : z < 0
  · exact Ev.pos c (Ev.val _)
  · refine Ev.neg c ?_
    have hl2 : l.length ≤ 1048576 := by omega
    obtain ⟨t, ht⟩ := to_times l hl2
    have htl := to_times_len l t ht
    obtain ⟨r, h1, h2, h3⟩ := both_GuessKept t a1 a2
    obtain ⟨ms, hm⟩ := mark_times t (by omega)
    obtain ⟨zs, m1, m2⟩ := mark_held_ints r (by omega)
    have er := eq_ints r (by omega)
    refine Ev.bind ht (Ev.bind h1 (Ev.bind ht (Ev.bind h2 (Ev.bind er (Ev.pos rfl (Ev.bind ht (Ev.bind (eq_times t (by omega)) (Ev.pos rfl (Ev.bind hm (Ev.neg (by show ¬ (1 + 4 * (t.length : Int) < 0); omega) (Ev.bind er (Ev.step ?_ (fun k => laws_FnExactGuessKept.j0.eq_2 ..)))))))))))))
    refine Ev.neg (by decide) (Ev.bind m1 (Ev.bind m2 (Ev.neg (by show ¬ (1 + (r.length : Int) < 0); omega) (Ev.pos rfl (Ev.bind ht (Ev.bind h2 (Ev.bind er (Ev.pos rfl (Ev.bind m2 (Ev.neg (by show ¬ (1 + (r.length : Int) < 0); omega) (Ev.pos rfl (Ev.val _))))))))))))

end Go.Proofs.Ytdigdhckbhlkmaa.Pure
