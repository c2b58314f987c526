/- FnGuessNext: whether one guess may come behind another; where a step until or release is not kept, the next guess has its truth as well; for every input. -/
import Derived.Test.YtdigdhckbhlkmaaQFnGuessNextx12
namespace Go.Proofs.Ytdigdhckbhlkmaa.Pure
open Go.RowKit Go.Proofs.Ytdigdhckbhlkmaa.QFnGuessNext Go.Proofs.YtdigdhckbhlkmaaW.PrintWords Go.Proofs.YtdigdhckbhlkmaaW.PrintLast Go.Proofs.YtdigdhckbhlkmaaW.PrintMore
set_option linter.unusedVariables false
set_option linter.unusedSimpArgs false

/-! #### rounds -/
/-- From some number of rounds on, g tells r. -/
def Ev {α : Type} (g : Nat → Option α) (r : α) : Prop := ∃ K, ∀ k, K ≤ k → g k = some r
theorem Ev.val {α : Type} (r : α) : Ev (fun _ => some r) r := ⟨0, fun _ _ => rfl⟩
theorem Ev.valEq {α : Type} {r r' : α} (h : r = r') : Ev (fun _ => some r) r' := ⟨0, fun _ _ => by rw [h]⟩
theorem Ev.const {α : Type} {g : Option α} {r : α} (h : g = some r) : Ev (fun _ => g) r := ⟨0, fun _ _ => h⟩
theorem Ev.bind {α β : Type} {g : Nat → Option α} {f : Nat → α → Option β} {a : α} {b : β} (h : Ev g a) (h2 : Ev (fun k => f k a) b) : Ev (fun k => (g k).bind (f k)) b := by
  obtain ⟨K, hK⟩ := h
  obtain ⟨L, hL⟩ := h2
  exact ⟨max K L, fun k hk => by show (g k).bind (f k) = _; rw [hK k (by omega)]; exact hL k (by omega)⟩
theorem Ev.step {α : Type} {g g' : Nat → Option α} {r : α} (h : Ev g' r) (e : ∀ k, g (k + 1) = g' k) : Ev g r := by
  obtain ⟨K, hK⟩ := h
  exact ⟨K + 1, fun k hk => by
    obtain ⟨m, rfl⟩ : ∃ m, k = m + 1 := ⟨k - 1, by omega⟩
    rw [e]
    exact hK m (by omega)⟩
theorem Ev.pos {α : Type} {c : Prop} [Decidable c] {g g' : Nat → Option α} {r : α} (hc : c) (h : Ev g r) : Ev (fun k => if c then g k else g' k) r := by
  obtain ⟨K, hK⟩ := h
  exact ⟨K, fun k hk => by simp only [if_pos hc]; exact hK k hk⟩
theorem Ev.neg {α : Type} {c : Prop} [Decidable c] {g g' : Nat → Option α} {r : α} (hc : ¬ c) (h : Ev g' r) : Ev (fun k => if c then g k else g' k) r := by
  obtain ⟨K, hK⟩ := h
  exact ⟨K, fun k hk => by simp only [if_neg hc]; exact hK k hk⟩
theorem Ev.get {α : Type} {g : Nat → Option α} {r : α} (h : Ev g r) : ∃ k, g k = some r := by
  obtain ⟨K, hK⟩ := h
  exact ⟨K, hK K (Nat.le_refl _)⟩
theorem Ev.to {α : Type} {g : Nat → Option α} {r r' : α} (h : Ev g r) (e : r = r') : Ev g r' := e ▸ h
/-! #### numbers -/
theorem w_id {x : Int} (h0 : -9223372036854775808 ≤ x) (h1 : x ≤ 9223372036854775807) : wrap64 x = x := by
  unfold wrap64
  omega
/-! #### lists -/
theorem rd_nat (l : List Int) (i : Nat) : rd l (i : Int) = l.getD i 0 := by
  unfold rd
  rw [Int.toNat_natCast]
theorem getD_lt {α : Type} {l : List α} {i : Nat} (h : i < l.length) (d : α) : l.getD i d = l[i] := by
  rw [List.getD_eq_getElem?_getD, List.getElem?_eq_getElem h]
  rfl
theorem rd_lt {l : List Int} {i : Nat} (h : i < l.length) : rd l (i : Int) = l[i] := by rw [rd_nat, getD_lt h]
theorem rd_set_eq {l : List Int} {i : Nat} {v : Int} (h : i < l.length) : rd (l.set i v) (i : Int) = v := by
  rw [rd_lt (by simpa using h)]
  simp
theorem rd_set_ne {l : List Int} {i j : Nat} {v : Int} (h : i ≠ j) : rd (l.set i v) (j : Int) = rd l (j : Int) := by
  rw [rd_nat, rd_nat, List.getD_eq_getElem?_getD, List.getD_eq_getElem?_getD, List.getElem?_set_ne h]
theorem rd_app_lt {l m : List Int} {j : Nat} (h : j < l.length) : rd (l ++ m) (j : Int) = rd l (j : Int) := by
  rw [rd_nat, rd_nat, List.getD_eq_getElem?_getD, List.getD_eq_getElem?_getD, List.getElem?_append_left h]
theorem rd_app_eq {l : List Int} {v : Int} : rd (l ++ [v]) (l.length : Int) = v := by
  rw [rd_nat, List.getD_eq_getElem?_getD, List.getElem?_append_right (Nat.le_refl _)]
  simp
theorem list_eq_rd {l m : List Int} (hl : l.length = m.length) (h : ∀ j : Nat, j < l.length → rd l (j : Int) = rd m (j : Int)) : l = m := by
  apply List.ext_getElem hl
  intro i h1 h2
  rw [← rd_lt h1, ← rd_lt h2]
  exact h i h1
theorem wsucc (i : Nat) (h : i ≤ 4611686018427387904) : wrap64 ((i : Int) + 1) = ((i + 1 : Nat) : Int) := by
  unfold wrap64
  omega
/-- g tells in the end whether p is so. -/
def Dec (g : Nat → Option Bool) (p : Prop) : Prop := ∃ b, Ev g b ∧ (b = true ↔ p)
theorem Dec.yes {g : Nat → Option Bool} {p : Prop} (h : Ev g true) (hp : p) : Dec g p := ⟨true, h, by simp [hp]⟩
theorem Dec.no {g : Nat → Option Bool} {p : Prop} (h : Ev g false) (hp : ¬ p) : Dec g p := ⟨false, h, by simp [hp]⟩
theorem all_from {P : Nat → Prop} {i n : Nat} (hi : i < n) : (∀ j, i ≤ j → j < n → P j) ↔ P i ∧ ∀ j, i + 1 ≤ j → j < n → P j := by
  constructor
  · intro h
    exact ⟨h i (Nat.le_refl _) hi, fun j h1 h2 => h j (by omega) h2⟩
  · rintro ⟨h1, h2⟩ j h3 h4
    rcases Nat.lt_or_eq_of_le h3 with h | rfl
    · exact h2 j h h4
    · exact h1
theorem all_none {P : Nat → Prop} {i n : Nat} (hi : n ≤ i) : ∀ j, i ≤ j → j < n → P j := fun j h1 h2 => by omega
/-! #### it tells something, of which P holds -/
def Tot {α : Type} (g : Nat → Option α) (P : α → Prop) : Prop := ∃ r, Ev g r ∧ P r
theorem Tot.of {α : Type} {g : Nat → Option α} {P : α → Prop} {r : α} (h : Ev g r) (hp : P r) : Tot g P := ⟨r, h, hp⟩
theorem Tot.val {α : Type} {P : α → Prop} {r : α} (h : P r) : Tot (fun _ => some r) P := ⟨r, Ev.val r, h⟩
theorem Tot.mono {α : Type} {g : Nat → Option α} {P Q : α → Prop} (h : Tot g P) (hq : ∀ r, P r → Q r) : Tot g Q := by
  obtain ⟨r, h1, h2⟩ := h
  exact ⟨r, h1, hq r h2⟩
theorem Tot.step {α : Type} {g g' : Nat → Option α} {P : α → Prop} (h : Tot g' P) (e : ∀ k, g (k + 1) = g' k) : Tot g P := by
  obtain ⟨r, h1, h2⟩ := h
  exact ⟨r, Ev.step h1 e, h2⟩
theorem Tot.bind {α β : Type} {g : Nat → Option α} {f : Nat → α → Option β} {Q : α → Prop} {P : β → Prop} (h : Tot g Q) (h2 : ∀ a, Q a → Tot (fun k => f k a) P) : Tot (fun k => (g k).bind (f k)) P := by
  obtain ⟨a, ha, hq⟩ := h
  obtain ⟨r, h1, h3⟩ := h2 a hq
  exact ⟨r, Ev.bind ha h1, h3⟩
theorem Tot.pos {α : Type} {c : Prop} [Decidable c] {g g' : Nat → Option α} {P : α → Prop} (hc : c) (h : Tot g P) : Tot (fun k => if c then g k else g' k) P := by
  obtain ⟨r, h1, h2⟩ := h
  exact ⟨r, Ev.pos hc h1, h2⟩
theorem Tot.neg {α : Type} {c : Prop} [Decidable c] {g g' : Nat → Option α} {P : α → Prop} (hc : ¬ c) (h : Tot g' P) : Tot (fun k => if c then g k else g' k) P := by
  obtain ⟨r, h1, h2⟩ := h
  exact ⟨r, Ev.neg hc h1, h2⟩
theorem Tot.ite {α : Type} {c : Prop} [Decidable c] {g g' : Nat → Option α} {P : α → Prop} (h1 : c → Tot g P) (h2 : ¬ c → Tot g' P) : Tot (fun k => if c then g k else g' k) P := by
  by_cases hc : c
  · exact Tot.pos hc (h1 hc)
  · exact Tot.neg hc (h2 hc)
/-! #### formulas of time -/
/-- A step that may stand at place i of a formula over so many facts. -/
def StepOk (f0 f1 f2 f3 i facts : Int) : Prop :=
  (f0 = 0 ∧ f1 = 0 ∧ f2 = 0 ∧ f3 = 0) ∨ (f0 = 1 ∧ 0 ≤ f1 ∧ f1 < facts ∧ f2 = 0 ∧ f3 = 0) ∨
  (2 ≤ f0 ∧ f0 ≤ 7 ∧ f1 = 0 ∧ 0 ≤ f2 ∧ f2 < i ∧ 0 ≤ f3 ∧ f3 < i ∧ ((f0 = 2 ∨ f0 = 5) → f3 = f2))
def StepAt (l : List S37) (facts : Int) (j : Nat) : Prop :=
  StepOk (rd_T37 l j).f0 (rd_T37 l j).f1 (rd_T37 l j).f2 (rd_T37 l j).f3 j facts
/-- A formula of time over so many facts. -/
def TimesOk (l : List S37) (facts : Int) : Prop := (0 ≤ facts ∧ facts ≤ 4) ∧ (1 ≤ l.length ∧ l.length ≤ 24) ∧ ∀ j, 0 ≤ j → j < l.length → StepAt l facts j
theorem in_dec (x a b : Int) : ∃ c, spec_l1In.f x a b = some c ∧ (c = true ↔ a ≤ x ∧ x ≤ b) := by
  unfold spec_l1In.f
  by_cases h : x ≥ a
  · rw [if_pos h]
    exact ⟨_, rfl, by simp; omega⟩
  · rw [if_neg h]
    exact ⟨_, rfl, by simp; omega⟩
theorem in_yes {x a b : Int} (h : a ≤ x ∧ x ≤ b) : spec_l1In.f x a b = some true := by
  unfold spec_l1In.f
  rw [if_pos h.1]
  simp [h.2]
theorem in_no {x a b : Int} (h : ¬ (a ≤ x ∧ x ≤ b)) : spec_l1In.f x a b = some false := by
  unfold spec_l1In.f
  by_cases h1 : x ≥ a
  · rw [if_pos h1]
    simp
    omega
  · rw [if_neg h1]
theorem iin_yes {x a b : Int} (h : a ≤ x ∧ x ≤ b) : impl_in.f x a b = some true := in_yes h
theorem iin_no {x a b : Int} (h : ¬ (a ≤ x ∧ x ≤ b)) : impl_in.f x a b = some false := in_no h
theorem spec_step_yes {f0 f1 f2 f3 i facts : Int} (hi : 0 ≤ i) (hi2 : i ≤ 1000) (hf : 0 ≤ facts) (hf2 : facts ≤ 4) (h : StepOk f0 f1 f2 f3 i facts) : spec_l20Step.f f0 f1 f2 f3 i facts = some true := by
  have w1 : wrap64 (i - 1) = i - 1 := w_id (by omega) (by omega)
  have w2 : wrap64 (facts - 1) = facts - 1 := w_id (by omega) (by omega)
  unfold spec_l20Step.f
  rw [w1, w2]
  rcases h with ⟨h0, h1, h2, h3⟩ | ⟨h0, h1, h2, h3, h4⟩ | ⟨h0, h1, h2, h3, h4, h5, h6, h7⟩
  · rw [if_pos h0, if_pos h1, if_pos h2]
    simp [h3]
  · rw [if_neg (by omega), if_pos h0, in_yes (by omega)]
    simp [h3, h4]
  · rw [if_neg (by omega), if_neg (by omega), in_yes (by omega)]
    simp only [Option.bind_some, if_true]
    rw [if_pos h2, in_yes (by omega)]
    simp only [Option.bind_some, if_true]
    rw [in_yes (by omega)]
    simp only [Option.bind_some, if_true]
    unfold spec_l20One.f
    by_cases c : f0 = 2
    · rw [if_pos c]
      simp [h7 (.inl c)]
    · rw [if_neg c]
      by_cases c2 : f0 = 5
      · simp [c2, h7 (.inr c2)]
      · simp [c2]
theorem spec_step_no {f0 f1 f2 f3 i facts : Int} (hi : 0 ≤ i) (hi2 : i ≤ 1000) (hf : 0 ≤ facts) (hf2 : facts ≤ 4) (h : ¬ StepOk f0 f1 f2 f3 i facts) : spec_l20Step.f f0 f1 f2 f3 i facts = some false := by
  have w1 : wrap64 (i - 1) = i - 1 := w_id (by omega) (by omega)
  have w2 : wrap64 (facts - 1) = facts - 1 := w_id (by omega) (by omega)
  unfold spec_l20Step.f
  unfold StepOk at h
  rw [w1, w2]
  by_cases c0 : f0 = 0
  · rw [if_pos c0]
    by_cases c1 : f1 = 0
    · rw [if_pos c1]
      by_cases c2 : f2 = 0
      · rw [if_pos c2]
        have : f3 ≠ 0 := by omega
        simp [this]
      · rw [if_neg c2]
    · rw [if_neg c1]
  · rw [if_neg c0]
    by_cases c1 : f0 = 1
    · rw [if_pos c1]
      by_cases c2 : 0 ≤ f1 ∧ f1 ≤ facts - 1
      · rw [in_yes c2]
        simp only [Option.bind_some, if_true]
        by_cases c3 : f2 = 0
        · rw [if_pos c3]
          have : f3 ≠ 0 := by omega
          simp [this]
        · rw [if_neg c3]
      · rw [in_no c2]
        simp
    · rw [if_neg c1]
      by_cases c2 : 2 ≤ f0 ∧ f0 ≤ 7
      · rw [in_yes c2]
        simp only [Option.bind_some, if_true]
        by_cases c3 : f1 = 0
        · rw [if_pos c3]
          by_cases c4 : 0 ≤ f2 ∧ f2 ≤ i - 1
          · rw [in_yes c4]
            simp only [Option.bind_some, if_true]
            by_cases c5 : 0 ≤ f3 ∧ f3 ≤ i - 1
            · rw [in_yes c5]
              simp only [Option.bind_some, if_true]
              unfold spec_l20One.f
              by_cases c6 : f0 = 2
              · rw [if_pos c6]
                have : f3 ≠ f2 := by omega
                simp [this]
              · rw [if_neg c6]
                have c7 : f0 = 5 := by omega
                have : f3 ≠ f2 := by omega
                simp [c7, this]
            · rw [in_no c5]
              simp
          · rw [in_no c4]
            simp
        · rw [if_neg c3]
      · rw [in_no c2]
        simp
theorem spec_tv_loop (l : List S37) (facts : Int) (hl : l.length ≤ 24) (h0 : 0 ≤ facts) (h4 : facts ≤ 4) : ∀ (d i : Nat), i + d = l.length →
    Dec (fun k => spec_TimesValid.l0 k l facts (i : Int)) (∀ j, i ≤ j → j < l.length → StepAt l facts j) := by
  intro d
  induction d with
  | zero =>
    intro i hi
    exact Dec.yes (Ev.step (Ev.neg (by omega) (Ev.val _)) (fun k => spec_TimesValid.l0.eq_2 ..)) (all_none (by omega))
  | succ d ih =>
    intro i hi
    by_cases hS : StepAt l facts i
    · obtain ⟨b, hb, hb2⟩ := ih (i + 1) (by omega)
      refine ⟨b, Ev.step ?_ (fun k => spec_TimesValid.l0.eq_2 ..), hb2.trans ?_⟩
      · refine Ev.pos (by omega) (Ev.pos (by omega) (Ev.bind (Ev.const (spec_step_yes (by omega) (by omega) h0 h4 hS)) (Ev.pos rfl ?_)))
        rw [wsucc i (by omega)]
        exact hb
      · rw [all_from (i := i) (by omega)]
        simp [hS]
    · refine Dec.no (Ev.step (Ev.pos (by omega) (Ev.pos (by omega) (Ev.bind (Ev.const (spec_step_no (by omega) (by omega) h0 h4 hS)) (Ev.neg (by decide) (Ev.val _))))) (fun k => spec_TimesValid.l0.eq_2 ..)) ?_
      intro h
      exact hS (h i (Nat.le_refl _) (by omega))
theorem spec_tv (l : List S37) (facts : Int) : Dec (fun k => spec_TimesValid.f k l facts) (TimesOk l facts) := by
  unfold spec_TimesValid.f TimesOk
  by_cases h1 : 0 ≤ facts ∧ facts ≤ 4
  · by_cases h2 : 1 ≤ (l.length : Int) ∧ (l.length : Int) ≤ 24
    · obtain ⟨b, hb, hb2⟩ := spec_tv_loop l facts (by omega) h1.1 h1.2 l.length 0 (by omega)
      refine ⟨b, ?_, hb2.trans ?_⟩
      · refine Ev.bind (Ev.const (in_yes h1)) (Ev.pos rfl (Ev.bind (Ev.const (in_yes h2)) (Ev.step (Ev.neg (by decide) hb) (fun k => spec_TimesValid.j0.eq_2 ..))))
      · constructor
        · intro h
          exact ⟨h1, by omega, h⟩
        · intro h
          exact h.2.2
    · refine Dec.no (Ev.bind (Ev.const (in_yes h1)) (Ev.pos rfl (Ev.bind (Ev.const (in_no h2)) (Ev.step (Ev.pos rfl (Ev.val _)) (fun k => spec_TimesValid.j0.eq_2 ..))))) ?_
      rintro ⟨_, h, _⟩
      omega
  · refine Dec.no (Ev.bind (Ev.const (in_no h1)) (Ev.neg (by decide) (Ev.step (Ev.pos rfl (Ev.val _)) (fun k => spec_TimesValid.j0.eq_2 ..)))) ?_
    rintro ⟨h, _⟩
    exact h1 h
theorem impl_tv_step (l : List S37) (facts n : Int) (i : Nat) (hn : (i : Int) < n) (hn2 : i < l.length) (hi : i ≤ 1000) (h0 : 0 ≤ facts) (h4 : facts ≤ 4) (k : Nat) :
    (StepAt l facts i → impl_TimesValid.l0 (k + 1) facts l n i = impl_TimesValid.l0 k facts l n ((i + 1 : Nat) : Int)) ∧ (¬ StepAt l facts i → impl_TimesValid.l0 (k + 1) facts l n i = some false) := by
  have w1 : wrap64 ((i : Int) - 1) = i - 1 := w_id (by omega) (by omega)
  have w2 : wrap64 (facts - 1) = facts - 1 := w_id (by omega) (by omega)
  rw [impl_TimesValid.l0.eq_2, if_pos hn, if_pos (by omega), if_pos (by omega), wsucc i (by omega), w1, w2]
  unfold StepAt
  generalize impl_TimesValid.l0 k facts l n ((i + 1 : Nat) : Int) = c
  generalize rd_T37 l (i : Int) = t
  obtain ⟨f0, f1, f2, f3⟩ := t
  simp only
  constructor
  · intro hS
    rcases hS with ⟨h0, h1, h2, h3⟩ | ⟨h0, h1, h2, h3, h4⟩ | ⟨h0, h1, h2, h3, h4, h5, h6, h7⟩
    · subst h0 h1 h2 h3
      rw [iin_yes (by omega)]
      simp
    · subst h0 h3 h4
      rw [iin_yes (by omega)]
      simp only [Option.bind_some]
      rw [if_neg (by omega)]
      simp only [if_true]
      rw [iin_yes (by omega)]
      simp
    · rw [iin_yes (by omega)]
      simp only [Option.bind_some, if_true]
      rw [if_neg (by omega), if_neg (by omega), if_pos h2, iin_yes (by omega)]
      simp only [Option.bind_some, if_true]
      rw [iin_yes (by omega)]
      simp only [Option.bind_some, if_true]
      by_cases e : f2 = f3
      · rw [if_pos e]
      · rw [if_neg e, if_neg (by omega), if_neg (by omega)]
  · intro hS
    unfold StepOk at hS
    have hb : ∃ b, impl_in.f f0 0 7 = some b ∧ (b = true ↔ 0 ≤ f0 ∧ f0 ≤ 7) := in_dec f0 0 7
    obtain ⟨b, hb, hb2⟩ := hb
    rw [hb]
    simp only [Option.bind_some]
    by_cases c0 : f0 = 0
    · have hne : ¬ ((f1 == 0 && (f2 == 0 && f3 == 0)) = true) := by
        simp only [Bool.and_eq_true, beq_iff_eq]
        omega
      rw [if_pos c0, if_neg hne]
    · rw [if_neg c0]
      by_cases c1 : f0 = 1
      · rw [if_pos c1]
        by_cases c2 : 0 ≤ f1 ∧ f1 ≤ facts - 1
        · rw [iin_yes c2]
          simp only [Option.bind_some, if_true]
          by_cases c3 : f2 = 0
          · rw [if_pos c3, if_neg (by omega)]
          · rw [if_neg c3]
        · rw [iin_no c2]
          simp
      · rw [if_neg c1]
        by_cases c2 : b = true
        · rw [if_pos c2]
          have := hb2.1 c2
          by_cases c3 : f1 = 0
          · rw [if_pos c3]
            by_cases c4 : 0 ≤ f2 ∧ f2 ≤ (i : Int) - 1
            · rw [iin_yes c4]
              simp only [Option.bind_some, if_true]
              by_cases c5 : 0 ≤ f3 ∧ f3 ≤ (i : Int) - 1
              · rw [iin_yes c5]
                simp only [Option.bind_some, if_true]
                rw [if_neg (by omega)]
                by_cases c6 : f0 = 2
                · rw [if_pos c6]
                · rw [if_neg c6, if_pos (by omega)]
              · rw [iin_no c5]
                simp
            · rw [iin_no c4]
              simp
          · rw [if_neg c3]
        · rw [if_neg c2]
theorem impl_tv_loop (l : List S37) (facts : Int) (hl : l.length ≤ 24) (h0 : 0 ≤ facts) (h4 : facts ≤ 4) : ∀ (d i : Nat), i + d = l.length →
    Dec (fun k => impl_TimesValid.l0 k facts l (l.length : Int) (i : Int)) (∀ j, i ≤ j → j < l.length → StepAt l facts j) := by
  intro d
  induction d with
  | zero =>
    intro i hi
    exact Dec.yes (Ev.step (Ev.neg (by omega) (Ev.val _)) (fun k => impl_TimesValid.l0.eq_2 ..)) (all_none (by omega))
  | succ d ih =>
    intro i hi
    by_cases hS : StepAt l facts i
    · obtain ⟨b, hb, hb2⟩ := ih (i + 1) (by omega)
      refine ⟨b, Ev.step ?_ (fun k => (impl_tv_step l facts _ i (by omega) (by omega) (by omega) h0 h4 k).1 hS), hb2.trans ?_⟩
      · exact hb
      · rw [all_from (i := i) (by omega)]
        simp [hS]
    · refine Dec.no (Ev.step (Ev.val _) (fun k => (impl_tv_step l facts _ i (by omega) (by omega) (by omega) h0 h4 k).2 hS)) ?_
      intro h
      exact hS (h i (Nat.le_refl _) (by omega))
theorem impl_tv (l : List S37) (facts : Int) : Dec (fun k => impl_TimesValid.f k l facts) (TimesOk l facts) := by
  unfold impl_TimesValid.f TimesOk
  by_cases h1 : 0 ≤ facts ∧ facts ≤ 4
  · by_cases h2 : 1 ≤ (l.length : Int) ∧ (l.length : Int) ≤ 24
    · obtain ⟨b, hb, hb2⟩ := impl_tv_loop l facts (by omega) h1.1 h1.2 l.length 0 (by omega)
      refine ⟨b, ?_, hb2.trans ?_⟩
      · refine Ev.bind (Ev.const (iin_yes h1)) (Ev.pos rfl (Ev.bind (Ev.const (iin_yes h2)) (Ev.step (Ev.neg (by decide) hb) (fun k => impl_TimesValid.j0.eq_2 ..))))
      · constructor
        · intro h
          exact ⟨h1, by omega, h⟩
        · intro h
          exact h.2.2
    · refine Dec.no (Ev.bind (Ev.const (iin_yes h1)) (Ev.pos rfl (Ev.bind (Ev.const (iin_no h2)) (Ev.step (Ev.pos rfl (Ev.val _)) (fun k => impl_TimesValid.j0.eq_2 ..))))) ?_
      rintro ⟨_, h, _⟩
      omega
  · refine Dec.no (Ev.bind (Ev.const (iin_no h1)) (Ev.neg (by decide) (Ev.step (Ev.pos rfl (Ev.val _)) (fun k => impl_TimesValid.j0.eq_2 ..)))) ?_
    rintro ⟨h, _⟩
    exact h1 h
/-! #### guesses: the steps that are guessed, their bits -/
def stepsL (l : List S37) : Nat → Nat → List Int → List Int
  | 0, _, acc => acc
  | d + 1, i, acc => if (rd_T37 l (i : Int)).f0 ≥ 5 then stepsL l d (i + 1) (acc ++ [(i : Int)]) else stepsL l d (i + 1) acc
def cntL (l : List S37) : Nat → Nat → Nat
  | 0, _ => 0
  | d + 1, i => (if (rd_T37 l (i : Int)).f0 ≥ 5 then 1 else 0) + cntL l d (i + 1)
theorem cntL_le (l : List S37) : ∀ d i, cntL l d i ≤ d := by
  intro d
  induction d with
  | zero => intro i; exact Nat.le_refl _
  | succ d ih =>
    intro i
    have := ih (i + 1)
    unfold cntL
    split <;> omega
theorem stepsL_length (l : List S37) : ∀ d i acc, (stepsL l d i acc).length = acc.length + cntL l d i := by
  intro d
  induction d with
  | zero => intro i acc; rfl
  | succ d ih =>
    intro i acc
    unfold stepsL cntL
    split
    · rw [ih, List.length_append, List.length_singleton]; omega
    · rw [ih]; omega
theorem spec_steps_loop (l : List S37) (hl : l.length ≤ 24) : ∀ (d i : Nat) (acc : List Int), i + d = l.length → acc.length ≤ i →
    Ev (fun k => spec_l21Steps.l0 k l acc (i : Int)) (stepsL l d i acc) := by
  intro d
  induction d with
  | zero =>
    intro i acc hi ha
    exact Ev.step (Ev.neg (by omega) (Ev.val _)) (fun k => spec_l21Steps.l0.eq_2 ..)
  | succ d ih =>
    intro i acc hi ha
    refine Ev.step ?_ (fun k => spec_l21Steps.l0.eq_2 ..)
    refine Ev.pos (by omega) (Ev.pos (by omega) ?_)
    rw [wsucc i (by omega)]
    unfold stepsL
    by_cases h : (rd_T37 l (i : Int)).f0 ≥ 5
    · rw [if_pos h]
      exact Ev.pos h (Ev.pos (by omega) (ih (i + 1) _ (by omega) (by simp; omega)))
    · rw [if_neg h]
      exact Ev.neg h (ih (i + 1) _ (by omega) (by omega))
theorem spec_steps (l : List S37) (hl : l.length ≤ 24) : Ev (fun k => spec_l21Steps.f k l) (stepsL l l.length 0 []) :=
  spec_steps_loop l hl l.length 0 [] (by omega) (by simp)
theorem impl_guessed_loop (l : List S37) (facts : Int) (hf : 0 ≤ facts) (hf2 : facts ≤ 4) (hl : l.length ≤ 24) : ∀ (d i : Nat) (acc : List Int), i + d = l.length → acc.length ≤ i →
    Ev (fun k => impl_guessed.l0 k facts acc l (l.length : Int) (i : Int)) (stepsL l d i acc, decide (facts + ((acc.length + cntL l d i : Nat) : Int) ≤ 7)) := by
  intro d
  induction d with
  | zero =>
    intro i acc hi ha
    refine Ev.step (Ev.neg (by omega) ?_) (fun k => impl_guessed.l0.eq_2 ..)
    have hc : impl_clone_int.f acc = some acc := by
      unfold impl_clone_int.f
      rw [if_pos (by omega)]
    refine Ev.bind (Ev.const hc) (Ev.valEq ?_)
    rw [w_id (by omega) (by omega)]
    rfl
  | succ d ih =>
    intro i acc hi ha
    refine Ev.step ?_ (fun k => impl_guessed.l0.eq_2 ..)
    refine Ev.pos (by omega) (Ev.pos (by omega) (Ev.pos (by omega) ?_))
    rw [wsucc i (by omega)]
    unfold stepsL cntL
    by_cases h : (rd_T37 l (i : Int)).f0 ≥ 5
    · rw [if_pos h, if_pos h]
      refine (Ev.pos h (Ev.pos (by omega) (ih (i + 1) _ (by omega) (by simp; omega)))).to ?_
      rw [List.length_append, List.length_singleton, Nat.add_assoc]
    · rw [if_neg h, if_neg h]
      refine (Ev.neg h (ih (i + 1) _ (by omega) (by omega))).to ?_
      rw [Nat.zero_add]
/-- How many truths are guessed. -/
def manyL (l : List S37) : Nat := cntL l l.length 0
def AskedOk (l : List S37) (facts : Int) : Prop := TimesOk l facts ∧ facts + (manyL l : Int) ≤ 7
theorem steps_len (l : List S37) : (stepsL l l.length 0 []).length = manyL l := by
  rw [stepsL_length]
  simp [manyL]
theorem impl_guessed_yes (l : List S37) (facts : Int) (h : TimesOk l facts) :
    Ev (fun k => impl_guessed.f k l facts) (stepsL l l.length 0 [], decide (facts + (manyL l : Int) ≤ 7)) := by
  obtain ⟨b, hb, hb2⟩ := impl_tv l facts
  have hbt : b = true := hb2.2 h
  subst hbt
  have := impl_guessed_loop l facts h.1.1 h.1.2 h.2.1.2 l.length 0 [] (by omega) (by simp)
  refine Ev.bind hb (Ev.pos rfl (this.to ?_))
  unfold manyL
  simp only [List.length_nil, Nat.zero_add]
theorem impl_guessed_no (l : List S37) (facts : Int) (h : ¬ TimesOk l facts) :
    Ev (fun k => impl_guessed.f k l facts) ([], false) := by
  obtain ⟨b, hb, hb2⟩ := impl_tv l facts
  have hbt : b = false := by
    cases b with
    | false => rfl
    | true => exact absurd (hb2.1 rfl) h
  subst hbt
  exact Ev.bind hb (Ev.neg (by decide) (Ev.val _))
theorem shl_small (m : Nat) (h : m ≤ 7) : shl .i64 1 (m : Int) = ((2 ^ m : Nat) : Int) := by
  have : m = 0 ∨ m = 1 ∨ m = 2 ∨ m = 3 ∨ m = 4 ∨ m = 5 ∨ m = 6 ∨ m = 7 := by omega
  rcases this with rfl | rfl | rfl | rfl | rfl | rfl | rfl | rfl <;> decide
/-- The number of guesses. -/
noncomputable def countL (l : List S37) (facts : Int) : Int := by
  classical
  exact if AskedOk l facts then ((2 ^ (facts.toNat + manyL l) : Nat) : Int) else 0

theorem spec_asked (l : List S37) (facts : Int) : Dec (fun k => spec_l21Asked.f k l facts) (AskedOk l facts) := by
  unfold spec_l21Asked.f AskedOk
  obtain ⟨b, hb, hb2⟩ := spec_tv l facts
  cases b with
  | false =>
    refine Dec.no (Ev.bind hb (Ev.neg (by decide) (Ev.val _))) ?_
    rintro ⟨h, _⟩
    exact absurd (hb2.2 h) (by decide)
  | true =>
    have h := hb2.1 rfl
    refine ⟨_, Ev.bind hb (Ev.pos rfl (Ev.bind (spec_steps l h.2.1.2) (Ev.val _))), ?_⟩
    have h1 := h.1
    have h2 := cntL_le l l.length 0
    have h3 := h.2.1.2
    have h4 : (stepsL l l.length 0 []).length = manyL l := steps_len l
    rw [h4, w_id (by unfold manyL; omega) (by unfold manyL; omega)]
    simp [h]
theorem spec_count (l : List S37) (facts : Int) : Ev (fun k => spec_GuessCount.f k l facts) (countL l facts) := by
  unfold spec_GuessCount.f countL
  obtain ⟨b, hb, hb2⟩ := spec_asked l facts
  cases b with
  | false =>
    have : ¬ AskedOk l facts := fun h => absurd (hb2.2 h) (by decide)
    rw [if_neg this]
    exact Ev.bind hb (Ev.neg (by decide) (Ev.val _))
  | true =>
    have h := hb2.1 rfl
    rw [if_pos h]
    have h1 := h.1.1
    have h7 := h.2
    have h4 : (stepsL l l.length 0 []).length = manyL l := steps_len l
    refine Ev.bind hb (Ev.pos rfl (Ev.bind (spec_steps l h.1.2.1.2) ?_))
    rw [h4, w_id (by omega) (by omega)]
    refine Ev.pos (by omega) (Ev.valEq ?_)
    rw [show facts + (manyL l : Int) = ((facts.toNat + manyL l : Nat) : Int) by omega]
    exact shl_small _ (by omega)
theorem impl_count (l : List S37) (facts : Int) : Ev (fun k => impl_GuessCount.f k l facts) (countL l facts) := by
  unfold impl_GuessCount.f countL
  by_cases h : TimesOk l facts
  · by_cases h7 : facts + (manyL l : Int) ≤ 7
    · rw [if_pos ⟨h, h7⟩]
      have h1 := h.1
      have h4 : (stepsL l l.length 0 []).length = manyL l := steps_len l
      refine Ev.bind (impl_guessed_yes l facts h) (Ev.pos (by simp [h7]) ?_)
      simp only
      rw [h4, w_id (by omega) (by omega)]
      refine Ev.pos (by omega) (Ev.valEq ?_)
      rw [show facts + (manyL l : Int) = ((facts.toNat + manyL l : Nat) : Int) by omega]
      exact shl_small _ (by omega)
    · rw [if_neg (fun h2 => h7 h2.2)]
      exact Ev.bind (impl_guessed_yes l facts h) (Ev.neg (by simp [h7]) (Ev.val _))
  · rw [if_neg (fun h2 => h h2.1)]
    exact Ev.bind (impl_guessed_no l facts h) (Ev.neg (by simp) (Ev.val _))
/-- A number's lower bits, the highest one first. -/
def bitsD (n : Int) : Nat → List Int
  | 0 => []
  | d + 1 => (n / 2 ^ d % 2) :: bitsD n d
theorem bitsD_length (n : Int) : ∀ d, (bitsD n d).length = d := by
  intro d
  induction d with
  | zero => rfl
  | succ d ih => simp [bitsD, ih]
theorem bitsD_get (n : Int) : ∀ d j : Nat, j < d → rd (bitsD n d) (j : Int) = n / 2 ^ (d - 1 - j) % 2 := by
  intro d
  induction d with
  | zero => intro j h; omega
  | succ d ih =>
    intro j h
    rw [rd_nat]
    cases j with
    | zero => simp [bitsD]
    | succ j =>
      have := ih j (by omega)
      rw [rd_nat] at this
      rw [show d + 1 - 1 - (j + 1) = d - 1 - j by omega, ← this]
      simp [bitsD]
def Bit (x : Int) : Prop := x = 0 ∨ x = 1
theorem bitsD_bit (n : Int) (d j : Nat) (h : j < d) : Bit (rd (bitsD n d) (j : Int)) := by
  rw [bitsD_get n d j h]
  unfold Bit
  omega
theorem shr_eq (n : Int) (d : Nat) (h : d ≤ 64) : shr .i64 n (d : Int) = n / 2 ^ d := by
  unfold shr
  rw [Int.toNat_natCast, Nat.min_eq_left (by simpa [IntKind.bits] using h)]
theorem spec_value_loop (n : Int) (hn : 0 ≤ n) : ∀ (d : Nat) (acc : List Int), d ≤ 60 → acc.length ≤ 1000 - d →
    Ev (fun k => spec_l6Value.l0 k n acc ((d : Int) - 1)) (acc ++ bitsD n d) := by
  intro d
  induction d with
  | zero =>
    intro acc _ _
    refine Ev.step (Ev.neg (by omega) (Ev.valEq (by simp [bitsD]))) (fun k => spec_l6Value.l0.eq_2 ..)
  | succ d ih =>
    intro acc hd ha
    refine Ev.step ?_ (fun k => spec_l6Value.l0.eq_2 ..)
    rw [show ((d + 1 : Nat) : Int) - 1 = (d : Int) by omega, shr_eq n d (by omega), w_id (by omega) (by omega)]
    refine Ev.pos (by omega) (Ev.pos (by omega) (Ev.pos (by omega) ?_))
    have := ih (acc ++ [n / 2 ^ d % 2]) (by omega) (by simp; omega)
    have e : Int.tmod (n / 2 ^ d) 2 = n / 2 ^ d % 2 := by
      rw [Int.tmod_eq_emod_of_nonneg]
      exact Int.ediv_nonneg hn (by exact_mod_cast Nat.zero_le _)
    rw [e]
    refine this.to ?_
    simp [bitsD]
theorem spec_value (n : Int) (hn : 0 ≤ n) (m : Nat) (hm : m ≤ 60) : Ev (fun k => spec_l6Value.f k n (m : Int)) (bitsD n m) := by
  unfold spec_l6Value.f
  rw [w_id (by omega) (by omega)]
  exact (spec_value_loop n hn m [] hm (by simp)).to (by simp)
theorem and_one (x : Int) (h0 : 0 ≤ x) (h1 : x < 9223372036854775808) : Go.bits .and .i64 x 1 = x % 2 := by
  have := bits_mask .i64 63 (by decide) (fun n a b => by rw [IntKind.wrap_i64]; omega) 1 (by decide) x h0 (by omega)
  simpa using this
theorem impl_bits_loop (n : Int) (hn : 0 ≤ n) (hn2 : n < 9223372036854775808) (m : Nat) (hm : m ≤ 60) : ∀ (d i : Nat) (ys : List Int), i + d = m → ys.length = m → (∀ j : Nat, j < i → rd ys (j : Int) = rd (bitsD n m) (j : Int)) →
    Ev (fun k => impl_valueBits.l0 k n (m : Int) ys (m : Int) (i : Int)) (bitsD n m) := by
  intro d
  induction d with
  | zero =>
    intro i ys hi hy h
    refine Ev.step (Ev.neg (by omega) (Ev.valEq ?_)) (fun k => impl_valueBits.l0.eq_2 ..)
    apply list_eq_rd
    · rw [hy, bitsD_length]
    · intro j hj
      exact h j (by omega)
  | succ d ih =>
    intro i ys hi hy h
    refine Ev.step ?_ (fun k => impl_valueBits.l0.eq_2 ..)
    rw [w_id (x := (m : Int) - 1) (by omega) (by omega), w_id (by omega) (by omega), wsucc i (by omega), Int.toNat_natCast]
    refine Ev.pos (by omega) (Ev.pos (by omega) (Ev.pos (by omega) (Ev.pos (by omega) ?_)))
    refine ih (i + 1) _ (by omega) (by simpa using hy) ?_
    intro j hj
    by_cases e : j = i
    · subst e
      rw [rd_set_eq (by omega), bitsD_get n m j (by omega)]
      rw [show (m : Int) - 1 - (j : Int) = ((m - 1 - j : Nat) : Int) by omega, shr_eq n _ (by omega)]
      refine and_one _ ?_ ?_
      · exact Int.ediv_nonneg hn (by exact_mod_cast Nat.zero_le _)
      · refine Int.lt_of_le_of_lt ?_ hn2
        exact Int.ediv_le_self _ hn
    · rw [rd_set_ne (by omega)]
      exact h j (by omega)
theorem impl_bits (n : Int) (hn : 0 ≤ n) (hn2 : n < 9223372036854775808) (m : Nat) (hm : m ≤ 60) : Ev (fun k => impl_valueBits.f k n (m : Int)) (bitsD n m) := by
  unfold impl_valueBits.f
  refine Ev.pos (by omega) (Ev.pos (by omega) ?_)
  simp only [Option.bind_some, Int.toNat_natCast, List.length_replicate]
  exact impl_bits_loop n hn hn2 m hm m 0 _ (by omega) (by simp) (fun j h => by omega)
/-! #### guesses: the truths of the steps -/
theorem and_bits {a b : Int} (ha : Bit a) (hb : Bit b) : Go.bits .and .i64 a b = wrap64 (a * b) ∧ Bit (wrap64 (a * b)) := by
  rcases ha with rfl | rfl <;> rcases hb with rfl | rfl <;> exact ⟨by decide +kernel, by unfold Bit; decide +kernel⟩
theorem or_bits {a b : Int} (ha : Bit a) (hb : Bit b) : ∃ c, spec_l1Truth.f (decide (wrap64 (a + b) > 0)) = some c ∧ Go.bits .or .i64 a b = c ∧ Bit c := by
  rcases ha with rfl | rfl <;> rcases hb with rfl | rfl
  · exact ⟨0, by decide +kernel, by decide +kernel, by unfold Bit; decide +kernel⟩
  · exact ⟨1, by decide +kernel, by decide +kernel, by unfold Bit; decide +kernel⟩
  · exact ⟨1, by decide +kernel, by decide +kernel, by unfold Bit; decide +kernel⟩
  · exact ⟨1, by decide +kernel, by decide +kernel, by unfold Bit; decide +kernel⟩
theorem not_bit {a : Int} (ha : Bit a) : Bit (wrap64 (1 - a)) := by
  rcases ha with rfl | rfl <;> (unfold Bit; decide +kernel)
/-- All entries are 0 or 1. -/
def Bits (xs : List Int) : Prop := ∀ j : Nat, j < xs.length → Bit (rd xs (j : Int))
theorem Bits.at {xs : List Int} (h : Bits xs) {i : Int} (h0 : 0 ≤ i) (h1 : i < (xs.length : Int)) : Bit (rd xs i) := by
  obtain ⟨n, rfl⟩ := Int.eq_ofNat_of_zero_le h0
  exact h n (by omega)
theorem Bits.snoc {xs : List Int} {v : Int} (h : Bits xs) (hv : Bit v) : Bits (xs ++ [v]) := by
  intro j hj
  by_cases e : j < xs.length
  · rw [rd_app_lt e]
    exact h j e
  · have : j = xs.length := by
      simp at hj
      omega
    subst this
    rw [rd_app_eq]
    exact hv
/-- What step j's truth is by the bits of a guess. -/
def TruthAt (l : List S37) (bits xs : List Int) (j : Nat) : Prop :=
  ((rd_T37 l j).f0 = 0 → rd xs (j : Int) = 1) ∧ ((rd_T37 l j).f0 = 1 → rd xs (j : Int) = rd bits (rd_T37 l j).f1) ∧
  ((rd_T37 l j).f0 = 2 → rd xs (j : Int) = wrap64 (1 - rd xs (rd_T37 l j).f2)) ∧
  ((rd_T37 l j).f0 = 3 → rd xs (j : Int) = wrap64 (rd xs (rd_T37 l j).f2 * rd xs (rd_T37 l j).f3)) ∧
  ((rd_T37 l j).f0 = 4 → rd xs (j : Int) = Go.bits .or .i64 (rd xs (rd_T37 l j).f2) (rd xs (rd_T37 l j).f3))
theorem TruthAt.snoc {l : List S37} {facts : Int} {bits xs : List Int} {v : Int} {j : Nat} (hj : j < xs.length) (hS : StepAt l facts j) (h : TruthAt l bits xs j) : TruthAt l bits (xs ++ [v]) j := by
  unfold StepAt at hS
  unfold TruthAt at h ⊢
  have e : ∀ z : Int, 0 ≤ z → z < (j : Int) → rd (xs ++ [v]) z = rd xs z := by
    intro z h0 h1
    obtain ⟨n, rfl⟩ := Int.eq_ofNat_of_zero_le h0
    exact rd_app_lt (by omega)
  rw [rd_app_lt hj]
  obtain ⟨h0, h1, h2, h3, h4⟩ := h
  refine ⟨h0, h1, fun c => ?_, fun c => ?_, fun c => ?_⟩
  · rw [h2 c, e _ (by rcases hS with h | h | h <;> omega) (by rcases hS with h | h | h <;> omega)]
  · rw [h3 c, e _ (by rcases hS with h | h | h <;> omega) (by rcases hS with h | h | h <;> omega), e _ (by rcases hS with h | h | h <;> omega) (by rcases hS with h | h | h <;> omega)]
  · rw [h4 c, e _ (by rcases hS with h | h | h <;> omega) (by rcases hS with h | h | h <;> omega), e _ (by rcases hS with h | h | h <;> omega) (by rcases hS with h | h | h <;> omega)]
theorem both_truths_loop_all (l : List S37) (facts : Int) (hT : TimesOk l facts) (bits : List Int) (hb : Bits bits) (hbl : (bits.length : Int) = facts + (manyL l : Int)) :
    ∀ (d i c : Nat) (xs ys : List Int), i + d = l.length → c + cntL l d i = manyL l → xs.length = i → ys.length = l.length → Bits xs → (∀ j : Nat, j < i → rd ys (j : Int) = rd xs (j : Int)) → (∀ j : Nat, j < i → TruthAt l bits xs j) →
    ∃ r, Ev (fun k => spec_l21Truths.l0 k l bits xs (facts + (c : Int)) (i : Int)) r ∧ Ev (fun k => impl_truths.l0 k bits ys (facts + (c : Int)) l (l.length : Int) (i : Int)) r ∧ r.length = l.length ∧ Bits r ∧ ∀ j : Nat, j < l.length → TruthAt l bits r j := by
  intro d
  have hf := hT.1
  have hl := hT.2.1
  induction d with
  | zero =>
    intro i c xs ys hi hc hx hy hB hE hTr
    refine ⟨xs, Ev.step (Ev.neg (by omega) (Ev.val _)) (fun k => spec_l21Truths.l0.eq_2 ..), Ev.step (Ev.neg (by omega) (Ev.valEq ?_)) (fun k => impl_truths.l0.eq_2 ..), by omega, hB, fun j hj => hTr j (by omega)⟩
    exact list_eq_rd (by omega) (fun j hj => hE j (by omega))
  | succ d ih =>
    intro i c xs ys hi hc hx hy hB hE hTr
    have hS := hT.2.2 i (by omega) (by omega)
    have hcl : manyL l ≤ l.length := cntL_le l l.length 0
    unfold StepAt at hS
    unfold cntL at hc
    have hS0 := hT.2.2
    have key : ∀ (v : Int) (c' : Nat) (hv : Bit v) (hc' : c' + cntL l d (i + 1) = manyL l) (hTv : TruthAt l bits (xs ++ [v]) i),
        ∃ r, Ev (fun k => spec_l21Truths.l0 k l bits (xs ++ [v]) (facts + (c' : Int)) ((i + 1 : Nat) : Int)) r ∧ Ev (fun k => impl_truths.l0 k bits (ys.set i v) (facts + (c' : Int)) l (l.length : Int) ((i + 1 : Nat) : Int)) r ∧ r.length = l.length ∧ Bits r ∧ ∀ j : Nat, j < l.length → TruthAt l bits r j := by
      intro v c' hv hc' hTv
      refine ih (i + 1) c' (xs ++ [v]) (ys.set i v) (by omega) hc' (by simp; omega) (by simpa using hy) (hB.snoc hv) ?_ (fun j hj => by
        by_cases e : j = i
        · subst e
          exact hTv
        · exact TruthAt.snoc (by omega) (hS0 j (by omega) (by omega)) (hTr j (by omega)))
      intro j hj
      by_cases e : j = i
      · subst e
        rw [rd_set_eq (by omega)]
        have := rd_app_eq (l := xs) (v := v)
        rw [hx] at this
        exact this.symm
      · rw [rd_set_ne (by omega), rd_app_lt (by omega)]
        exact hE j (by omega)
    have hyx : ∀ z : Int, 0 ≤ z → z < (i : Int) → rd ys z = rd xs z := by
      intro z h0 h1
      obtain ⟨n, rfl⟩ := Int.eq_ofNat_of_zero_le h0
      exact hE n (by omega)
    have eq_v : ∀ v : Int, rd (xs ++ [v]) (i : Int) = v := fun v => by
      have := rd_app_eq (l := xs) (v := v)
      rw [hx] at this
      exact this
    have eq_o : ∀ (v z : Int), 0 ≤ z → z < (i : Int) → rd (xs ++ [v]) z = rd xs z := by
      intro v z h0 h1
      obtain ⟨n, rfl⟩ := Int.eq_ofNat_of_zero_le h0
      exact rd_app_lt (by omega)
    have hwi := wsucc i (by omega)
    unfold TruthAt at key
    generalize ht : rd_T37 l (i : Int) = t at hS hc key
    obtain ⟨f0, f1, f2, f3⟩ := t
    simp only at hS hc key
    rcases hS with ⟨e0, e1, e2, e3⟩ | ⟨e0, e1, e2, e3, e4⟩ | ⟨g0, g1, g2, g3, g4, g5, g6, g7⟩
    · subst e0
      obtain ⟨r, h1, h2, h3⟩ := key 1 c (.inr rfl) (by simpa using hc) ⟨fun _ => eq_v _, fun h => by omega, fun h => by omega, fun h => by omega, fun h => by omega⟩
      refine ⟨r, Ev.step ?_ (fun k => spec_l21Truths.l0.eq_2 ..), Ev.step ?_ (fun k => impl_truths.l0.eq_2 ..), h3⟩
      · rw [ht, hwi]
        exact Ev.pos (by omega) (Ev.pos (by omega) (Ev.neg (by simp) (Ev.neg (by simp) (Ev.neg (by simp) (Ev.neg (by simp) (Ev.neg (by simp) (Ev.pos (by omega) h1)))))))
      · rw [ht, hwi, Int.toNat_natCast]
        exact Ev.pos (by omega) (Ev.pos (by omega) (Ev.pos (by omega) (Ev.pos rfl (Ev.pos (by omega) h2))))
    · subst e0
      have hv : Bit (rd bits f1) := hb.at e1 (by omega)
      obtain ⟨r, h1, h2, h3⟩ := key (rd bits f1) c hv (by simpa using hc) ⟨fun h => by omega, fun _ => eq_v _, fun h => by omega, fun h => by omega, fun h => by omega⟩
      refine ⟨r, Ev.step ?_ (fun k => spec_l21Truths.l0.eq_2 ..), Ev.step ?_ (fun k => impl_truths.l0.eq_2 ..), h3⟩
      · rw [ht, hwi]
        exact Ev.pos (by omega) (Ev.pos (by omega) (Ev.pos rfl (Ev.pos e1 (Ev.pos (by show f1 < _; omega) (Ev.pos (by omega) h1)))))
      · rw [ht, hwi, Int.toNat_natCast]
        exact Ev.pos (by omega) (Ev.pos (by omega) (Ev.pos (by omega) (Ev.neg (by simp) (Ev.pos rfl (Ev.pos e1 (Ev.pos (by show f1 < _; omega) (Ev.pos (by omega) h2)))))))
    · have hx2 : Bit (rd xs f2) := hB.at g3 (by omega)
      have hx3 : Bit (rd xs f3) := hB.at g5 (by omega)
      have hy2 := hyx f2 g3 g4
      have hy3 := hyx f3 g5 g6
      have hcase : f0 = 2 ∨ f0 = 3 ∨ f0 = 4 ∨ 5 ≤ f0 := by omega
      rcases hcase with e | e | e | e
      · subst e
        obtain ⟨r, h1, h2, h3⟩ := key (wrap64 (1 - rd xs f2)) c (not_bit hx2) (by simpa using hc) ⟨fun h => by omega, fun h => by omega, fun _ => by rw [eq_v, eq_o _ f2 g3 g4], fun h => by omega, fun h => by omega⟩
        refine ⟨r, Ev.step ?_ (fun k => spec_l21Truths.l0.eq_2 ..), Ev.step ?_ (fun k => impl_truths.l0.eq_2 ..), h3⟩
        · rw [ht, hwi]
          exact Ev.pos (by omega) (Ev.pos (by omega) (Ev.neg (by simp) (Ev.pos rfl (Ev.pos g3 (Ev.pos (by show f2 < _; omega) (Ev.pos (by omega) h1))))))
        · rw [ht, hwi, Int.toNat_natCast]
          refine Ev.pos (by omega) (Ev.pos (by omega) (Ev.pos (by omega) (Ev.neg (by simp) (Ev.neg (by simp) (Ev.pos rfl (Ev.pos g3 (Ev.pos (by show f2 < _; omega) (Ev.pos (by omega) ?_))))))))
          show Ev (fun k => impl_truths.l0 k bits (ys.set i (wrap64 (1 - rd ys f2))) _ _ _ _) r
          rw [hy2]
          exact h2
      · subst e
        obtain ⟨r, h1, h2, h3⟩ := key (wrap64 (rd xs f2 * rd xs f3)) c (and_bits hx2 hx3).2 (by simpa using hc) ⟨fun h => by omega, fun h => by omega, fun h => by omega, fun _ => by rw [eq_v, eq_o _ f2 g3 g4, eq_o _ f3 g5 g6], fun h => by omega⟩
        refine ⟨r, Ev.step ?_ (fun k => spec_l21Truths.l0.eq_2 ..), Ev.step ?_ (fun k => impl_truths.l0.eq_2 ..), h3⟩
        · rw [ht, hwi]
          exact Ev.pos (by omega) (Ev.pos (by omega) (Ev.neg (by simp) (Ev.neg (by simp) (Ev.pos rfl (Ev.pos g3 (Ev.pos (by show f2 < _; omega) (Ev.pos g5 (Ev.pos (by show f3 < _; omega) (Ev.pos (by omega) h1)))))))))
        · rw [ht, hwi, Int.toNat_natCast]
          refine Ev.pos (by omega) (Ev.pos (by omega) (Ev.pos (by omega) (Ev.neg (by simp) (Ev.neg (by simp) (Ev.neg (by simp) (Ev.pos rfl (Ev.pos g3 (Ev.pos (by show f2 < _; omega) (Ev.pos g5 (Ev.pos (by show f3 < _; omega) (Ev.pos (by omega) ?_)))))))))))
          show Ev (fun k => impl_truths.l0 k bits (ys.set i (Go.bits .and .i64 (rd ys f2) (rd ys f3))) _ _ _ _) r
          rw [hy2, hy3, (and_bits hx2 hx3).1]
          exact h2
      · subst e
        obtain ⟨v, hv1, hv2, hv3⟩ := or_bits hx2 hx3
        obtain ⟨r, h1, h2, h3⟩ := key v c hv3 (by simpa using hc) ⟨fun h => by omega, fun h => by omega, fun h => by omega, fun h => by omega, fun _ => by rw [eq_v, eq_o _ f2 g3 g4, eq_o _ f3 g5 g6, hv2]⟩
        refine ⟨r, Ev.step ?_ (fun k => spec_l21Truths.l0.eq_2 ..), Ev.step ?_ (fun k => impl_truths.l0.eq_2 ..), h3⟩
        · rw [ht, hwi]
          exact Ev.pos (by omega) (Ev.pos (by omega) (Ev.neg (by simp) (Ev.neg (by simp) (Ev.neg (by simp) (Ev.pos rfl (Ev.pos g3 (Ev.pos (by show f2 < _; omega) (Ev.pos g5 (Ev.pos (by show f3 < _; omega) (Ev.bind (Ev.const hv1) (Ev.pos (by omega) h1)))))))))))
        · rw [ht, hwi, Int.toNat_natCast]
          refine Ev.pos (by omega) (Ev.pos (by omega) (Ev.pos (by omega) (Ev.neg (by simp) (Ev.neg (by simp) (Ev.neg (by simp) (Ev.neg (by simp) (Ev.pos rfl (Ev.pos g3 (Ev.pos (by show f2 < _; omega) (Ev.pos g5 (Ev.pos (by show f3 < _; omega) (Ev.pos (by omega) ?_))))))))))))
          show Ev (fun k => impl_truths.l0 k bits (ys.set i (Go.bits .or .i64 (rd ys f2) (rd ys f3))) _ _ _ _) r
          rw [hy2, hy3, hv2]
          exact h2
      · rw [if_pos e] at hc
        have hv : Bit (rd bits (facts + (c : Int))) := hb.at (by omega) (by omega)
        obtain ⟨r, h1, h2, h3⟩ := key (rd bits (facts + (c : Int))) (c + 1) hv (by omega) ⟨fun h => by omega, fun h => by omega, fun h => by omega, fun h => by omega, fun h => by omega⟩
        have hwc : wrap64 (facts + (c : Int) + 1) = facts + ((c + 1 : Nat) : Int) := by
          rw [w_id (by omega) (by omega)]
          omega
        refine ⟨r, Ev.step ?_ (fun k => spec_l21Truths.l0.eq_2 ..), Ev.step ?_ (fun k => impl_truths.l0.eq_2 ..), h3⟩
        · rw [ht, hwi, hwc]
          exact Ev.pos (by omega) (Ev.pos (by omega) (Ev.neg (by show ¬ f0 = 1; omega) (Ev.neg (by show ¬ f0 = 2; omega) (Ev.neg (by show ¬ f0 = 3; omega) (Ev.neg (by show ¬ f0 = 4; omega) (Ev.pos e (Ev.pos (by omega) (Ev.pos (by omega) (Ev.pos (by omega) h1)))))))))
        · rw [ht, hwi, hwc, Int.toNat_natCast]
          exact Ev.pos (by omega) (Ev.pos (by omega) (Ev.pos (by omega) (Ev.neg (by show ¬ f0 = 0; omega) (Ev.neg (by show ¬ f0 = 1; omega) (Ev.neg (by show ¬ f0 = 2; omega) (Ev.neg (by show ¬ f0 = 3; omega) (Ev.neg (by show ¬ f0 = 4; omega) (Ev.pos (by omega) (Ev.pos (by omega) (Ev.pos (by omega) h2))))))))))
/-- What both make of a guess. -/
theorem both_truths_all (l : List S37) (facts n : Int) (h : AskedOk l facts) (h0 : 0 ≤ n) (h1 : n < 9223372036854775808) :
    ∃ r, Ev (fun k => spec_l21At.f k l facts n) r ∧ Ev (fun k => impl_truths.f k l facts n) r ∧ r.length = l.length ∧ Bits r ∧ ∀ j : Nat, j < l.length → TruthAt l (bitsD n (facts.toNat + manyL l)) r j := by
  obtain ⟨hT, h7⟩ := h
  have hf := hT.1
  have hl := hT.2.1
  have h4 : (stepsL l l.length 0 []).length = manyL l := steps_len l
  have em : facts + (manyL l : Int) = ((facts.toNat + manyL l : Nat) : Int) := by omega
  have hB : Bits (bitsD n (facts.toNat + manyL l)) := fun j hj => bitsD_bit n _ j (by rw [bitsD_length] at hj; exact hj)
  obtain ⟨r, e1, e2, e3, e4⟩ := both_truths_loop_all l facts hT (bitsD n (facts.toNat + manyL l)) hB (by rw [bitsD_length]; omega) l.length 0 0 [] (List.replicate l.length 0) (by omega) (by simp [manyL]) rfl (by simp) (fun j hj => by simp at hj) (fun j hj => by omega) (fun j hj => by omega)
  refine ⟨r, ?_, ?_, e3, e4⟩
  · unfold spec_l21At.f
    refine Ev.bind (spec_steps l hl.2) ?_
    rw [h4, w_id (by omega) (by omega), em]
    refine Ev.bind (spec_value n h0 _ (by omega)) ?_
    unfold spec_l21Truths.f
    refine Ev.bind (a := r) ?_ (Ev.val _)
    simpa using e1
  · unfold impl_truths.f
    refine Ev.bind (impl_guessed_yes l facts hT) ?_
    simp only
    rw [h4, w_id (by omega) (by omega), em]
    refine Ev.bind (impl_bits n h0 h1 _ (by omega)) ?_
    refine Ev.pos (by omega) (Ev.pos (by omega) ?_)
    rw [Int.toNat_natCast]
    simpa using e2
theorem both_truths (l : List S37) (facts n : Int) (h : AskedOk l facts) (h0 : 0 ≤ n) (h1 : n < 9223372036854775808) :
    ∃ r, Ev (fun k => spec_l21At.f k l facts n) r ∧ Ev (fun k => impl_truths.f k l facts n) r ∧ r.length = l.length ∧ Bits r := by
  obtain ⟨r, e1, e2, e3, e4, _⟩ := both_truths_all l facts n h h0 h1
  exact ⟨r, e1, e2, e3, e4⟩
theorem countL_le (l : List S37) (facts : Int) : 0 ≤ countL l facts ∧ countL l facts ≤ 128 := by
  unfold countL
  by_cases h : AskedOk l facts
  · rw [if_pos h]
    have h1 := h.1.1
    have h2 := h.2
    have : facts.toNat + manyL l ≤ 7 := by omega
    have h3 : 2 ^ (facts.toNat + manyL l) ≤ 2 ^ 7 := Nat.pow_le_pow_right (by decide) this
    generalize 2 ^ (facts.toNat + manyL l) = z at h3 ⊢
    omega
  · rw [if_neg h]
    omega
theorem countL_pos (l : List S37) (facts : Int) (h : 0 < countL l facts) : AskedOk l facts := by
  unfold countL at h
  by_cases h1 : AskedOk l facts
  · exact h1
  · rw [if_neg h1] at h
    omega
/-! #### what may come behind -/
theorem until_val {b a n : Int} (hb : Bit b) (ha : Bit a) (hn : Bit n) :
    (b = 1 → Go.bits .or .i64 b (Go.bits .and .i64 a n) = 1) ∧ (¬ b = 1 → a = 1 → spec_l1Truth.f (n == 1) = some (Go.bits .or .i64 b (Go.bits .and .i64 a n))) ∧ (¬ b = 1 → ¬ a = 1 → Go.bits .or .i64 b (Go.bits .and .i64 a n) = 0) := by
  rcases hb with rfl | rfl <;> rcases ha with rfl | rfl <;> rcases hn with rfl | rfl <;> decide +kernel
theorem release_val {b a n : Int} (hb : Bit b) (ha : Bit a) (hn : Bit n) :
    (b = 1 → a = 1 → Go.bits .and .i64 b (Go.bits .or .i64 a n) = 1) ∧ (b = 1 → ¬ a = 1 → spec_l1Truth.f (n == 1) = some (Go.bits .and .i64 b (Go.bits .or .i64 a n))) ∧ (¬ b = 1 → Go.bits .and .i64 b (Go.bits .or .i64 a n) = 0) := by
  rcases hb with rfl | rfl <;> rcases ha with rfl | rfl <;> rcases hn with rfl | rfl <;> decide +kernel
theorem truth_t : spec_l1Truth.f true = some 1 := by decide +kernel
theorem truth_f : spec_l1Truth.f false = some 0 := by decide +kernel
/-- What may come behind: what each step until and each step release has by its parts and the next guess. -/
def NextAt (l : List S37) (xs ys : List Int) (j : Nat) : Prop :=
  ((rd_T37 l j).f0 = 6 → rd xs (j : Int) = Go.bits .or .i64 (rd xs (rd_T37 l j).f3) (Go.bits .and .i64 (rd xs (rd_T37 l j).f2) (rd ys (j : Int)))) ∧
  ((rd_T37 l j).f0 = 7 → rd xs (j : Int) = Go.bits .and .i64 (rd xs (rd_T37 l j).f3) (Go.bits .or .i64 (rd xs (rd_T37 l j).f2) (rd ys (j : Int))))
theorem both_next_loop (l : List S37) (facts : Int) (hT : TimesOk l facts) (xs ys : List Int) (hx : xs.length = l.length) (hy : ys.length = l.length) (bx : Bits xs) (by_ : Bits ys) :
    ∀ (d i : Nat), i + d = l.length → ∃ b, Ev (fun k => spec_l21Next.l0 k l xs ys (i : Int)) b ∧ Ev (fun k => impl_behindOk.l0 k xs ys l (l.length : Int) (i : Int)) b ∧ (b = true → ∀ j : Nat, i ≤ j → j < l.length → NextAt l xs ys j) := by
  intro d
  have hl := hT.2.1
  induction d with
  | zero =>
    intro i hi
    exact ⟨true, Ev.step (Ev.neg (by omega) (Ev.val _)) (fun k => spec_l21Next.l0.eq_2 ..), Ev.step (Ev.neg (by omega) (Ev.val _)) (fun k => impl_behindOk.l0.eq_2 ..), fun _ j h1 h2 => by omega⟩
  | succ d ih =>
    intro i hi
    have hS := hT.2.2 i (by omega) (by omega)
    unfold StepAt at hS
    have hwi := wsucc i (by omega)
    obtain ⟨b0, hs, hm, hN⟩ := ih (i + 1) (by omega)
    have grow : NextAt l xs ys i → b0 = true → ∀ j : Nat, i ≤ j → j < l.length → NextAt l xs ys j := by
      intro h hb j h1 h2
      by_cases e : j = i
      · subst e
        exact h
      · exact hN hb j (by omega) h2
    unfold NextAt at grow
    -- the last test, as both make it
    have fin : ∀ v : Int, ∃ b, Ev (fun k => if v = rd xs (i : Int) then spec_l21Next.l0 k l xs ys ((i + 1 : Nat) : Int) else some false) b ∧ Ev (fun k => if rd xs (i : Int) = v then impl_behindOk.l0 k xs ys l (l.length : Int) ((i + 1 : Nat) : Int) else some false) b ∧ (b = true → rd xs (i : Int) = v ∧ b0 = true) := by
      intro v
      by_cases e : v = rd xs (i : Int)
      · exact ⟨b0, Ev.pos e hs, Ev.pos e.symm hm, fun h => ⟨e.symm, h⟩⟩
      · exact ⟨false, Ev.neg e (Ev.val _), Ev.neg (fun h => e h.symm) (Ev.val _), fun h => by cases h⟩
    generalize ht : rd_T37 l (i : Int) = t at hS grow
    obtain ⟨f0, f1, f2, f3⟩ := t
    simp only at hS grow
    -- below the steps that are guessed both go on
    have low : f0 < 5 → ∃ b, Ev (fun k => spec_l21Next.l0 k l xs ys (i : Int)) b ∧ Ev (fun k => impl_behindOk.l0 k xs ys l (l.length : Int) (i : Int)) b ∧ (b = true → ∀ j : Nat, i ≤ j → j < l.length → NextAt l xs ys j) := by
      intro hlow
      refine ⟨b0, Ev.step ?_ (fun k => spec_l21Next.l0.eq_2 ..), Ev.step ?_ (fun k => impl_behindOk.l0.eq_2 ..), grow ⟨fun h => by omega, fun h => by omega⟩⟩
      · rw [ht, hwi]
        exact Ev.pos (by omega) (Ev.pos (by omega) (Ev.pos (by omega) (Ev.neg (by show ¬ f0 = 5; omega) (Ev.neg (by show ¬ f0 = 6; omega) (Ev.neg (by show ¬ f0 = 7; omega) hs)))))
      · rw [ht]
        refine Ev.pos (by omega) (Ev.pos (by omega) (Ev.pos (by omega) (Ev.neg (by show ¬ f0 ≥ 5; omega) (Ev.step ?_ (fun k => impl_behindOk.j1.eq_2 ..)))))
        rw [hwi]
        exact Ev.pos (by omega) (Ev.pos (by omega) (Ev.neg (by show ¬ f0 = 5; omega) (Ev.neg (by show ¬ f0 = 6; omega) (Ev.neg (by show ¬ f0 = 7; omega) hm))))
    rcases hS with ⟨e0, e1, e2, e3⟩ | ⟨e0, e1, e2, e3, e4⟩ | ⟨g0, g1, g2, g3, g4, g5, g6, g7⟩
    · exact low (by omega)
    · exact low (by omega)
    · by_cases hlow : f0 < 5
      · exact low hlow
      · have vb : Bit (rd xs f3) := bx.at g5 (by omega)
        have va : Bit (rd xs f2) := bx.at g3 (by omega)
        have vn : Bit (rd ys (i : Int)) := by_.at (by omega) (by omega)
        have impl_ : ∀ b, Ev (fun k => impl_behindOk.j1 k xs ys (i : Int) f2 f3 l (l.length : Int) (i : Int) f0 f1 f2 f3) b → Ev (fun k => impl_behindOk.l0 k xs ys l (l.length : Int) (i : Int)) b := by
          intro b hb
          refine Ev.step ?_ (fun k => impl_behindOk.l0.eq_2 ..)
          rw [ht]
          exact Ev.pos (by omega) (Ev.pos (by omega) (Ev.pos (by omega) (Ev.pos (by show f0 ≥ 5; omega) hb)))
        have hcase : f0 = 5 ∨ f0 = 6 ∨ f0 = 7 := by omega
        rcases hcase with e | e | e
        · subst e
          obtain ⟨b, h1, h2, hv⟩ := fin (rd ys f2)
          refine ⟨b, Ev.step ?_ (fun k => spec_l21Next.l0.eq_2 ..), impl_ b (Ev.step ?_ (fun k => impl_behindOk.j1.eq_2 ..)), fun h => grow ⟨fun h => by omega, fun h => by omega⟩ (hv h).2⟩
          · rw [ht, hwi]
            exact Ev.pos (by omega) (Ev.pos (by omega) (Ev.pos (by omega) (Ev.pos rfl (Ev.pos g3 (Ev.pos (by show f2 < _; omega) h1)))))
          · rw [hwi]
            exact Ev.pos (by omega) (Ev.pos (by omega) (Ev.pos rfl (Ev.pos g3 (Ev.pos (by omega) h2))))
        · subst e
          obtain ⟨u1, u2, u3⟩ := until_val vb va vn
          obtain ⟨b, h1, h2, hv⟩ := fin (Go.bits .or .i64 (rd xs f3) (Go.bits .and .i64 (rd xs f2) (rd ys (i : Int))))
          refine ⟨b, Ev.step ?_ (fun k => spec_l21Next.l0.eq_2 ..), impl_ b (Ev.step ?_ (fun k => impl_behindOk.j1.eq_2 ..)), fun h => grow ⟨fun _ => (hv h).1, fun h => by omega⟩ (hv h).2⟩
          · rw [ht, hwi]
            refine Ev.pos (by omega) (Ev.pos (by omega) (Ev.pos (by omega) (Ev.neg (by simp) (Ev.pos rfl (Ev.pos g5 (Ev.pos (by show f3 < _; omega) ?_))))))
            by_cases c1 : rd xs f3 = 1
            · refine Ev.pos c1 (Ev.bind (Ev.const truth_t) ?_)
              rw [u1 c1] at h1
              exact h1
            · refine Ev.neg c1 (Ev.pos g3 (Ev.pos (by show f2 < _; omega) ?_))
              by_cases c2 : rd xs f2 = 1
              · exact Ev.pos c2 (Ev.pos (by omega) (Ev.bind (Ev.const (u2 c1 c2)) h1))
              · refine Ev.neg c2 (Ev.bind (Ev.const truth_f) ?_)
                rw [u3 c1 c2] at h1
                exact h1
          · rw [hwi]
            exact Ev.pos (by omega) (Ev.pos (by omega) (Ev.neg (by simp) (Ev.pos rfl (Ev.pos g5 (Ev.pos (by omega) (Ev.pos g3 (Ev.pos (by omega) (Ev.pos (by omega) h2))))))))
        · subst e
          obtain ⟨u1, u2, u3⟩ := release_val vb va vn
          obtain ⟨b, h1, h2, hv⟩ := fin (Go.bits .and .i64 (rd xs f3) (Go.bits .or .i64 (rd xs f2) (rd ys (i : Int))))
          refine ⟨b, Ev.step ?_ (fun k => spec_l21Next.l0.eq_2 ..), impl_ b (Ev.step ?_ (fun k => impl_behindOk.j1.eq_2 ..)), fun h => grow ⟨fun h => by omega, fun _ => (hv h).1⟩ (hv h).2⟩
          · rw [ht, hwi]
            refine Ev.pos (by omega) (Ev.pos (by omega) (Ev.pos (by omega) (Ev.neg (by simp) (Ev.neg (by simp) (Ev.pos rfl (Ev.pos g5 (Ev.pos (by show f3 < _; omega) ?_)))))))
            by_cases c1 : rd xs f3 = 1
            · refine Ev.pos c1 (Ev.pos g3 (Ev.pos (by show f2 < _; omega) ?_))
              by_cases c2 : rd xs f2 = 1
              · refine Ev.pos c2 (Ev.bind (Ev.const truth_t) ?_)
                rw [u1 c1 c2] at h1
                exact h1
              · exact Ev.neg c2 (Ev.pos (by omega) (Ev.bind (Ev.const (u2 c1 c2)) h1))
            · refine Ev.neg c1 (Ev.bind (Ev.const truth_f) ?_)
              rw [u3 c1] at h1
              exact h1
          · rw [hwi]
            exact Ev.pos (by omega) (Ev.pos (by omega) (Ev.neg (by simp) (Ev.neg (by simp) (Ev.pos rfl (Ev.pos g5 (Ev.pos (by omega) (Ev.pos g3 (Ev.pos (by omega) (Ev.pos (by omega) h2)))))))))
theorem both_GuessNext_all (l : List S37) (facts n m : Int) : ∃ b, Ev (fun k => spec_GuessNext.f k l facts n m) b ∧ Ev (fun k => impl_GuessNext.f k l facts n m) b ∧ (b = true → (0 ≤ n ∧ n ≤ countL l facts - 1) ∧ (0 ≤ m ∧ m ≤ countL l facts - 1) ∧ TimesOk l facts ∧ ∃ xs ys, Ev (fun k => impl_truths.f k l facts n) xs ∧ Ev (fun k => impl_truths.f k l facts m) ys ∧ xs.length = l.length ∧ ys.length = l.length ∧ Bits xs ∧ Bits ys ∧ ∀ j : Nat, 0 ≤ j → j < l.length → NextAt l xs ys j) := by
  unfold spec_GuessNext.f impl_GuessNext.f
  obtain ⟨hc0, hc1⟩ := countL_le l facts
  have hw : wrap64 (countL l facts - 1) = countL l facts - 1 := w_id (by omega) (by omega)
  by_cases hn : 0 ≤ n ∧ n ≤ countL l facts - 1
  · by_cases hm : 0 ≤ m ∧ m ≤ countL l facts - 1
    · have hA := countL_pos l facts (by omega)
      obtain ⟨xs, x1, x2, x3, x4⟩ := both_truths l facts n hA hn.1 (by omega)
      obtain ⟨ys, y1, y2, y3, y4⟩ := both_truths l facts m hA hm.1 (by omega)
      obtain ⟨b, h1, h2, hN⟩ := both_next_loop l facts hA.1 xs ys x3 y3 x4 y4 l.length 0 (by omega)
      refine ⟨b, ?_, ?_, fun h => ⟨hn, hm, hA.1, xs, ys, x2, y2, x3, y3, x4, y4, hN h⟩⟩
      · refine Ev.bind (spec_count l facts) (Ev.bind (Ev.const (by rw [hw]; exact in_yes hn)) (Ev.pos rfl (Ev.bind (Ev.const (by rw [hw]; exact in_yes hm)) (Ev.step (Ev.neg (by decide) ?_) (fun k => spec_GuessNext.j0.eq_2 ..)))))
        exact Ev.bind x1 (Ev.bind y1 (Ev.bind (a := b) h1 (Ev.val _)))
      · refine Ev.bind (impl_count l facts) (Ev.bind (Ev.const (by rw [hw]; exact iin_yes hn)) (Ev.pos rfl (Ev.bind (Ev.const (by rw [hw]; exact iin_yes hm)) (Ev.pos rfl ?_))))
        exact Ev.bind x2 (Ev.bind y2 (Ev.bind (a := b) h2 (Ev.val _)))
    · refine ⟨false, ?_, ?_, fun h => by cases h⟩
      · exact Ev.bind (spec_count l facts) (Ev.bind (Ev.const (by rw [hw]; exact in_yes hn)) (Ev.pos rfl (Ev.bind (Ev.const (by rw [hw]; exact in_no hm)) (Ev.step (Ev.pos rfl (Ev.val _)) (fun k => spec_GuessNext.j0.eq_2 ..)))))
      · exact Ev.bind (impl_count l facts) (Ev.bind (Ev.const (by rw [hw]; exact iin_yes hn)) (Ev.pos rfl (Ev.bind (Ev.const (by rw [hw]; exact iin_no hm)) (Ev.neg (by decide) (Ev.val _)))))
  · refine ⟨false, ?_, ?_, fun h => by cases h⟩
    · exact Ev.bind (spec_count l facts) (Ev.bind (Ev.const (by rw [hw]; exact in_no hn)) (Ev.neg (by decide) (Ev.step (Ev.pos rfl (Ev.val _)) (fun k => spec_GuessNext.j0.eq_2 ..))))
    · exact Ev.bind (impl_count l facts) (Ev.bind (Ev.const (by rw [hw]; exact iin_no hn)) (Ev.neg (by decide) (Ev.val _)))
/-! #### the drawer of numbers -/
def Drawer (b : List Int) : Prop := b.length ≤ 2000 ∧ ∀ j : Nat, j < b.length → 0 ≤ rd b (j : Int) ∧ rd b (j : Int) ≤ 255
theorem xor_nonneg (a c : Int) (ha : 0 ≤ a) (ha2 : a < 4611686018427387904) (hc : 0 ≤ c) (hc2 : c < 4611686018427387904) : 0 ≤ Go.bits .xor .i64 a c := by
  obtain ⟨m, rfl⟩ := Int.eq_ofNat_of_zero_le ha
  obtain ⟨n, rfl⟩ := Int.eq_ofNat_of_zero_le hc
  have hm : m < 2 ^ 62 := by omega
  have hn : n < 2 ^ 62 := by omega
  have hx := Nat.xor_lt_two_pow hm hn
  have hm' : m % 2 ^ 64 = m := Nat.mod_eq_of_lt (by omega)
  have hn' : n % 2 ^ 64 = n := Nat.mod_eq_of_lt (by omega)
  have e : (BitVec.ofInt 64 (m : Int) ^^^ BitVec.ofInt 64 (n : Int)).toNat = m ^^^ n := by
    rw [BitVec.ofInt_natCast, BitVec.ofInt_natCast, BitVec.toNat_xor, BitVec.toNat_ofNat, BitVec.toNat_ofNat, hm', hn']
  have e2 : Go.bits .xor .i64 (m : Int) (n : Int) = IntKind.i64.wrap ((BitVec.ofInt 64 (m : Int) ^^^ BitVec.ofInt 64 (n : Int)).toNat : Int) := rfl
  rw [e2, e, IntKind.wrap_i64]
  omega
theorem tmod_range (x n : Int) (h0 : 0 ≤ x) (hn : 1 ≤ n) : 0 ≤ Int.tmod x n ∧ Int.tmod x n < n := by
  rw [Int.tmod_eq_emod_of_nonneg h0]
  exact ⟨Int.emod_nonneg _ (by omega), Int.emod_lt_of_pos _ (by omega)⟩
theorem pick_tot (b : List Int) (hb : Drawer b) (p n : Int) (hp : 0 ≤ p) (hp2 : p ≤ 1000000) :
    Tot (fun k => spec_l40Rd_pick.f k b p n) (fun r => r.2 = p + 1 ∧ 0 ≤ r.1 ∧ (1 ≤ n → r.1 < n)) := by
  obtain ⟨hl, hbb⟩ := hb
  have w1 : wrap64 (p + 1) = p + 1 := w_id (by omega) (by omega)
  have w2 : wrap64 (p + 1 - 1) = p := by rw [w_id (by omega) (by omega)]; omega
  have byte : ∀ z : Int, 0 ≤ z → z < (b.length : Int) → 0 ≤ rd b z ∧ rd b z ≤ 255 := by
    intro z h0 h1
    obtain ⟨m, rfl⟩ := Int.eq_ofNat_of_zero_le h0
    exact hbb m (by omega)
  unfold spec_l40Rd_pick.f
  rw [w1]
  refine Tot.ite (fun hn => ?_) (fun hn => ?_)
  · refine Tot.step (Tot.pos rfl (Tot.val ?_)) (fun k => spec_l40Rd_pick.j0.eq_2 ..)
    exact ⟨rfl, Int.le_refl _, fun h => by omega⟩
  · refine Tot.step ?_ (fun k => spec_l40Rd_pick.j0.eq_2 ..)
    refine Tot.ite (fun hz => Tot.val ⟨rfl, Int.le_refl _, fun h => by show (0 : Int) < n; omega⟩) (fun hz => ?_)
    have hlen : (b.length : Int) ≠ 0 := by simpa using hz
    rw [w2]
    refine Tot.ite (fun hpl => ?_) (fun hpl => ?_)
    · obtain ⟨y0, y1⟩ := byte p hp hpl
      refine Tot.pos hp (Tot.neg (by omega) (Tot.val ?_))
      rw [w_id (by omega) (by omega)]
      obtain ⟨z0, z1⟩ := tmod_range (rd b p) n y0 (by omega)
      exact ⟨rfl, z0, fun _ => z1⟩
    · obtain ⟨i0, i1⟩ := tmod_range p (b.length : Int) hp (by omega)
      have w3 : wrap64 (p * 7) = p * 7 := w_id (by omega) (by omega)
      have w4 : wrap64 (p * 7 + 3) = p * 7 + 3 := w_id (by omega) (by omega)
      rw [w3, w4]
      obtain ⟨j0, j1⟩ := tmod_range (p * 7 + 3) (b.length : Int) (by omega) (by omega)
      refine Tot.neg (by omega) (Tot.pos i0 (Tot.pos i1 (Tot.pos j0 (Tot.pos j1 (Tot.neg (by omega) (Tot.val ?_))))))
      obtain ⟨u0, u1⟩ := byte _ i0 i1
      obtain ⟨v0, v1⟩ := byte _ j0 j1
      generalize rd b (Int.tmod p (b.length : Int)) = u at u0 u1 ⊢
      generalize rd b (Int.tmod (p * 7 + 3) (b.length : Int)) = v at v0 v1 ⊢
      have q0 : 0 ≤ Int.tdiv p (b.length : Int) ∧ Int.tdiv p (b.length : Int) ≤ p := by
        rw [Int.tdiv_eq_ediv_of_nonneg hp]
        exact ⟨Int.ediv_nonneg hp (by omega), Int.ediv_le_self _ hp⟩
      generalize Int.tdiv p (b.length : Int) = q at q0 ⊢
      rw [w_id (x := u) (by omega) (by omega), w_id (x := v) (by omega) (by omega), w_id (x := q) (by omega) (by omega), w_id (x := u * 131) (by omega) (by omega), w_id (x := v * 1117) (by omega) (by omega),
        w_id (x := p * 29) (by omega) (by omega), w_id (x := q * 53) (by omega) (by omega), w_id (x := u * 131 + v * 1117) (by omega) (by omega), w_id (x := u * 131 + v * 1117 + p * 29) (by omega) (by omega), w_id (x := u * 131 + v * 1117 + p * 29 + q * 53) (by omega) (by omega)]
      generalize hA : u * 131 + v * 1117 + p * 29 + q * 53 = A
      have hA0 : 0 ≤ A ∧ A ≤ 1000000000 := by omega
      have hd : 0 ≤ Int.tdiv A 64 ∧ Int.tdiv A 64 ≤ A := by
        rw [Int.tdiv_eq_ediv_of_nonneg hA0.1]
        omega
      rw [w_id (x := Int.tdiv A 64) (by omega) (by omega)]
      have hx := xor_nonneg A (Int.tdiv A 64) hA0.1 (by omega) hd.1 (by omega)
      obtain ⟨z0, z1⟩ := tmod_range _ n hx (by omega)
      exact ⟨rfl, z0, fun _ => z1⟩
theorem num_tot (b : List Int) (hb : Drawer b) (p : Int) (l : List Int) (hp : 0 ≤ p) (hp2 : p ≤ 1000000) (hl : 1 ≤ l.length) :
    Tot (fun k => spec_l40Rd_num.f k b p l) (fun r => r.2 = p + 1 ∧ r.1 ∈ l) := by
  unfold spec_l40Rd_num.f
  refine Tot.bind (pick_tot b hb p (l.length : Int) hp hp2) ?_
  rintro ⟨x, q⟩ ⟨h1, h2, h3⟩
  have h4 := h3 (by omega)
  refine Tot.pos h2 (Tot.pos h4 (Tot.val ⟨h1, ?_⟩))
  show rd l x ∈ l
  obtain ⟨m, rfl⟩ := Int.eq_ofNat_of_zero_le h2
  rw [rd_lt (by show m < _; simp only at h4; omega)]
  exact List.getElem_mem _
theorem open_tot (code : List Int) (hc : ∀ x ∈ code, (Lit.int .u8 x).wf = true) : ∃ b, spec_l40Open.f code = some (b, 0) ∧ Drawer b := by
  have byte : ∀ b : List Int, (∀ x ∈ b, x ∈ code) → ∀ j : Nat, j < b.length → 0 ≤ rd b (j : Int) ∧ rd b (j : Int) ≤ 255 := by
    intro b hs j hj
    rw [rd_lt hj]
    have := hc _ (hs _ (List.getElem_mem hj))
    simp [Lit.wf, IntKind.min, IntKind.max, IntKind.signed, IntKind.bits] at this
    omega
  unfold spec_l40Open.f
  by_cases c : (code.length : Int) > 2000
  · rw [if_pos c, if_pos (by omega)]
    refine ⟨_, rfl, by simp; omega, byte _ (fun x hx => List.mem_of_mem_take hx)⟩
  · rw [if_neg c]
    exact ⟨_, rfl, by omega, byte _ (fun x hx => hx)⟩
/-! #### formulas of time that are drawn -/
theorem one_tot (x : Int) : ∃ c, spec_l20One.f x = some c := by
  unfold spec_l20One.f
  by_cases h : x = 2
  · exact ⟨_, by rw [if_pos h]⟩
  · exact ⟨_, by rw [if_neg h]⟩
theorem draw_loop (b : List Int) (hb : Drawer b) (facts : Int) : ∀ (d : Nat) (x2 p : Int) (out : List S37), out.length + d ≤ 1000 → d ≤ 100 → 0 ≤ p → p + 10 * (d : Int) ≤ 1000000 →
    Tot (fun k => spec_l20Draw.l0 k facts x2 out (d : Int) b p) (fun r => r.1.length = out.length + d ∧ p ≤ r.2 ∧ r.2 ≤ p + 10 * (d : Int)) := by
  intro d
  induction d with
  | zero =>
    intro x2 p out ho hd hp hp2
    exact Tot.step (Tot.neg (by omega) (Tot.val ⟨rfl, Int.le_refl _, by omega⟩)) (fun k => spec_l20Draw.l0.eq_2 ..)
  | succ d ih =>
    intro x2 p out ho hd hp hp2
    have hwd : wrap64 (((d + 1 : Nat) : Int) - 1) = (d : Int) := by rw [w_id (by omega) (by omega)]; omega
    have leaf : ∀ (x2' p' : Int) (t : S37), p ≤ p' → p' ≤ p + 9 → out.length ≤ 999 →
        Tot (fun k => spec_l20Draw.l0 k facts x2' (out ++ [t]) (wrap64 (((d + 1 : Nat) : Int) - 1)) b p') (fun r => r.1.length = out.length + (d + 1) ∧ p ≤ r.2 ∧ r.2 ≤ p + 10 * ((d + 1 : Nat) : Int)) := by
      intro x2' p' t h1 h2 h3
      rw [hwd]
      refine (ih x2' p' (out ++ [t]) (by simp; omega) (by omega) (by omega) (by omega)).mono ?_
      rintro ⟨r, q⟩ ⟨e1, e2, e3⟩
      simp only [List.length_append, List.length_singleton] at e1 e2 e3 ⊢
      exact ⟨by omega, by omega, by omega⟩
    by_cases ho2 : out.length ≤ 999
    · have P_ : True := trivial
      have j4 : ∀ (x51 : Bool) (p' a1 a2 a3 a4 : Int), p ≤ p' → p' ≤ p + 9 →
          Tot (fun k => spec_l20Draw.j4 k facts x2 out ((d + 1 : Nat) : Int) x51 b p' a1 a2 a3 a4) (fun r => r.1.length = out.length + (d + 1) ∧ p ≤ r.2 ∧ r.2 ≤ p + 10 * ((d + 1 : Nat) : Int)) := by
        intro x51 p' a1 a2 a3 a4 h1 h2
        refine Tot.step ?_ (fun k => spec_l20Draw.j4.eq_2 ..)
        exact Tot.ite (fun _ => Tot.pos (by omega) (leaf _ _ _ h1 h2 ho2)) (fun _ => Tot.pos (by omega) (leaf _ _ _ h1 h2 ho2))
      have j5 : ∀ (x9 p' a1 a2 a3 a4 : Int), p ≤ p' → p' ≤ p + 9 →
          Tot (fun k => spec_l20Draw.j5 k facts x2 out ((d + 1 : Nat) : Int) x9 b p' a1 a2 a3 a4) (fun r => r.1.length = out.length + (d + 1) ∧ p ≤ r.2 ∧ r.2 ≤ p + 10 * ((d + 1 : Nat) : Int)) := by
        intro x9 p' a1 a2 a3 a4 h1 h2
        refine Tot.step ?_ (fun k => spec_l20Draw.j5.eq_2 ..)
        exact Tot.ite (fun _ => Tot.pos (by omega) (leaf _ _ _ h1 h2 ho2)) (fun _ => Tot.pos (by omega) (leaf _ _ _ h1 h2 ho2))
      have j3 : ∀ (x9 p1 : Int) (x36 : Bool), p ≤ p1 → p1 ≤ p + 1 →
          Tot (fun k => spec_l20Draw.j3 k facts x2 out ((d + 1 : Nat) : Int) x9 x36 b p1 x9 0 0 0) (fun r => r.1.length = out.length + (d + 1) ∧ p ≤ r.2 ∧ r.2 ≤ p + 10 * ((d + 1 : Nat) : Int)) := by
        intro x9 p1 x36 h1 h2
        refine Tot.step ?_ (fun k => spec_l20Draw.j3.eq_2 ..)
        refine Tot.ite (fun _ => ?_) (fun _ => ?_)
        · refine Tot.bind (pick_tot b hb p1 facts (by omega) (by omega)) ?_
          rintro ⟨x, q⟩ ⟨e1, e2, e3⟩
          simp only at e1 e2 e3 ⊢
          subst e1
          refine Tot.ite (fun _ => j4 _ _ _ _ _ _ (by omega) (by omega)) (fun _ => ?_)
          exact Tot.ite (fun _ => j4 _ _ _ _ _ _ (by omega) (by omega)) (fun _ => j4 _ _ _ _ _ _ (by omega) (by omega))
        · refine Tot.bind (pick_tot b hb p1 2 (by omega) (by omega)) ?_
          rintro ⟨x, q⟩ ⟨e1, _, _⟩
          simp only at e1 ⊢
          subst e1
          refine Tot.bind (pick_tot b hb (p1 + 1) _ (by omega) (by omega)) ?_
          rintro ⟨x, q⟩ ⟨e1, _, _⟩
          simp only at e1 ⊢
          subst e1
          refine Tot.bind (pick_tot b hb (p1 + 1 + 1) _ (by omega) (by omega)) ?_
          rintro ⟨x, q⟩ ⟨e1, _, _⟩
          simp only at e1 ⊢
          subst e1
          obtain ⟨c, hc⟩ := one_tot x9
          refine Tot.bind (Tot.of (P := fun _ => True) (Ev.const hc) trivial) (fun c _ => ?_)
          exact Tot.ite (fun _ => j5 _ _ _ _ _ _ (by omega) (by omega)) (fun _ => j5 _ _ _ _ _ _ (by omega) (by omega))
      have j2 : ∀ (x9 p1 : Int), p ≤ p1 → p1 ≤ p + 1 →
          Tot (fun k => spec_l20Draw.j2 k facts x2 out ((d + 1 : Nat) : Int) x9 b p1) (fun r => r.1.length = out.length + (d + 1) ∧ p ≤ r.2 ∧ r.2 ≤ p + 10 * ((d + 1 : Nat) : Int)) := by
        intro x9 p1 h1 h2
        refine Tot.step ?_ (fun k => spec_l20Draw.j2.eq_2 ..)
        exact Tot.ite (fun _ => j3 _ _ _ h1 h2) (fun _ => j3 _ _ _ h1 h2)
      have j1 : ∀ (x9 p1 : Int) (x27 : Bool), p ≤ p1 → p1 ≤ p + 1 →
          Tot (fun k => spec_l20Draw.j1 k facts x2 out ((d + 1 : Nat) : Int) x9 x27 b p1) (fun r => r.1.length = out.length + (d + 1) ∧ p ≤ r.2 ∧ r.2 ≤ p + 10 * ((d + 1 : Nat) : Int)) := by
        intro x9 p1 x27 h1 h2
        refine Tot.step ?_ (fun k => spec_l20Draw.j1.eq_2 ..)
        exact Tot.ite (fun _ => j2 _ _ h1 h2) (fun _ => j2 _ _ h1 h2)
      refine Tot.step (Tot.pos (by omega) ?_) (fun k => spec_l20Draw.l0.eq_2 ..)
      refine Tot.bind (num_tot b hb p _ hp (by omega) (by simp)) ?_
      rintro ⟨v, q⟩ ⟨e1, _⟩
      simp only at e1 ⊢
      subst e1
      exact Tot.ite (fun _ => j1 _ _ _ (by omega) (by omega)) (fun _ => j1 _ _ _ (by omega) (by omega))
    · omega
theorem draw_tot (b : List Int) (hb : Drawer b) (p facts x2 : Int) (hp : 0 ≤ p) (hp2 : p ≤ 900000) :
    Tot (fun k => spec_l20Draw.f k b p facts x2) (fun r => 1 ≤ r.1.length ∧ r.1.length ≤ 100 ∧ p ≤ r.2 ∧ r.2 ≤ p + 100) := by
  unfold spec_l20Draw.f
  refine Tot.bind (pick_tot b hb p 7 hp (by omega)) ?_
  rintro ⟨x, q⟩ ⟨e1, e2, e3⟩
  simp only at e1 e2 e3 ⊢
  subst e1
  have e4 := e3 (by omega)
  obtain ⟨m, rfl⟩ := Int.eq_ofNat_of_zero_le e2
  have hw : wrap64 (2 + (m : Int)) = ((2 + m : Nat) : Int) := by rw [w_id (by omega) (by omega)]; omega
  rw [hw]
  refine (draw_loop b hb facts (2 + m) x2 (p + 1) [] (by simp; omega) (by omega) (by omega) (by omega)).mono ?_
  rintro ⟨r, q⟩ ⟨h1, h2, h3⟩
  simp only [List.length_nil] at h1 h2 h3 ⊢
  exact ⟨by omega, by omega, by omega, by omega⟩
theorem any_tot (b : List Int) (hb : Drawer b) (p facts x2 : Int) (hp : 0 ≤ p) (hp2 : p ≤ 800000) :
    Tot (fun k => spec_l20Any.f k b p facts x2) (fun r => p ≤ r.2 ∧ r.2 ≤ p + 200) := by
  unfold spec_l20Any.f
  refine Tot.bind (draw_tot b hb p facts x2 hp (by omega)) ?_
  rintro ⟨l, q⟩ ⟨h1, h2, h3, h4⟩
  simp only at h1 h2 h3 h4 ⊢
  refine Tot.bind (pick_tot b hb q 14 (by omega) (by omega)) ?_
  rintro ⟨x, q1⟩ ⟨e1, _, _⟩
  simp only at e1 ⊢
  subst e1
  refine Tot.ite (fun _ => ?_) (fun _ => Tot.val ⟨by show p ≤ q + 1; omega, by show q + 1 ≤ _; omega⟩)
  refine Tot.bind (pick_tot b hb (q + 1) (l.length : Int) (by omega) (by omega)) ?_
  rintro ⟨i, q2⟩ ⟨e1, e2, e3⟩
  simp only at e1 e2 e3 ⊢
  subst e1
  refine Tot.pos e2 (Tot.pos (e3 (by omega)) ?_)
  refine Tot.bind (pick_tot b hb (q + 1 + 1) 4 (by omega) (by omega)) ?_
  rintro ⟨w, q3⟩ ⟨e1, _, _⟩
  simp only at e1 ⊢
  subst e1
  have fin : ∀ l : List Int, 1 ≤ l.length → Tot (fun k => spec_l40Rd_num.f k b (q + 1 + 1 + 1) l) (fun r => r.2 = q + 1 + 1 + 1 + 1 ∧ r.1 ∈ l) := fun l hl => num_tot b hb _ l (by omega) (by omega) hl
  refine Tot.ite (fun _ => Tot.bind (fin _ (by simp)) ?_) (fun _ => Tot.ite (fun _ => Tot.bind (fin _ (by simp)) ?_) (fun _ => Tot.ite (fun _ => Tot.bind (fin _ (by simp)) ?_) (fun _ => Tot.bind (fin _ (by simp)) ?_)))
  all_goals
    rintro ⟨v, q4⟩ ⟨e1, _⟩
    simp only at e1 ⊢
    subst e1
    exact Tot.val ⟨by show p ≤ q + 1 + 1 + 1 + 1; omega, by show q + 1 + 1 + 1 + 1 ≤ p + 200; omega⟩
theorem small_tot (b : List Int) (hb : Drawer b) (p facts : Int) (hp : 0 ≤ p) (hp2 : p ≤ 700000) :
    Tot (fun k => spec_l21Small.f k b p facts) (fun r => p ≤ r.2 ∧ r.2 ≤ p + 300) := by
  unfold spec_l21Small.f
  refine Tot.bind (pick_tot b hb p 2 hp (by omega)) ?_
  rintro ⟨x, q⟩ ⟨e1, _, _⟩
  simp only at e1 ⊢
  subst e1
  refine Tot.bind (any_tot b hb (p + 1) facts _ (by omega) (by omega)) ?_
  rintro ⟨l, q⟩ ⟨h1, h2⟩
  simp only at h1 h2 ⊢
  exact Tot.val ⟨by show p ≤ q; omega, by show q ≤ p + 300; omega⟩
theorem ask_tot (code : List Int) (hc : ∀ x ∈ code, (Lit.int .u8 x).wf = true) : Tot (fun k => spec_l21Ask.f k code) (fun _ => True) := by
  unfold spec_l21Ask.f
  obtain ⟨b, ho, hb⟩ := open_tot code hc
  refine Tot.bind (Tot.of (P := fun r => r = (b, 0)) (Ev.const ho) rfl) ?_
  rintro _ rfl
  simp only
  refine Tot.bind (num_tot b hb 0 _ (by omega) (by omega) (by simp)) ?_
  rintro ⟨facts, q⟩ ⟨e1, _⟩
  simp only at e1 ⊢
  subst e1
  refine Tot.bind (small_tot b hb (0 + 1) facts (by omega) (by omega)) ?_
  rintro ⟨l, q⟩ ⟨h1, h2⟩
  simp only at h1 h2 ⊢
  have hj : ∀ (l : List S37) (q : Int), 0 ≤ q → q ≤ 800000 → Tot (fun k => spec_l21Ask.j0 k facts l b q) (fun _ => True) := by
    intro l q h0 h1
    refine Tot.step ?_ (fun k => spec_l21Ask.j0.eq_2 ..)
    refine Tot.bind (Tot.of (P := fun _ => True) (spec_count l facts) trivial) (fun c _ => ?_)
    refine Tot.bind (pick_tot b hb q _ (by omega) (by omega)) ?_
    rintro ⟨x, q1⟩ ⟨e1, _, _⟩
    simp only at e1 ⊢
    subst e1
    refine Tot.bind (pick_tot b hb (q + 1) _ (by omega) (by omega)) ?_
    rintro ⟨x, q1⟩ ⟨e1, _, _⟩
    simp only at e1 ⊢
    subst e1
    refine Tot.bind (pick_tot b hb (q + 1 + 1) _ (by omega) (by omega)) ?_
    rintro ⟨x, q1⟩ ⟨e1, _, _⟩
    simp only at e1 ⊢
    subst e1
    refine Tot.bind (num_tot b hb (q + 1 + 1 + 1) _ (by omega) (by omega) (by simp)) ?_
    rintro ⟨x, q1⟩ ⟨e1, _⟩
    simp only at e1 ⊢
    subst e1
    refine Tot.bind (pick_tot b hb (q + 1 + 1 + 1 + 1) _ (by omega) (by omega)) ?_
    rintro ⟨x, q1⟩ _
    exact Tot.val trivial
  refine Tot.bind (pick_tot b hb q 14 (by omega) (by omega)) ?_
  rintro ⟨x, q1⟩ ⟨e1, _, _⟩
  simp only at e1 ⊢
  subst e1
  refine Tot.ite (fun _ => ?_) (fun _ => hj _ _ (by omega) (by omega))
  refine Tot.bind (any_tot b hb (q + 1) facts _ (by omega) (by omega)) ?_
  rintro ⟨l2, q2⟩ ⟨h3, h4⟩
  simp only at h3 h4 ⊢
  exact hj _ _ (by omega) (by omega)
/-! #### the law's own comparison of lists of numbers -/
theorem wc_ints_loop (l : List Int) (hl : l.length ≤ 4611686018427387904) : ∀ (d i : Nat), i + d = l.length → Ev (fun k => laws_wcInts.l0 k l l (l.length : Int) (i : Int)) true := by
  intro d
  induction d with
  | zero =>
    intro i hi
    exact Ev.step (Ev.neg (by omega) (Ev.val _)) (fun k => laws_wcInts.l0.eq_2 ..)
  | succ d ih =>
    intro i hi
    have hwi := wsucc i (by omega)
    refine Ev.step ?_ (fun k => laws_wcInts.l0.eq_2 ..)
    rw [hwi]
    exact Ev.pos (by omega) (Ev.pos (by omega) (Ev.pos (by omega) (Ev.pos (by omega) (Ev.pos rfl (ih (i + 1) (by omega))))))
theorem wc_ints (l : List Int) (hl : l.length ≤ 4611686018427387904) : Ev (fun k => laws_wcInts.f k l l) true := by
  unfold laws_wcInts.f
  exact Ev.pos rfl (wc_ints_loop l hl l.length 0 (by omega))

theorem until_same {x b a n : Int} (hx : Bit x) (hb : Bit b) (ha : Bit a) (hn : Bit n) : x = Go.bits .or .i64 b (Go.bits .and .i64 a n) → Go.bits .or .i64 (wrap64 (1 - x)) b = 0 → n = x := by
  rcases hx with rfl | rfl <;> rcases hb with rfl | rfl <;> rcases ha with rfl | rfl <;> rcases hn with rfl | rfl <;> decide +kernel
theorem release_same {x b a n : Int} (hx : Bit x) (hb : Bit b) (ha : Bit a) (hn : Bit n) : x = Go.bits .and .i64 b (Go.bits .or .i64 a n) → Go.bits .or .i64 x (wrap64 (1 - b)) = 0 → n = x := by
  rcases hx with rfl | rfl <;> rcases hb with rfl | rfl <;> rcases ha with rfl | rfl <;> rcases hn with rfl | rfl <;> decide +kernel
/-- Whether the step is kept, as a number. -/
def keptV (l : List S37) (xs : List Int) (i : Nat) : Int :=
  if (rd_T37 l (i : Int)).f0 = 6 then Go.bits .or .i64 (wrap64 (1 - rd xs (i : Int))) (rd xs (rd_T37 l (i : Int)).f3) else Go.bits .or .i64 (rd xs (i : Int)) (wrap64 (1 - rd xs (rd_T37 l (i : Int)).f3))
def KeptFrom (l : List S37) (xs r : List Int) : Nat → Nat → Nat → Prop
  | 0, _, c => c = r.length
  | d + 1, i, c => if (rd_T37 l (i : Int)).f0 ≥ 6 then rd r (c : Int) = keptV l xs i ∧ KeptFrom l xs r d (i + 1) (c + 1) else KeptFrom l xs r d (i + 1) c
theorem KeptFrom.le {l : List S37} {xs r : List Int} : ∀ d i c, KeptFrom l xs r d i c → c ≤ r.length := by
  intro d
  induction d with
  | zero =>
    intro i c h
    have : c = r.length := h
    omega
  | succ d ih =>
    intro i c h
    unfold KeptFrom at h
    split at h
    · have := ih _ _ h.2
      omega
    · exact ih _ _ h
theorem keeps_loop (l : List S37) (facts : Int) (hT : TimesOk l facts) (xs : List Int) (hx : xs.length = l.length) :
    ∀ (d i : Nat) (acc : List Int), i + d = l.length → acc.length ≤ i → ∃ r, Ev (fun k => impl_keeps.l0 k xs acc l (l.length : Int) (i : Int)) r ∧ (∀ j : Nat, j < acc.length → rd r (j : Int) = rd acc (j : Int)) ∧ KeptFrom l xs r d i acc.length ∧ r.length ≤ l.length := by
  intro d
  have hl := hT.2.1
  induction d with
  | zero =>
    intro i acc hi ha
    have hc : impl_clone_int.f acc = some acc := by
      unfold impl_clone_int.f
      rw [if_pos (by omega)]
    exact ⟨acc, Ev.step (Ev.neg (by omega) (Ev.bind (Ev.const hc) (Ev.val _))) (fun k => impl_keeps.l0.eq_2 ..), fun j _ => rfl, rfl, by omega⟩
  | succ d ih =>
    intro i acc hi ha
    have hS := hT.2.2 i (by omega) (by omega)
    unfold StepAt at hS
    have hwi := wsucc i (by omega)
    have key : ∀ v, v = keptV l xs i → (rd_T37 l (i : Int)).f0 ≥ 6 → ∃ r, Ev (fun k => impl_keeps.l0 k xs (acc ++ [v]) l (l.length : Int) ((i + 1 : Nat) : Int)) r ∧ (∀ j : Nat, j < acc.length → rd r (j : Int) = rd acc (j : Int)) ∧ KeptFrom l xs r (d + 1) i acc.length ∧ r.length ≤ l.length := by
      intro v hv h6
      obtain ⟨r, h1, h2, h3, h4⟩ := ih (i + 1) (acc ++ [v]) (by omega) (by simp; omega)
      refine ⟨r, h1, fun j hj => ?_, ?_, h4⟩
      · rw [h2 j (by simp; omega), rd_app_lt hj]
      · unfold KeptFrom
        rw [if_pos h6]
        refine ⟨?_, by simpa using h3⟩
        rw [h2 acc.length (by simp), rd_app_eq, hv]
    have low : ¬ (rd_T37 l (i : Int)).f0 ≥ 6 → ∃ r, Ev (fun k => impl_keeps.l0 k xs acc l (l.length : Int) ((i + 1 : Nat) : Int)) r ∧ (∀ j : Nat, j < acc.length → rd r (j : Int) = rd acc (j : Int)) ∧ KeptFrom l xs r (d + 1) i acc.length ∧ r.length ≤ l.length := by
      intro h6
      obtain ⟨r, h1, h2, h3, h4⟩ := ih (i + 1) acc (by omega) (by omega)
      refine ⟨r, h1, h2, ?_, h4⟩
      unfold KeptFrom
      rw [if_neg h6]
      exact h3
    unfold keptV at key
    generalize ht : rd_T37 l (i : Int) = t at hS key low
    obtain ⟨f0, f1, f2, f3⟩ := t
    simp only at hS key low
    by_cases c6 : f0 = 6
    · subst c6
      have h3 : 0 ≤ f3 ∧ f3 < (i : Int) := by rcases hS with h | h | h <;> omega
      obtain ⟨r, h1, h2⟩ := key _ rfl (by omega)
      refine ⟨r, Ev.step ?_ (fun k => impl_keeps.l0.eq_2 ..), h2⟩
      rw [ht, hwi]
      exact Ev.pos (by omega) (Ev.pos (by omega) (Ev.pos (by omega) (Ev.pos rfl (Ev.pos (by omega) (Ev.pos h3.1 (Ev.pos (by show f3 < _; omega) (Ev.pos (by omega) h1)))))))
    · by_cases c7 : f0 = 7
      · subst c7
        have h3 : 0 ≤ f3 ∧ f3 < (i : Int) := by rcases hS with h | h | h <;> omega
        obtain ⟨r, h1, h2⟩ := key _ rfl (by omega)
        refine ⟨r, Ev.step ?_ (fun k => impl_keeps.l0.eq_2 ..), h2⟩
        rw [ht, hwi]
        exact Ev.pos (by omega) (Ev.pos (by omega) (Ev.pos (by omega) (Ev.neg (by simp) (Ev.pos rfl (Ev.pos (by omega) (Ev.pos h3.1 (Ev.pos (by show f3 < _; omega) (Ev.pos (by omega) h1))))))))
      · obtain ⟨r, h1, h2⟩ := low (by rcases hS with h | h | h <;> omega)
        refine ⟨r, Ev.step ?_ (fun k => impl_keeps.l0.eq_2 ..), h2⟩
        rw [ht, hwi]
        exact Ev.pos (by omega) (Ev.pos (by omega) (Ev.pos (by omega) (Ev.neg c6 (Ev.neg c7 h1))))
theorem next_law_loop (l : List S37) (facts : Int) (hT : TimesOk l facts) (xs ys r : List Int) (hx : xs.length = l.length) (hy : ys.length = l.length) (bx : Bits xs) (by_ : Bits ys) (hr : r.length ≤ l.length)
    (hN : ∀ j : Nat, 0 ≤ j → j < l.length → NextAt l xs ys j) :
    ∀ (d i c : Nat), i + d = l.length → KeptFrom l xs r d i c → Ev (fun k => laws_FnGuessNext.l0 k xs ys r (c : Int) l (l.length : Int) (i : Int)) true := by
  intro d
  have hl := hT.2.1
  induction d with
  | zero =>
    intro i c hi hK
    have : c = r.length := hK
    exact Ev.step (Ev.neg (by omega) (Ev.valEq (by simp [this]))) (fun k => laws_FnGuessNext.l0.eq_2 ..)
  | succ d ih =>
    intro i c hi hK
    have hS := hT.2.2 i (by omega) (by omega)
    have hNi := hN i (by omega) (by omega)
    unfold StepAt at hS
    unfold NextAt at hNi
    have hwi := wsucc i (by omega)
    unfold KeptFrom keptV at hK
    refine Ev.step ?_ (fun k => laws_FnGuessNext.l0.eq_2 ..)
    rw [hwi]
    generalize ht : rd_T37 l (i : Int) = t at hS hNi hK
    obtain ⟨f0, f1, f2, f3⟩ := t
    simp only at hS hNi hK
    refine Ev.pos (by omega) (Ev.pos (by omega) (Ev.pos (by omega) ?_))
    by_cases c6 : f0 ≥ 6
    · rw [if_pos c6] at hK
      obtain ⟨hk, hK⟩ := hK
      have hle := KeptFrom.le _ _ _ hK
      have hwc := wsucc c (by omega)
      have next := ih (i + 1) (c + 1) (by omega) hK
      have h3 : 0 ≤ f2 ∧ f2 < (i : Int) ∧ 0 ≤ f3 ∧ f3 < (i : Int) := by rcases hS with h | h | h <;> omega
      have vx : Bit (rd xs (i : Int)) := bx.at (by omega) (by omega)
      have vn : Bit (rd ys (i : Int)) := by_.at (by omega) (by omega)
      have va : Bit (rd xs f2) := bx.at h3.1 (by omega)
      have vb : Bit (rd xs f3) := bx.at h3.2.2.1 (by omega)
      rw [hwc]
      refine Ev.neg (by show ¬ f0 < 6; omega) (Ev.pos (Int.natCast_nonneg c) (Ev.pos (Int.ofNat_lt.2 hle) ?_))
      by_cases k0 : rd r (c : Int) = 0
      · refine Ev.pos k0 (Ev.pos (by omega) (Ev.pos (by omega) (Ev.pos ?_ next)))
        rw [hk] at k0
        by_cases e6 : f0 = 6
        · rw [if_pos e6] at k0
          exact until_same vx vb va vn (hNi.1 e6) k0
        · rw [if_neg e6] at k0
          exact release_same vx vb va vn (hNi.2 (by rcases hS with h | h | h <;> omega)) k0
      · exact Ev.neg k0 next
    · rw [if_neg c6] at hK
      exact Ev.pos (by show f0 < 6; omega) (ih (i + 1) c (by omega) hK)
theorem both_GuessedOf (l : List S37) (facts : Int) : ∃ r, Ev (fun k => impl_GuessedOf.f k l facts) r ∧ Ev (fun k => spec_GuessedOf.f k l facts) r ∧ r.length ≤ 24 := by
  unfold impl_GuessedOf.f spec_GuessedOf.f
  obtain ⟨b, hb, hb2⟩ := spec_asked l facts
  unfold AskedOk at hb2
  by_cases h : TimesOk l facts
  · by_cases h7 : facts + (manyL l : Int) ≤ 7
    · have := hb2.2 ⟨h, h7⟩
      subst this
      have h4 : (stepsL l l.length 0 []).length = manyL l := steps_len l
      have h5 : manyL l ≤ l.length := cntL_le l l.length 0
      have h6 := h.2.1.2
      refine ⟨stepsL l l.length 0 [], Ev.bind (impl_guessed_yes l facts h) (Ev.pos (by simp [h7]) (Ev.val _)), Ev.bind hb (Ev.pos rfl (Ev.bind (spec_steps l h.2.1.2) (Ev.val _))), by omega⟩
    · have : b = false := by
        cases b with
        | false => rfl
        | true => exact absurd (hb2.1 rfl).2 h7
      subst this
      exact ⟨[], Ev.bind (impl_guessed_yes l facts h) (Ev.neg (by simp [h7]) (Ev.val _)), Ev.bind hb (Ev.neg (by decide) (Ev.val _)), by simp⟩
  · have : b = false := by
      cases b with
      | false => rfl
      | true => exact absurd (hb2.1 rfl).1 h
    subst this
    exact ⟨[], Ev.bind (impl_guessed_no l facts h) (Ev.neg (by simp) (Ev.val _)), Ev.bind hb (Ev.neg (by decide) (Ev.val _)), by simp⟩
theorem impl_truths_at (l : List S37) (facts n : Int) (hn : 0 ≤ n ∧ n ≤ countL l facts - 1) (xs : List Int) (h : Ev (fun k => impl_truths.f k l facts n) xs) : Ev (fun k => impl_GuessTruths.f k l facts n) xs := by
  unfold impl_GuessTruths.f
  obtain ⟨hc0, hc1⟩ := countL_le l facts
  have hw : wrap64 (countL l facts - 1) = countL l facts - 1 := w_id (by omega) (by omega)
  exact Ev.bind (impl_count l facts) (Ev.bind (Ev.const (by rw [hw]; exact iin_yes hn)) (Ev.pos rfl (Ev.bind h (Ev.val _))))
theorem FnGuessNext : laws_FnGuessNext.Pure := by
  intro code _ _ hc
  apply Ev.get
  unfold laws_FnGuessNext.f
  by_cases hbig : (code.length : Int) > 1048576
  · exact Ev.pos hbig (Ev.val _)
  refine Ev.neg hbig ?_
  obtain ⟨⟨l, facts, n, m⟩, ha, _⟩ := ask_tot code hc
  have hd : Ev (fun k => spec_DrawGuessNext.f k code) (l, facts, n, m) := by
    unfold spec_DrawGuessNext.f
    exact Ev.bind ha (Ev.val _)
  refine Ev.bind hd ?_
  simp only
  obtain ⟨b, h1, h2, hN⟩ := both_GuessNext_all l facts n m
  obtain ⟨gs, g1, g2, g3⟩ := both_GuessedOf l facts
  refine Ev.bind h2 (Ev.bind h1 (Ev.neg (by simp) (Ev.bind g1 (Ev.bind g2 (Ev.bind (wc_ints gs (by omega)) (Ev.step ?_ (fun k => laws_FnGuessNext.j0.eq_2 ..)))))))
  refine Ev.neg (by decide) ?_
  by_cases hb : b = true
  · obtain ⟨hn, hm, hT, xs, ys, x2, y2, x3, y3, x4, y4, hNx⟩ := hN hb
    obtain ⟨r, r1, _, r3, r4⟩ := keeps_loop l facts hT xs x3 l.length 0 [] (by omega) (by simp)
    have hk : Ev (fun k => impl_GuessKept.f k l facts n) r := by
      unfold impl_GuessKept.f
      obtain ⟨hc0, hc1⟩ := countL_le l facts
      have hw : wrap64 (countL l facts - 1) = countL l facts - 1 := w_id (by omega) (by omega)
      exact Ev.bind (impl_count l facts) (Ev.bind (Ev.const (by rw [hw]; exact iin_yes hn)) (Ev.pos rfl (Ev.bind x2 (Ev.bind (a := r) r1 (Ev.val _)))))
    exact Ev.pos hb (Ev.bind (impl_truths_at l facts n hn xs x2) (Ev.bind (impl_truths_at l facts m hm ys y2) (Ev.bind hk (next_law_loop l facts hT xs ys r x3 y3 x4 y4 r4 hNx l.length 0 0 (by omega) r3))))
  · exact Ev.neg hb (Ev.val _)

end Go.Proofs.Ytdigdhckbhlkmaa.Pure
