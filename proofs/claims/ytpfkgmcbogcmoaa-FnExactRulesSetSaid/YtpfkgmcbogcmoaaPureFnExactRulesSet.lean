/- FnExactRulesSet: impl.RulesSet and spec.RulesSet return the same for all arguments, and the arguments read as before; for every input. -/
import Derived.Test.YtpfkgmcbogcmoaaQFnExactRulesSetx13
namespace Go.Proofs.Ytpfkgmcbogcmoaa.Pure
open Go.RowKit Go.Proofs.Ytpfkgmcbogcmoaa.QFnExactRulesSet Go.Proofs.YtpfkgmcbogcmoaaW.PrintWords Go.Proofs.YtpfkgmcbogcmoaaW.PrintLast Go.Proofs.YtpfkgmcbogcmoaaW.PrintMore
set_option linter.unusedVariables false
set_option linter.unusedSimpArgs false

/-! #### rounds -/
/-- From some number of rounds on, g tells r. -/
def Ev {α : Type} (g : Nat → Option α) (r : α) : Prop := ∃ K, ∀ k, K ≤ k → g k = some r
theorem Ev.val {α : Type} (r : α) : Ev (fun _ => some r) r := ⟨0, fun _ _ => rfl⟩
theorem Ev.valEq {α : Type} {r r' : α} (h : r = r') : Ev (fun _ => some r) r' := ⟨0, fun _ _ => by rw [h]⟩
theorem Ev.const {α : Type} {g : Option α} {r : α} (h : g = some r) : Ev (fun _ => g) r := ⟨0, fun _ _ => h⟩
theorem Ev.bind {α β : Type} {g : Nat → Option α} {f : Nat → α → Option β} {a : α} {b : β} (h : Ev g a) (h2 : Ev (fun k => f k a) b) : Ev (fun k => (g k).bind (f k)) b := by
  obtain ⟨K, hK⟩ := h
  obtain ⟨L, hL⟩ := h2
  exact ⟨max K L, fun k hk => by show (g k).bind (f k) = _; rw [hK k (by omega)]; exact hL k (by omega)⟩
theorem Ev.step {α : Type} {g g' : Nat → Option α} {r : α} (h : Ev g' r) (e : ∀ k, g (k + 1) = g' k) : Ev g r := by
  obtain ⟨K, hK⟩ := h
  exact ⟨K + 1, fun k hk => by
    obtain ⟨m, rfl⟩ : ∃ m, k = m + 1 := ⟨k - 1, by omega⟩
    rw [e]
    exact hK m (by omega)⟩
theorem Ev.pos {α : Type} {c : Prop} [Decidable c] {g g' : Nat → Option α} {r : α} (hc : c) (h : Ev g r) : Ev (fun k => if c then g k else g' k) r := by
  obtain ⟨K, hK⟩ := h
  exact ⟨K, fun k hk => by simp only [if_pos hc]; exact hK k hk⟩
theorem Ev.neg {α : Type} {c : Prop} [Decidable c] {g g' : Nat → Option α} {r : α} (hc : ¬ c) (h : Ev g' r) : Ev (fun k => if c then g k else g' k) r := by
  obtain ⟨K, hK⟩ := h
  exact ⟨K, fun k hk => by simp only [if_neg hc]; exact hK k hk⟩
theorem Ev.get {α : Type} {g : Nat → Option α} {r : α} (h : Ev g r) : ∃ k, g k = some r := by
  obtain ⟨K, hK⟩ := h
  exact ⟨K, hK K (Nat.le_refl _)⟩
theorem Ev.to {α : Type} {g : Nat → Option α} {r r' : α} (h : Ev g r) (e : r = r') : Ev g r' := e ▸ h
/-! #### numbers -/
theorem w_id {x : Int} (h0 : -9223372036854775808 ≤ x) (h1 : x ≤ 9223372036854775807) : wrap64 x = x := by
  unfold wrap64
  omega
/-! #### lists -/
theorem rd_nat (l : List Int) (i : Nat) : rd l (i : Int) = l.getD i 0 := by
  unfold rd
  rw [Int.toNat_natCast]
theorem getD_lt {α : Type} {l : List α} {i : Nat} (h : i < l.length) (d : α) : l.getD i d = l[i] := by
  rw [List.getD_eq_getElem?_getD, List.getElem?_eq_getElem h]
  rfl
theorem rd_lt {l : List Int} {i : Nat} (h : i < l.length) : rd l (i : Int) = l[i] := by rw [rd_nat, getD_lt h]
theorem rd_set_eq {l : List Int} {i : Nat} {v : Int} (h : i < l.length) : rd (l.set i v) (i : Int) = v := by
  rw [rd_lt (by simpa using h)]
  simp
theorem rd_set_ne {l : List Int} {i j : Nat} {v : Int} (h : i ≠ j) : rd (l.set i v) (j : Int) = rd l (j : Int) := by
  rw [rd_nat, rd_nat, List.getD_eq_getElem?_getD, List.getD_eq_getElem?_getD, List.getElem?_set_ne h]
theorem rd_app_lt {l m : List Int} {j : Nat} (h : j < l.length) : rd (l ++ m) (j : Int) = rd l (j : Int) := by
  rw [rd_nat, rd_nat, List.getD_eq_getElem?_getD, List.getD_eq_getElem?_getD, List.getElem?_append_left h]
theorem rd_app_eq {l : List Int} {v : Int} : rd (l ++ [v]) (l.length : Int) = v := by
  rw [rd_nat, List.getD_eq_getElem?_getD, List.getElem?_append_right (Nat.le_refl _)]
  simp
theorem list_eq_rd {l m : List Int} (hl : l.length = m.length) (h : ∀ j : Nat, j < l.length → rd l (j : Int) = rd m (j : Int)) : l = m := by
  apply List.ext_getElem hl
  intro i h1 h2
  rw [← rd_lt h1, ← rd_lt h2]
  exact h i h1
theorem wsucc (i : Nat) (h : i ≤ 4611686018427387904) : wrap64 ((i : Int) + 1) = ((i + 1 : Nat) : Int) := by
  unfold wrap64
  omega
/-- g tells in the end whether p is so. -/
def Dec (g : Nat → Option Bool) (p : Prop) : Prop := ∃ b, Ev g b ∧ (b = true ↔ p)
theorem Dec.yes {g : Nat → Option Bool} {p : Prop} (h : Ev g true) (hp : p) : Dec g p := ⟨true, h, by simp [hp]⟩
theorem Dec.no {g : Nat → Option Bool} {p : Prop} (h : Ev g false) (hp : ¬ p) : Dec g p := ⟨false, h, by simp [hp]⟩
theorem Dec.same {g g' : Nat → Option Bool} {p : Prop} (h : Dec g p) (h' : Dec g' p) : ∃ b, Ev g b ∧ Ev g' b ∧ (b = true ↔ p) := by
  obtain ⟨b, h1, h2⟩ := h
  obtain ⟨b', h3, h4⟩ := h'
  have : b = b' := by
    rw [Bool.eq_iff_iff, h2, h4]
  subst this
  exact ⟨b, h1, h3, h2⟩
theorem all_from {P : Nat → Prop} {i n : Nat} (hi : i < n) : (∀ j, i ≤ j → j < n → P j) ↔ P i ∧ ∀ j, i + 1 ≤ j → j < n → P j := by
  constructor
  · intro h
    exact ⟨h i (Nat.le_refl _) hi, fun j h1 h2 => h j (by omega) h2⟩
  · rintro ⟨h1, h2⟩ j h3 h4
    rcases Nat.lt_or_eq_of_le h3 with h | rfl
    · exact h2 j h h4
    · exact h1
/-! #### it tells something, of which P holds -/
def Tot {α : Type} (g : Nat → Option α) (P : α → Prop) : Prop := ∃ r, Ev g r ∧ P r
theorem Tot.of {α : Type} {g : Nat → Option α} {P : α → Prop} {r : α} (h : Ev g r) (hp : P r) : Tot g P := ⟨r, h, hp⟩
theorem Tot.val {α : Type} {P : α → Prop} {r : α} (h : P r) : Tot (fun _ => some r) P := ⟨r, Ev.val r, h⟩
theorem Tot.mono {α : Type} {g : Nat → Option α} {P Q : α → Prop} (h : Tot g P) (hq : ∀ r, P r → Q r) : Tot g Q := by
  obtain ⟨r, h1, h2⟩ := h
  exact ⟨r, h1, hq r h2⟩
theorem Tot.step {α : Type} {g g' : Nat → Option α} {P : α → Prop} (h : Tot g' P) (e : ∀ k, g (k + 1) = g' k) : Tot g P := by
  obtain ⟨r, h1, h2⟩ := h
  exact ⟨r, Ev.step h1 e, h2⟩
theorem Tot.bind {α β : Type} {g : Nat → Option α} {f : Nat → α → Option β} {Q : α → Prop} {P : β → Prop} (h : Tot g Q) (h2 : ∀ a, Q a → Tot (fun k => f k a) P) : Tot (fun k => (g k).bind (f k)) P := by
  obtain ⟨a, ha, hq⟩ := h
  obtain ⟨r, h1, h3⟩ := h2 a hq
  exact ⟨r, Ev.bind ha h1, h3⟩
theorem Tot.pos {α : Type} {c : Prop} [Decidable c] {g g' : Nat → Option α} {P : α → Prop} (hc : c) (h : Tot g P) : Tot (fun k => if c then g k else g' k) P := by
  obtain ⟨r, h1, h2⟩ := h
  exact ⟨r, Ev.pos hc h1, h2⟩
theorem Tot.neg {α : Type} {c : Prop} [Decidable c] {g g' : Nat → Option α} {P : α → Prop} (hc : ¬ c) (h : Tot g' P) : Tot (fun k => if c then g k else g' k) P := by
  obtain ⟨r, h1, h2⟩ := h
  exact ⟨r, Ev.neg hc h1, h2⟩
theorem Tot.ite {α : Type} {c : Prop} [Decidable c] {g g' : Nat → Option α} {P : α → Prop} (h1 : c → Tot g P) (h2 : ¬ c → Tot g' P) : Tot (fun k => if c then g k else g' k) P := by
  by_cases hc : c
  · exact Tot.pos hc (h1 hc)
  · exact Tot.neg hc (h2 hc)
/-! #### terms: their kinds -/
/-- An operation that fits the terms ahead of it. -/
def OpOk (f0 f1 f2 f3 : Int) (ks : List Int) : Prop := (2 ≤ f0 ∧ f0 ≤ 9) ∧ f1 = 0 ∧ (0 ≤ f2 ∧ f2 < (ks.length : Int)) ∧ (0 ≤ f3 ∧ f3 < (ks.length : Int)) ∧ rd ks f2 = (if f0 ≥ 7 then 2 else 1) ∧ rd ks f3 = (if f0 ≥ 7 then 2 else 1) ∧ (f0 = 7 → f3 = f2)
instance (f0 f1 f2 f3 : Int) (ks : List Int) : Decidable (OpOk f0 f1 f2 f3 ks) := by unfold OpOk; infer_instance
/-- What kind a term is of among those ahead of it; 0: none. -/
def kindAt (t : S73) (ks : List Int) (vars : Int) : Int :=
  if t.f0 = 0 then (if (-9999 ≤ t.f1 ∧ t.f1 ≤ 9999) ∧ t.f2 = 0 ∧ t.f3 = 0 then 1 else 0)
  else if t.f0 = 1 then (if (0 ≤ t.f1 ∧ t.f1 < vars) ∧ t.f2 = 0 ∧ t.f3 = 0 then 1 else 0)
  else if OpOk t.f0 t.f1 t.f2 t.f3 ks then (if t.f0 ≥ 5 then 2 else 1) else 0
/-- The kinds of terms from place i on; nothing if one has none. -/
def kindsRun (l : List S73) (vars : Int) : Nat → Nat → List Int → List Int
  | 0, _, ks => ks
  | d + 1, i, ks => if kindAt (rd_T73 l (i : Int)) ks vars = 0 then [] else kindsRun l vars d (i + 1) (ks ++ [kindAt (rd_T73 l (i : Int)) ks vars])
def kindsL (l : List S73) (vars : Int) : List Int := if (0 ≤ vars ∧ vars ≤ 5) ∧ (1 ≤ l.length ∧ l.length ≤ 40) then kindsRun l vars l.length 0 [] else []
/-- These are the kinds of terms. -/
def Typed (l : List S73) (vars : Int) (ks : List Int) : Prop := ks.length = l.length ∧ ∀ j : Nat, j < l.length → kindAt (rd_T73 l (j : Int)) (ks.take j) vars = rd ks (j : Int) ∧ rd ks (j : Int) ≠ 0
theorem in_dec (x a b : Int) : spec_l1In.f x a b = some (decide (a ≤ x ∧ x ≤ b)) := by
  unfold spec_l1In.f
  by_cases h : x ≥ a
  · rw [if_pos h]
    congr 1
    simp only [decide_eq_decide]
    omega
  · rw [if_neg h]
    congr 1
    symm
    rw [decide_eq_false_iff_not]
    omega
theorem in_no {x a b : Int} (h : ¬ (a ≤ x ∧ x ≤ b)) : spec_l1In.f x a b = some false := by rw [in_dec, decide_eq_false h]
theorem spec_kind (t : S73) (ks : List Int) (vars : Int) (hk : ks.length ≤ 100000) (hv : -100 ≤ vars ∧ vars ≤ 100) : Ev (fun k => spec_l1Kind.f k t.f0 t.f1 t.f2 t.f3 ks vars) (kindAt t ks vars) := by
  obtain ⟨f0, f1, f2, f3⟩ := t
  have w1 : wrap64 (vars - 1) = vars - 1 := w_id (by omega) (by omega)
  have w2 : wrap64 ((ks.length : Int) - 1) = (ks.length : Int) - 1 := w_id (by omega) (by omega)
  have j4 : ∀ b : Bool, Ev (fun k => spec_l1Kind.j4 k b f0 f1 f2 f3) (if b = true then 0 else if f0 ≥ 5 then 2 else 1) := by
    intro b
    refine Ev.step ?_ (fun k => spec_l1Kind.j4.eq_2 ..)
    by_cases hb : b = true
    · exact (Ev.pos hb (Ev.val _)).to (by rw [if_pos hb])
    · by_cases h5 : f0 ≥ 5
      · exact (Ev.neg hb (Ev.pos h5 (Ev.val _))).to (by rw [if_neg hb, if_pos h5])
      · exact (Ev.neg hb (Ev.neg h5 (Ev.val _))).to (by rw [if_neg hb, if_neg h5])
  have j3 : ∀ want : Int, 0 ≤ f2 ∧ f2 < ks.length → 0 ≤ f3 ∧ f3 < ks.length → Ev (fun k => spec_l1Kind.j3 k ks want f0 f1 f2 f3) (if rd ks f2 = want ∧ rd ks f3 = want ∧ (f0 = 7 → f3 = f2) then (if f0 ≥ 5 then 2 else 1) else 0) := by
    intro want h2 h3
    refine Ev.step ?_ (fun k => spec_l1Kind.j3.eq_2 ..)
    refine Ev.pos h2.1 (Ev.pos h2.2 ?_)
    by_cases c1 : rd ks f2 = want
    · refine Ev.pos c1 (Ev.pos h3.1 (Ev.pos h3.2 ?_))
      by_cases c2 : rd ks f3 = want
      · refine Ev.pos c2 (Ev.bind (a := f0 == 7) (Ev.const (by unfold spec_l1One.f; rfl)) ?_)
        by_cases c3 : f0 = 7
        · refine Ev.pos (by simpa using c3) ((j4 (f3 != f2)).to ?_)
          by_cases c4 : f3 = f2
          · rw [if_neg (by simp [c4]), if_pos (c := rd ks f2 = want ∧ rd ks f3 = want ∧ (f0 = 7 → f3 = f2)) ⟨c1, c2, fun _ => c4⟩]
          · rw [if_pos (by simp [c4]), if_neg (by rintro ⟨_, _, h⟩; exact c4 (h c3))]
        · refine Ev.neg (by simpa using c3) ((j4 false).to ?_)
          rw [if_neg (by decide), if_pos (c := rd ks f2 = want ∧ rd ks f3 = want ∧ (f0 = 7 → f3 = f2)) ⟨c1, c2, fun h => absurd h c3⟩]
      · refine Ev.neg c2 ((j4 true).to ?_)
        rw [if_pos rfl, if_neg (by rintro ⟨_, h, _⟩; exact c2 h)]
    · refine Ev.neg c1 ((j4 true).to ?_)
      rw [if_pos rfl, if_neg (by rintro ⟨h, _⟩; exact c1 h)]
  have j2 : ∀ b : Bool, (b = false → (0 ≤ f2 ∧ f2 < ks.length) ∧ (0 ≤ f3 ∧ f3 < ks.length)) → Ev (fun k => spec_l1Kind.j2 k ks b f0 f1 f2 f3) (if b = true then 0 else if rd ks f2 = (if f0 ≥ 7 then 2 else 1) ∧ rd ks f3 = (if f0 ≥ 7 then 2 else 1) ∧ (f0 = 7 → f3 = f2) then (if f0 ≥ 5 then 2 else 1) else 0) := by
    intro b hb
    refine Ev.step ?_ (fun k => spec_l1Kind.j2.eq_2 ..)
    cases b with
    | true => exact Ev.pos rfl (Ev.val _)
    | false =>
      obtain ⟨h2, h3⟩ := hb rfl
      refine Ev.neg (by decide) ?_
      rw [if_neg (by decide)]
      by_cases h7 : f0 ≥ 7
      · rw [if_pos h7]
        exact Ev.pos h7 (j3 2 h2 h3)
      · rw [if_neg h7]
        exact Ev.neg h7 (j3 1 h2 h3)
  have j1 : f0 ≠ 0 → f0 ≠ 1 → Ev (fun k => spec_l1Kind.j1 k ks false f0 f1 f2 f3) (kindAt ⟨f0, f1, f2, f3⟩ ks vars) := by
    intro n0 n1
    refine Ev.step ?_ (fun k => spec_l1Kind.j1.eq_2 ..)
    rw [w2]
    unfold kindAt
    dsimp only
    rw [if_neg n0, if_neg n1]
    refine Ev.neg (by decide) (Ev.bind (Ev.const (in_dec _ _ _)) ?_)
    by_cases a1 : 2 ≤ f0 ∧ f0 ≤ 9
    · refine Ev.pos (by simpa using a1) ?_
      by_cases a2 : f1 = 0
      · refine Ev.pos a2 (Ev.bind (Ev.const (in_dec _ _ _)) ?_)
        by_cases a3 : 0 ≤ f2 ∧ f2 ≤ (ks.length : Int) - 1
        · refine Ev.pos (by simpa using a3) (Ev.bind (Ev.const (in_dec _ _ _)) ?_)
          by_cases a4 : 0 ≤ f3 ∧ f3 ≤ (ks.length : Int) - 1
          · rw [decide_eq_true a4]
            refine (j2 (!true) (fun _ => ⟨by omega, by omega⟩)).to ?_
            rw [if_neg (by decide)]
            by_cases a5 : rd ks f2 = (if f0 ≥ 7 then 2 else 1) ∧ rd ks f3 = (if f0 ≥ 7 then 2 else 1) ∧ (f0 = 7 → f3 = f2)
            · rw [if_pos a5, if_pos (c := OpOk f0 f1 f2 f3 ks) ⟨a1, a2, by omega, by omega, a5⟩]
            · rw [if_neg a5, if_neg (c := OpOk f0 f1 f2 f3 ks) (fun h => a5 h.2.2.2.2)]
          · rw [decide_eq_false a4]
            refine (j2 (!false) (fun h => by cases h)).to ?_
            rw [if_pos (by decide), if_neg (c := OpOk f0 f1 f2 f3 ks) (fun h => a4 (by have := h.2.2.2.1; omega))]
        · refine Ev.neg (by simpa using a3) ((j2 true (fun h => by cases h)).to ?_)
          rw [if_pos (by decide), if_neg (c := OpOk f0 f1 f2 f3 ks) (fun h => a3 (by have := h.2.2.1; omega))]
      · refine Ev.neg a2 ((j2 true (fun h => by cases h)).to ?_)
        rw [if_pos (by decide), if_neg (c := OpOk f0 f1 f2 f3 ks) (fun h => a2 h.2.1)]
    · refine Ev.neg (by simpa using a1) ((j2 true (fun h => by cases h)).to ?_)
      rw [if_pos (by decide), if_neg (c := OpOk f0 f1 f2 f3 ks) (fun h => a1 h.1)]
  have j1t : Ev (fun k => spec_l1Kind.j1 k ks true f0 f1 f2 f3) 1 := Ev.step (Ev.pos rfl (Ev.val _)) (fun k => spec_l1Kind.j1.eq_2 ..)
  have j1z : f0 = 0 ∨ f0 = 1 → Ev (fun k => spec_l1Kind.j1 k ks false f0 f1 f2 f3) 0 := by
    intro h
    refine Ev.step ?_ (fun k => spec_l1Kind.j1.eq_2 ..)
    refine Ev.neg (by decide) (Ev.bind (Ev.const (in_no (by omega))) (Ev.neg (by decide) ((j2 true (fun h => by cases h)).to (by rw [if_pos rfl]))))
  have j0t : Ev (fun k => spec_l1Kind.j0 k ks vars true f0 f1 f2 f3) 1 := Ev.step (Ev.pos rfl (Ev.val _)) (fun k => spec_l1Kind.j0.eq_2 ..)
  have j0f : f0 ≠ 0 → Ev (fun k => spec_l1Kind.j0 k ks vars false f0 f1 f2 f3) (kindAt ⟨f0, f1, f2, f3⟩ ks vars) := by
    intro n0
    refine Ev.step ?_ (fun k => spec_l1Kind.j0.eq_2 ..)
    rw [w1]
    by_cases c1 : f0 = 1
    · refine Ev.neg (by decide) (Ev.pos c1 (Ev.bind (Ev.const (in_dec _ _ _)) ?_))
      unfold kindAt
      dsimp only
      rw [if_neg n0, if_pos c1]
      by_cases c2 : 0 ≤ f1 ∧ f1 ≤ vars - 1
      · refine Ev.pos (by simpa using c2) ?_
        by_cases c3 : f2 = 0
        · refine Ev.pos c3 ?_
          by_cases c4 : f3 = 0
          · rw [if_pos (c := (0 ≤ f1 ∧ f1 < vars) ∧ f2 = 0 ∧ f3 = 0) ⟨by omega, c3, c4⟩, show (f3 == 0) = true by simp [c4]]
            exact j1t
          · rw [if_neg (fun h => c4 h.2.2), show (f3 == 0) = false by simp [c4]]
            exact j1z (.inr c1)
        · rw [if_neg (fun h => c3 h.2.1)]
          exact Ev.neg c3 (j1z (.inr c1))
      · rw [if_neg (c := (0 ≤ f1 ∧ f1 < vars) ∧ f2 = 0 ∧ f3 = 0) (fun h => c2 (by have := h.1; omega))]
        exact Ev.neg (by simpa using c2) (j1z (.inr c1))
    · exact Ev.neg (by decide) (Ev.neg c1 (j1 n0 c1))
  have j0z : f0 = 0 → Ev (fun k => spec_l1Kind.j0 k ks vars false f0 f1 f2 f3) 0 := by
    intro h
    refine Ev.step ?_ (fun k => spec_l1Kind.j0.eq_2 ..)
    exact Ev.neg (by decide) (Ev.neg (by omega) (j1z (.inl h)))
  unfold spec_l1Kind.f
  by_cases c0 : f0 = 0
  · refine Ev.pos c0 (Ev.bind (Ev.const (in_dec _ _ _)) ?_)
    unfold kindAt
    dsimp only
    rw [if_pos c0]
    by_cases c2 : -9999 ≤ f1 ∧ f1 ≤ 9999
    · refine Ev.pos (by simpa using c2) ?_
      by_cases c3 : f2 = 0
      · refine Ev.pos c3 ?_
        by_cases c4 : f3 = 0
        · rw [if_pos ⟨c2, c3, c4⟩, show (f3 == 0) = true by simp [c4]]
          exact j0t
        · rw [if_neg (fun h => c4 h.2.2), show (f3 == 0) = false by simp [c4]]
          exact j0z c0
      · rw [if_neg (fun h => c3 h.2.1)]
        exact Ev.neg c3 (j0z c0)
    · rw [if_neg (fun h => c2 h.1)]
      exact Ev.neg (by simpa using c2) (j0z c0)
  · exact Ev.neg c0 (j0f c0)
theorem spec_kinds_loop (l : List S73) (vars : Int) (hl : l.length ≤ 40) (hv : 0 ≤ vars ∧ vars ≤ 5) : ∀ (d i : Nat) (ks : List Int), i + d = l.length → ks.length = i → Ev (fun k => spec_KindsOf.l0 k l vars ks (i : Int)) (kindsRun l vars d i ks) := by
  intro d
  induction d with
  | zero =>
    intro i ks hi hk
    exact Ev.step (Ev.neg (by omega) (Ev.val _)) (fun k => spec_KindsOf.l0.eq_2 ..)
  | succ d ih =>
    intro i ks hi hk
    have hwi := wsucc i (by omega)
    refine Ev.step (Ev.pos (by omega) (Ev.pos (by omega) (Ev.bind (spec_kind (rd_T73 l (i : Int)) ks vars (by omega) (by omega)) ?_))) (fun k => spec_KindsOf.l0.eq_2 ..)
    unfold kindsRun
    by_cases h0 : kindAt (rd_T73 l (i : Int)) ks vars = 0
    · rw [if_pos h0]
      exact Ev.pos h0 (Ev.val _)
    · rw [if_neg h0]
      rw [hwi]
      exact Ev.neg h0 (Ev.pos (by omega) (ih (i + 1) _ (by omega) (by simp; omega)))
theorem spec_kinds (l : List S73) (vars : Int) : Ev (fun k => spec_KindsOf.f k l vars) (kindsL l vars) := by
  unfold spec_KindsOf.f kindsL
  refine Ev.bind (Ev.const (in_dec _ _ _)) ?_
  by_cases hv : 0 ≤ vars ∧ vars ≤ 5
  · refine Ev.pos (by simpa using hv) (Ev.bind (Ev.const (in_dec _ _ _)) ?_)
    by_cases hl : 1 ≤ (l.length : Int) ∧ (l.length : Int) ≤ 40
    · rw [if_pos ⟨hv, by omega⟩, decide_eq_true hl]
      refine Ev.step (Ev.neg (by decide) ?_) (fun k => spec_KindsOf.j0.eq_2 ..)
      exact spec_kinds_loop l vars (by omega) hv l.length 0 [] (by omega) rfl
    · rw [if_neg (fun h => hl (by omega)), decide_eq_false hl]
      exact Ev.step (Ev.pos (by decide) (Ev.val _)) (fun k => spec_KindsOf.j0.eq_2 ..)
  · rw [if_neg (fun h => hv h.1)]
    exact Ev.neg (by simpa using hv) (Ev.step (Ev.pos rfl (Ev.val _)) (fun k => spec_KindsOf.j0.eq_2 ..))
theorem impl_parts_ev (op : Int) : Ev (fun k => impl_parts.f k op) (if 2 ≤ op ∧ op ≤ 6 ∨ op = 8 ∨ op = 9 then 2 else if op = 7 then 1 else 0, if 2 ≤ op ∧ op ≤ 6 then 1 else if 7 ≤ op ∧ op ≤ 9 then 2 else 0, if 5 ≤ op ∧ op ≤ 9 then 2 else 1) := by
  have j1f : ∀ (_ : ¬ (2 ≤ op ∧ op ≤ 6)), Ev (fun k => impl_parts.j1 k op false) (if op = 8 ∨ op = 9 then 2 else if op = 7 then 1 else 0, if 7 ≤ op ∧ op ≤ 9 then 2 else 0, if 7 ≤ op ∧ op ≤ 9 then 2 else 1) := by
    intro h
    refine Ev.step (Ev.neg (by decide) ?_) (fun k => impl_parts.j1.eq_2 ..)
    by_cases h7 : op = 7
    · subst h7
      exact Ev.pos rfl (Ev.val _)
    · refine Ev.neg h7 ?_
      by_cases h8 : op = 8
      · subst h8
        exact Ev.pos rfl (Ev.val _)
      · refine Ev.neg h8 ?_
        by_cases h9 : op = 9
        · subst h9
          exact Ev.pos rfl (Ev.val _)
        · refine Ev.neg h9 (Ev.valEq ?_)
          rw [if_neg (by omega), if_neg (by omega), if_neg (by omega), if_neg (by omega)]
  have j1t : Ev (fun k => impl_parts.j1 k op true) (2, 1, 2) := Ev.step (Ev.pos rfl (Ev.val _)) (fun k => impl_parts.j1.eq_2 ..)
  have j0t : Ev (fun k => impl_parts.j0 k op true) (2, 1, 1) := Ev.step (Ev.pos rfl (Ev.val _)) (fun k => impl_parts.j0.eq_2 ..)
  unfold impl_parts.f
  by_cases h2 : op = 2
  · subst h2
    exact Ev.pos rfl j0t
  refine Ev.neg h2 ?_
  by_cases h3 : op = 3
  · subst h3
    exact Ev.pos rfl j0t
  refine Ev.neg h3 ?_
  by_cases h4 : op = 4
  · subst h4
    exact j0t
  rw [show (op == 4) = false by simp [h4]]
  refine Ev.step (Ev.neg (by decide) ?_) (fun k => impl_parts.j0.eq_2 ..)
  by_cases h5 : op = 5
  · subst h5
    exact Ev.pos rfl j1t
  refine Ev.neg h5 ?_
  by_cases h6 : op = 6
  · subst h6
    exact j1t
  rw [show (op == 6) = false by simp [h6]]
  refine (j1f (by omega)).to ?_
  rw [if_neg (c := 2 ≤ op ∧ op ≤ 6) (by omega)]
  have e1 : (2 ≤ op ∧ op ≤ 6 ∨ op = 8 ∨ op = 9) ↔ (op = 8 ∨ op = 9) := by omega
  have e2 : (5 ≤ op ∧ op ≤ 9) ↔ (7 ≤ op ∧ op ≤ 9) := by omega
  simp only [e1, e2]
theorem impl_kinds_loop (l : List S73) (vars : Int) (hl : l.length ≤ 40) (hv : 0 ≤ vars ∧ vars ≤ 5) : ∀ (d i : Nat) (ks : List Int), i + d = l.length → ks.length = i → Ev (fun k => impl_kindsOf.l0 k vars ks l (l.length : Int) (i : Int)) (kindsRun l vars d i ks) := by
  intro d
  have w1 : wrap64 (vars - 1) = vars - 1 := w_id (by omega) (by omega)
  induction d with
  | zero =>
    intro i ks hi hk
    exact Ev.step (Ev.neg (by omega) (Ev.val _)) (fun k => impl_kindsOf.l0.eq_2 ..)
  | succ d ih =>
    intro i ks hi hk
    have hwi := wsucc i (by omega)
    have w2 : wrap64 ((i : Int) - 1) = (i : Int) - 1 := w_id (by omega) (by omega)
    refine Ev.step (Ev.pos (by omega) (Ev.pos (by omega) (Ev.pos (by omega) (Ev.bind (impl_parts_ev _) (Ev.bind (Ev.const (in_dec _ _ _)) ?_))))) (fun k => impl_kindsOf.l0.eq_2 ..)
    rw [hwi, w1, w2]
    unfold kindsRun
    have ih' := fun c => ih (i + 1) (ks ++ [c]) (by omega) (by simp; omega)
    generalize rd_T73 l (i : Int) = t
    obtain ⟨f0, f1, f2, f3⟩ := t
    unfold kindAt
    simp only
    have hok : ks.length < 17592186044416 := by omega
    by_cases c0 : f0 = 0
    · subst c0
      simp only [if_true]
      refine Ev.bind (Ev.const (in_dec _ _ _)) ?_
      by_cases c2 : -9999 ≤ f1 ∧ f1 ≤ 9999
      · refine Ev.pos (by simpa using c2) ?_
        by_cases c3 : f2 = 0
        · refine Ev.pos c3 ?_
          by_cases c4 : f3 = 0
          · rw [if_pos (c := (-9999 ≤ f1 ∧ f1 ≤ 9999) ∧ f2 = 0 ∧ f3 = 0) ⟨c2, c3, c4⟩]
            exact Ev.pos c4 (Ev.pos hok (ih' 1))
          · rw [if_neg (c := (-9999 ≤ f1 ∧ f1 ≤ 9999) ∧ f2 = 0 ∧ f3 = 0) (fun h => c4 h.2.2)]
            exact Ev.neg c4 (Ev.val _)
        · rw [if_neg (c := (-9999 ≤ f1 ∧ f1 ≤ 9999) ∧ f2 = 0 ∧ f3 = 0) (fun h => c3 h.2.1)]
          exact Ev.neg c3 (Ev.val _)
      · rw [if_neg (c := (-9999 ≤ f1 ∧ f1 ≤ 9999) ∧ f2 = 0 ∧ f3 = 0) (fun h => c2 h.1)]
        exact Ev.neg (by simpa using c2) (Ev.val _)
    refine Ev.neg c0 ?_
    rw [if_neg (c := f0 = 0) c0]
    by_cases c1 : f0 = 1
    · subst c1
      simp only [if_true]
      refine Ev.bind (Ev.const (in_dec _ _ _)) ?_
      by_cases c2 : 0 ≤ f1 ∧ f1 ≤ vars - 1
      · refine Ev.pos (by simpa using c2) ?_
        by_cases c3 : f2 = 0
        · refine Ev.pos c3 ?_
          by_cases c4 : f3 = 0
          · rw [if_pos (c := (0 ≤ f1 ∧ f1 < vars) ∧ f2 = 0 ∧ f3 = 0) ⟨by omega, c3, c4⟩]
            exact Ev.pos c4 (Ev.pos hok (ih' 1))
          · rw [if_neg (c := (0 ≤ f1 ∧ f1 < vars) ∧ f2 = 0 ∧ f3 = 0) (fun h => c4 h.2.2)]
            exact Ev.neg c4 (Ev.val _)
        · rw [if_neg (c := (0 ≤ f1 ∧ f1 < vars) ∧ f2 = 0 ∧ f3 = 0) (fun h => c3 h.2.1)]
          exact Ev.neg c3 (Ev.val _)
      · rw [if_neg (c := (0 ≤ f1 ∧ f1 < vars) ∧ f2 = 0 ∧ f3 = 0) (fun h => c2 (by omega))]
        exact Ev.neg (by simpa using c2) (Ev.val _)
    refine Ev.neg c1 ?_
    rw [if_neg (c := f0 = 1) c1]
    by_cases a1 : 2 ≤ f0 ∧ f0 ≤ 9
    · refine Ev.pos (by simp; omega) ?_
      have ew : (if 2 ≤ f0 ∧ f0 ≤ 6 then (1 : Int) else if 7 ≤ f0 ∧ f0 ≤ 9 then 2 else 0) = (if f0 ≥ 7 then 2 else 1) := by
        by_cases h7 : f0 ≥ 7
        · rw [if_neg (by omega), if_pos (by omega), if_pos h7]
        · rw [if_pos (by omega), if_neg h7]
      have ek : (if 5 ≤ f0 ∧ f0 ≤ 9 then (2 : Int) else 1) = (if f0 ≥ 5 then 2 else 1) := by
        by_cases h5 : f0 ≥ 5
        · rw [if_pos (by omega), if_pos h5]
        · rw [if_neg (by omega), if_neg h5]
      have en : ((if 2 ≤ f0 ∧ f0 ≤ 6 ∨ f0 = 8 ∨ f0 = 9 then (2 : Int) else if f0 = 7 then 1 else 0) = 2) ↔ f0 ≠ 7 := by
        by_cases h7 : f0 = 7
        · rw [if_neg (by omega), if_pos h7]
          simp [h7]
        · rw [if_pos (by omega)]
          simp [h7]
      have nz : (if f0 ≥ 5 then (2 : Int) else 1) ≠ 0 := by split <;> decide
      simp only [ew, ek]
      by_cases a2 : f1 = 0
      · refine Ev.pos a2 (Ev.bind (Ev.const (in_dec _ _ _)) ?_)
        by_cases a3 : 0 ≤ f2 ∧ f2 ≤ (i : Int) - 1
        · refine Ev.pos (by simpa using a3) (Ev.bind (Ev.const (in_dec _ _ _)) ?_)
          by_cases a4 : 0 ≤ f3 ∧ f3 ≤ (i : Int) - 1
          · refine Ev.pos (by simpa using a4) (Ev.pos a3.1 (Ev.pos (by omega) ?_))
            by_cases a5 : rd ks f2 = (if f0 ≥ 7 then 2 else 1)
            · refine Ev.pos a5 (Ev.pos a4.1 (Ev.pos (by omega) ?_))
              by_cases a6 : rd ks f3 = (if f0 ≥ 7 then 2 else 1)
              · refine Ev.pos a6 ?_
                by_cases a7 : f0 = 7 → f3 = f2
                · rw [if_pos (c := OpOk f0 f1 f2 f3 ks) ⟨a1, a2, by omega, by omega, a5, a6, a7⟩, if_neg nz]
                  by_cases h7 : f0 = 7
                  · exact Ev.neg (fun h => absurd h7 (en.1 h)) (Ev.pos (a7 h7).symm (Ev.pos hok (ih' _)))
                  · exact Ev.pos (en.2 h7) (Ev.pos hok (ih' _))
                · rw [if_neg (c := OpOk f0 f1 f2 f3 ks) (fun h => a7 h.2.2.2.2.2.2), if_pos rfl]
                  rw [Classical.not_imp] at a7
                  exact Ev.neg (fun h => absurd a7.1 (en.1 h)) (Ev.neg (fun h => a7.2 h.symm) (Ev.val _))
              · rw [if_neg (c := OpOk f0 f1 f2 f3 ks) (fun h => a6 h.2.2.2.2.2.1), if_pos rfl]
                exact Ev.neg a6 (Ev.val _)
            · rw [if_neg (c := OpOk f0 f1 f2 f3 ks) (fun h => a5 h.2.2.2.2.1), if_pos rfl]
              exact Ev.neg a5 (Ev.val _)
          · rw [if_neg (c := OpOk f0 f1 f2 f3 ks) (fun h => a4 (by have := h.2.2.2.1; omega)), if_pos rfl]
            exact Ev.neg (by simpa using a4) (Ev.val _)
        · rw [if_neg (c := OpOk f0 f1 f2 f3 ks) (fun h => a3 (by have := h.2.2.1; omega)), if_pos rfl]
          exact Ev.neg (by simpa using a3) (Ev.val _)
      · rw [if_neg (c := OpOk f0 f1 f2 f3 ks) (fun h => a2 h.2.1), if_pos rfl]
        exact Ev.neg a2 (Ev.val _)
    · rw [if_neg (c := OpOk f0 f1 f2 f3 ks) (fun h => a1 h.1), if_pos rfl]
      exact Ev.neg (by simp; omega) (Ev.val _)
theorem impl_kinds (l : List S73) (vars : Int) : Ev (fun k => impl_kindsOf.f k l vars) (kindsL l vars) := by
  unfold impl_kindsOf.f kindsL
  refine Ev.bind (Ev.const (in_dec _ _ _)) ?_
  by_cases hv : 0 ≤ vars ∧ vars ≤ 5
  · refine Ev.pos (by simpa using hv) (Ev.bind (Ev.const (in_dec _ _ _)) ?_)
    by_cases hl : 1 ≤ (l.length : Int) ∧ (l.length : Int) ≤ 40
    · rw [if_pos ⟨hv, by omega⟩, decide_eq_true hl]
      refine Ev.step (Ev.neg (by decide) (Ev.pos (by omega) (Ev.pos (by omega) ?_))) (fun k => impl_kindsOf.j0.eq_2 ..)
      exact impl_kinds_loop l vars (by omega) hv l.length 0 [] (by omega) rfl
    · rw [if_neg (fun h => hl (by omega)), decide_eq_false hl]
      exact Ev.step (Ev.pos (by decide) (Ev.val _)) (fun k => impl_kindsOf.j0.eq_2 ..)
  · rw [if_neg (fun h => hv h.1)]
    exact Ev.neg (by simpa using hv) (Ev.step (Ev.pos rfl (Ev.val _)) (fun k => impl_kindsOf.j0.eq_2 ..))
/-- What the kinds are good for. -/
theorem kindsRun_typed (l : List S73) (vars : Int) : ∀ (d i : Nat) (ks : List Int), i + d = l.length → ks.length = i → (∀ j : Nat, j < i → kindAt (rd_T73 l (j : Int)) (ks.take j) vars = rd ks (j : Int) ∧ rd ks (j : Int) ≠ 0) → kindsRun l vars d i ks ≠ [] → Typed l vars (kindsRun l vars d i ks) := by
  intro d
  induction d with
  | zero =>
    intro i ks hi hk h _
    exact ⟨by unfold kindsRun; omega, fun j hj => h j (by omega)⟩
  | succ d ih =>
    intro i ks hi hk h
    unfold kindsRun
    by_cases h0 : kindAt (rd_T73 l (i : Int)) ks vars = 0
    · rw [if_pos h0]
      intro h
      exact absurd rfl h
    · rw [if_neg h0]
      refine ih (i + 1) _ (by omega) (by simp; omega) (fun j hj => ?_)
      by_cases e : j = i
      · subst e
        subst hk
        rw [List.take_append_of_le_length (Nat.le_refl _), List.take_of_length_le (Nat.le_refl _), rd_app_eq]
        exact ⟨rfl, h0⟩
      · rw [List.take_append_of_le_length (by omega), rd_app_lt (by omega)]
        exact h j (by omega)
theorem kindsL_typed {l : List S73} {vars : Int} (h : kindsL l vars ≠ []) : (0 ≤ vars ∧ vars ≤ 5) ∧ (1 ≤ l.length ∧ l.length ≤ 40) ∧ Typed l vars (kindsL l vars) := by
  unfold kindsL at h ⊢
  by_cases c : (0 ≤ vars ∧ vars ≤ 5) ∧ (1 ≤ l.length ∧ l.length ≤ 40)
  · rw [if_pos c] at h ⊢
    exact ⟨c.1, c.2, kindsRun_typed l vars l.length 0 [] (by omega) rfl (fun j hj => by omega) h⟩
  · rw [if_neg c] at h
    exact absurd rfl h
theorem to_terms_loop (l : List S75) (hl : l.length ≤ 1048576) : ∀ (d i : Nat) (ys : List S73), i + d = l.length → ys.length = l.length →
    ∃ r, Ev (fun k => laws_toTermS.l0 k l ys (i : Int)) r := by
  intro d
  induction d with
  | zero =>
    intro i ys hi hy
    exact ⟨ys, Ev.step (Ev.neg (by omega) (Ev.val _)) (fun k => laws_toTermS.l0.eq_2 ..)⟩
  | succ d ih =>
    intro i ys hi hy
    have hwi := wsucc i (by omega)
    obtain ⟨r, hr⟩ := ih (i + 1) (ys.set i (⟨(rd_T75 l (i : Int)).f0, (rd_T75 l (i : Int)).f1, (rd_T75 l (i : Int)).f2, (rd_T75 l (i : Int)).f3⟩ : S73)) (by omega) (by simpa using hy)
    refine ⟨r, Ev.step ?_ (fun k => laws_toTermS.l0.eq_2 ..)⟩
    rw [hwi, Int.toNat_natCast]
    exact Ev.pos (by omega) (Ev.pos (by omega) (Ev.bind (Ev.const (by unfold laws_toTerm.f; rfl)) (Ev.pos (by omega) hr)))
theorem to_terms (l : List S75) (hl : l.length ≤ 1048576) : ∃ r, Ev (fun k => laws_toTermS.f k l) r := by
  unfold laws_toTermS.f
  obtain ⟨r, hr⟩ := to_terms_loop l hl l.length 0 (List.replicate l.length z73) (by omega) (by simp)
  refine ⟨r, Ev.pos (by omega) (Ev.pos (by omega) ?_)⟩
  rw [Int.toNat_natCast]
  exact hr
theorem eq_terms_loop (l : List S73) (hl : l.length ≤ 4611686018427387904) : ∀ (d i : Nat), i + d = l.length → Ev (fun k => laws_eqTermS.l0 k l l (i : Int)) true := by
  intro d
  induction d with
  | zero =>
    intro i hi
    exact Ev.step (Ev.neg (by omega) (Ev.val _)) (fun k => laws_eqTermS.l0.eq_2 ..)
  | succ d ih =>
    intro i hi
    have hwi := wsucc i (by omega)
    refine Ev.step ?_ (fun k => laws_eqTermS.l0.eq_2 ..)
    rw [hwi]
    exact Ev.pos (by omega) (Ev.pos (by omega) (Ev.pos (by omega) (Ev.bind (Ev.const (by unfold laws_eqTerm.f; simp)) (Ev.pos rfl (ih (i + 1) (by omega))))))
theorem eq_terms (l : List S73) (hl : l.length ≤ 4611686018427387904) : Ev (fun k => laws_eqTermS.f k l l) true := by
  unfold laws_eqTermS.f
  exact Ev.pos rfl (eq_terms_loop l hl l.length 0 (by omega))
theorem to_terms_len_loop (l : List S75) : ∀ (k : Nat) (i : Int) (ys r : List S73), laws_toTermS.l0 k l ys i = some r → r.length = ys.length := by
  intro k
  induction k with
  | zero => intro i ys r h; simp [laws_toTermS.l0] at h
  | succ k ih =>
    intro i ys r h
    rw [laws_toTermS.l0.eq_2] at h
    split at h
    · split at h
      · rw [Option.bind_eq_some_iff] at h
        obtain ⟨t, _, h⟩ := h
        split at h
        · have := ih _ _ _ h
          simpa using this
        · cases h
      · cases h
    · cases h; rfl
theorem to_terms_len (l : List S75) (r : List S73) (h : Ev (fun k => laws_toTermS.f k l) r) : r.length = l.length := by
  obtain ⟨k, hk⟩ := h.get
  unfold laws_toTermS.f at hk
  split at hk
  · split at hk
    · have := to_terms_len_loop l _ _ _ _ hk
      simpa using this
    · cases hk
  · cases hk
/-- The copy up to i. -/
theorem to_ints_loop (l : List Int) (hl : l.length ≤ 1048576) : ∀ (d i : Nat) (ys : List Int), i + d = l.length → ys.length = l.length → (∀ j : Nat, j < i → rd ys (j : Int) = rd l (j : Int)) →
    Ev (fun k => laws_toIntS.l0 k l ys (i : Int)) l := by
  intro d
  induction d with
  | zero =>
    intro i ys hi hy h
    refine Ev.step (Ev.neg (by omega) (Ev.valEq ?_)) (fun k => laws_toIntS.l0.eq_2 ..)
    exact list_eq_rd hy (fun j hj => h j (by omega))
  | succ d ih =>
    intro i ys hi hy h
    have hwi := wsucc i (by omega)
    refine Ev.step (Ev.pos (by omega) (Ev.pos (by omega) (Ev.pos (by omega) ?_))) (fun k => laws_toIntS.l0.eq_2 ..)
    rw [hwi, Int.toNat_natCast]
    refine ih (i + 1) _ (by omega) (by simpa using hy) ?_
    intro j hj
    by_cases e : j = i
    · subst e
      rw [rd_set_eq (by omega)]
    · rw [rd_set_ne (by omega)]
      exact h j (by omega)
theorem to_ints (l : List Int) (hl : l.length ≤ 1048576) : Ev (fun k => laws_toIntS.f k l) l := by
  unfold laws_toIntS.f
  rw [Int.toNat_natCast]
  exact Ev.pos (by omega) (Ev.pos (by omega) (to_ints_loop l hl l.length 0 _ (by omega) (by simp) (fun j hj => by omega)))
theorem eq_ints_loop (l : List Int) (hl : l.length ≤ 1048576) : ∀ (d i : Nat), i + d = l.length → Ev (fun k => laws_eqIntS.l0 k l l (i : Int)) true := by
  intro d
  induction d with
  | zero =>
    intro i hi
    exact Ev.step (Ev.neg (by omega) (Ev.val _)) (fun k => laws_eqIntS.l0.eq_2 ..)
  | succ d ih =>
    intro i hi
    have hwi := wsucc i (by omega)
    refine Ev.step ?_ (fun k => laws_eqIntS.l0.eq_2 ..)
    rw [hwi]
    exact Ev.pos (by omega) (Ev.pos (by omega) (Ev.pos (by omega) (Ev.pos rfl (ih (i + 1) (by omega)))))
theorem eq_ints (l : List Int) (hl : l.length ≤ 1048576) : Ev (fun k => laws_eqIntS.f k l l) true := by
  unfold laws_eqIntS.f
  exact Ev.pos rfl (eq_ints_loop l hl l.length 0 (by omega))
/-! #### the law's own copies of systems -/
/-- What came in has lengths. -/
def LawRules (l : List S131) : Prop := l.length ≤ 9223372036854775807 ∧ ∀ x ∈ l, x.f0.length ≤ 9223372036854775807 ∧ x.f1.length ≤ 9223372036854775807 ∧ x.f2.length ≤ 9223372036854775807 ∧ ∀ y ∈ x.f2, y.length ≤ 9223372036854775807
def FewR0 (x : S131) : Prop := x.f0.length ≤ 1048576 ∧ x.f1.length ≤ 1048576 ∧ x.f2.length ≤ 1048576 ∧ ∀ j : Nat, j < x.f2.length → (rd_L3 x.f2 (j : Int)).length ≤ 1048576
def FewR (x : S109) : Prop := x.f0.length ≤ 1048576 ∧ x.f1.length ≤ 1048576 ∧ x.f2.length ≤ 1048576 ∧ ∀ j : Nat, j < x.f2.length → (rd_L9 x.f2 (j : Int)).length ≤ 1048576
def FewS (vs : List S99) (rs : List S109) : Prop := vs.length ≤ 1048576 ∧ rs.length ≤ 1048576 ∧ ∀ j : Nat, j < rs.length → FewR (rd_T109 rs (j : Int))
theorem rdLl_lt {l : List (List S75)} {i : Nat} (h : i < l.length) : rd_L3 l (i : Int) = l[i] := by
  unfold rd_L3
  rw [Int.toNat_natCast, getD_lt h]
theorem rdLi_lt {l : List (List S73)} {i : Nat} (h : i < l.length) : rd_L9 l (i : Int) = l[i] := by
  unfold rd_L9
  rw [Int.toNat_natCast, getD_lt h]
theorem rdRl_lt {l : List S131} {i : Nat} (h : i < l.length) : rd_T131 l (i : Int) = l[i] := by
  unfold rd_T131
  rw [Int.toNat_natCast, getD_lt h]
theorem rdRi_lt {l : List S109} {i : Nat} (h : i < l.length) : rd_T109 l (i : Int) = l[i] := by
  unfold rd_T109
  rw [Int.toNat_natCast, getD_lt h]
theorem sz_lterms (l : List S75) (a : Int) (hl : l.length ≤ 9223372036854775807) (ha0 : 0 ≤ a) (ha : a ≤ 1048576) : Tot (fun _ => laws_szTermS.f l a) (fun r => r ≤ a ∧ (0 ≤ r → l.length ≤ 1048576)) := by
  have w1 : wrap64 (a - (l.length : Int)) = a - (l.length : Int) := w_id (by omega) (by omega)
  unfold laws_szTermS.f
  rw [w1]
  exact Tot.ite (fun h => Tot.val ⟨by omega, by omega⟩) (fun h => Tot.val ⟨by omega, by omega⟩)
theorem sz_lints (l : List Int) (a : Int) (hl : l.length ≤ 9223372036854775807) (ha0 : 0 ≤ a) (ha : a ≤ 1048576) : Tot (fun _ => laws_szIntS.f l a) (fun r => r ≤ a ∧ (0 ≤ r → l.length ≤ 1048576)) := by
  have w1 : wrap64 (a - (l.length : Int)) = a - (l.length : Int) := w_id (by omega) (by omega)
  unfold laws_szIntS.f
  rw [w1]
  exact Tot.ite (fun h => Tot.val ⟨by omega, by omega⟩) (fun h => Tot.val ⟨by omega, by omega⟩)
theorem sz_lvars (l : List S133) (a : Int) (hl : l.length ≤ 9223372036854775807) (ha0 : 0 ≤ a) (ha : a ≤ 1048576) : Tot (fun _ => laws_szVarS.f l a) (fun r => r ≤ a ∧ (0 ≤ r → l.length ≤ 1048576)) := by
  have w1 : wrap64 (a - (l.length : Int)) = a - (l.length : Int) := w_id (by omega) (by omega)
  unfold laws_szVarS.f
  rw [w1]
  exact Tot.ite (fun h => Tot.val ⟨by omega, by omega⟩) (fun h => Tot.val ⟨by omega, by omega⟩)
theorem sz_lrows_loop (l : List (List S75)) (hl : l.length ≤ 1048576) (hr : ∀ x ∈ l, x.length ≤ 9223372036854775807) : ∀ (d i : Nat) (a : Int), i + d = l.length → 0 ≤ a → a ≤ 1048576 →
    Tot (fun k => laws_szTermSS.l0 k l a (i : Int)) (fun r => r ≤ a ∧ (0 ≤ r → ∀ j : Nat, i ≤ j → j < l.length → (rd_L3 l (j : Int)).length ≤ 1048576)) := by
  intro d
  induction d with
  | zero =>
    intro i a hi h0 h1
    exact Tot.step (Tot.neg (by omega) (Tot.val ⟨by omega, fun _ j h1 h2 => by omega⟩)) (fun k => laws_szTermSS.l0.eq_2 ..)
  | succ d ih =>
    intro i a hi h0 h1
    have hwi := wsucc i (by omega)
    refine Tot.step (Tot.pos (by omega) (Tot.pos (by omega) (Tot.bind (sz_lterms (rd_L3 l (i : Int)) a (by rw [rdLl_lt (by omega)]; exact hr _ (List.getElem_mem _)) h0 h1) ?_))) (fun k => laws_szTermSS.l0.eq_2 ..)
    rintro t ⟨t1, t2⟩
    refine Tot.ite (fun h => Tot.val ⟨by omega, by omega⟩) (fun h => ?_)
    rw [hwi]
    refine (ih (i + 1) t (by omega) (by omega) (by omega)).mono ?_
    rintro r ⟨r1, r2⟩
    refine ⟨by omega, fun hr0 j j1 j2 => ?_⟩
    rcases Nat.lt_or_eq_of_le j1 with j3 | rfl
    · exact r2 hr0 j j3 j2
    · exact t2 (by omega)
theorem sz_lrows (l : List (List S75)) (a : Int) (hl : l.length ≤ 9223372036854775807) (hr : ∀ x ∈ l, x.length ≤ 9223372036854775807) (ha0 : 0 ≤ a) (ha : a ≤ 1048576) :
    Tot (fun k => laws_szTermSS.f k l a) (fun r => r ≤ a ∧ (0 ≤ r → l.length ≤ 1048576 ∧ ∀ j : Nat, j < l.length → (rd_L3 l (j : Int)).length ≤ 1048576)) := by
  have w1 : wrap64 (a - (l.length : Int)) = a - (l.length : Int) := w_id (by omega) (by omega)
  unfold laws_szTermSS.f
  rw [w1]
  refine Tot.ite (fun h => Tot.val ⟨by omega, by omega⟩) (fun h => ?_)
  refine (sz_lrows_loop l (by omega) hr l.length 0 (a - (l.length : Int)) (by omega) (by omega) (by omega)).mono ?_
  rintro r ⟨r1, r2⟩
  exact ⟨by omega, fun h0 => ⟨by omega, fun j hj => r2 h0 j (by omega) hj⟩⟩
theorem sz_lrule (x : S131) (a : Int) (h : x.f0.length ≤ 9223372036854775807 ∧ x.f1.length ≤ 9223372036854775807 ∧ x.f2.length ≤ 9223372036854775807 ∧ ∀ y ∈ x.f2, y.length ≤ 9223372036854775807) (ha0 : 0 ≤ a) (ha : a ≤ 1048576) :
    Tot (fun k => laws_szRule.f k x.f0 x.f1 x.f2 a) (fun r => r ≤ a ∧ (0 ≤ r → FewR0 x)) := by
  unfold laws_szRule.f
  refine Tot.bind (sz_lterms x.f0 a h.1 ha0 ha) ?_
  rintro t ⟨t1, t2⟩
  refine Tot.ite (fun h => Tot.val ⟨by omega, by omega⟩) (fun c1 => Tot.bind (sz_lints x.f1 t h.2.1 (by omega) (by omega)) ?_)
  rintro u ⟨u1, u2⟩
  refine Tot.ite (fun h => Tot.val ⟨by omega, by omega⟩) (fun c2 => Tot.bind (sz_lrows x.f2 u h.2.2.1 h.2.2.2 (by omega) (by omega)) ?_)
  rintro v ⟨v1, v2⟩
  refine Tot.ite (fun h => Tot.val ⟨by omega, by omega⟩) (fun c3 => Tot.val ⟨by omega, fun h0 => ⟨t2 (by omega), u2 (by omega), (v2 h0).1, (v2 h0).2⟩⟩)
theorem sz_lrules_loop (l : List S131) (hl : l.length ≤ 1048576) (hr : LawRules l) : ∀ (d i : Nat) (a : Int), i + d = l.length → 0 ≤ a → a ≤ 1048576 →
    Tot (fun k => laws_szRuleS.l0 k l a (i : Int)) (fun r => r ≤ a ∧ (0 ≤ r → ∀ j : Nat, i ≤ j → j < l.length → FewR0 (rd_T131 l (j : Int)))) := by
  intro d
  induction d with
  | zero =>
    intro i a hi h0 h1
    exact Tot.step (Tot.neg (by omega) (Tot.val ⟨by omega, fun _ j h1 h2 => by omega⟩)) (fun k => laws_szRuleS.l0.eq_2 ..)
  | succ d ih =>
    intro i a hi h0 h1
    have hwi := wsucc i (by omega)
    refine Tot.step (Tot.pos (by omega) (Tot.pos (by omega) (Tot.bind (sz_lrule (rd_T131 l (i : Int)) a (by rw [rdRl_lt (by omega)]; exact hr.2 _ (List.getElem_mem _)) h0 h1) ?_))) (fun k => laws_szRuleS.l0.eq_2 ..)
    rintro t ⟨t1, t2⟩
    refine Tot.ite (fun h => Tot.val ⟨by omega, by omega⟩) (fun h => ?_)
    rw [hwi]
    refine (ih (i + 1) t (by omega) (by omega) (by omega)).mono ?_
    rintro r ⟨r1, r2⟩
    refine ⟨by omega, fun hr0 j j1 j2 => ?_⟩
    rcases Nat.lt_or_eq_of_le j1 with j3 | rfl
    · exact r2 hr0 j j3 j2
    · exact t2 (by omega)
theorem sz_lrules (l : List S131) (a : Int) (hr : LawRules l) (ha0 : 0 ≤ a) (ha : a ≤ 1048576) :
    Tot (fun k => laws_szRuleS.f k l a) (fun r => r ≤ a ∧ (0 ≤ r → l.length ≤ 1048576 ∧ ∀ j : Nat, j < l.length → FewR0 (rd_T131 l (j : Int)))) := by
  have hl := hr.1
  have w1 : wrap64 (a - (l.length : Int)) = a - (l.length : Int) := w_id (by omega) (by omega)
  unfold laws_szRuleS.f
  rw [w1]
  refine Tot.ite (fun h => Tot.val ⟨by omega, by omega⟩) (fun h => ?_)
  refine (sz_lrules_loop l (by omega) hr l.length 0 (a - (l.length : Int)) (by omega) (by omega) (by omega)).mono ?_
  rintro r ⟨r1, r2⟩
  exact ⟨by omega, fun h0 => ⟨by omega, fun j hj => r2 h0 j (by omega) hj⟩⟩
theorem sz_lsystem (vs : List S133) (rs : List S131) (hv : vs.length ≤ 9223372036854775807) (hr : LawRules rs) :
    Tot (fun k => laws_szSystem.f k vs rs 1048576) (fun r => 0 ≤ r → vs.length ≤ 1048576 ∧ rs.length ≤ 1048576 ∧ ∀ j : Nat, j < rs.length → FewR0 (rd_T131 rs (j : Int))) := by
  unfold laws_szSystem.f
  refine Tot.bind (sz_lvars vs 1048576 hv (by omega) (by omega)) ?_
  rintro t ⟨t1, t2⟩
  refine Tot.ite (fun h => Tot.val (by omega)) (fun c1 => Tot.bind (sz_lrules rs t hr (by omega) (by omega)) ?_)
  rintro u ⟨u1, u2⟩
  exact Tot.ite (fun h => Tot.val (by omega)) (fun c2 => Tot.val (fun h0 => ⟨t2 (by omega), u2 h0⟩))
/-! copies -/
theorem to_lvars_loop (l : List S133) (hl : l.length ≤ 1048576) : ∀ (d i : Nat) (ys : List S99), i + d = l.length → ys.length = l.length → Tot (fun k => laws_toVarS.l0 k l ys (i : Int)) (fun r => r.length = l.length) := by
  intro d
  induction d with
  | zero =>
    intro i ys hi hy
    exact Tot.step (Tot.neg (by omega) (Tot.val hy)) (fun k => laws_toVarS.l0.eq_2 ..)
  | succ d ih =>
    intro i ys hi hy
    have hwi := wsucc i (by omega)
    refine Tot.step (Tot.pos (by omega) (Tot.pos (by omega) (Tot.bind (Tot.of (P := fun _ => True) (Ev.const (by unfold laws_toVar.f; rfl)) trivial) (fun t _ => Tot.pos (by omega) ?_)))) (fun k => laws_toVarS.l0.eq_2 ..)
    rw [hwi]
    exact ih (i + 1) _ (by omega) (by simpa using hy)
theorem to_lvars (l : List S133) (hl : l.length ≤ 1048576) : Tot (fun k => laws_toVarS.f k l) (fun r => r.length = l.length) := by
  unfold laws_toVarS.f
  exact Tot.pos (by omega) (Tot.pos (by omega) (to_lvars_loop l hl l.length 0 _ (by omega) (by simp)))
theorem to_lterms (l : List S75) (hl : l.length ≤ 1048576) : Tot (fun k => laws_toTermS.f k l) (fun r => r.length = l.length) := by
  obtain ⟨r, h⟩ := to_terms l hl
  exact ⟨r, h, to_terms_len l r h⟩
theorem to_lrows_loop (l : List (List S75)) (hl : l.length ≤ 1048576) (hr : ∀ j : Nat, j < l.length → (rd_L3 l (j : Int)).length ≤ 1048576) : ∀ (d i : Nat) (ys : List (List S73)), i + d = l.length → ys.length = l.length → (∀ j : Nat, j < i → (rd_L9 ys (j : Int)).length ≤ 1048576) →
    Tot (fun k => laws_toTermSS.l0 k l ys (i : Int)) (fun r => r.length = l.length ∧ ∀ j : Nat, j < r.length → (rd_L9 r (j : Int)).length ≤ 1048576) := by
  intro d
  induction d with
  | zero =>
    intro i ys hi hy h
    exact Tot.step (Tot.neg (by omega) (Tot.val ⟨hy, fun j hj => h j (by omega)⟩)) (fun k => laws_toTermSS.l0.eq_2 ..)
  | succ d ih =>
    intro i ys hi hy h
    have hwi := wsucc i (by omega)
    refine Tot.step (Tot.pos (by omega) (Tot.pos (by omega) (Tot.bind (to_lterms _ (hr i (by omega))) (fun t ht => Tot.pos (by omega) ?_)))) (fun k => laws_toTermSS.l0.eq_2 ..)
    rw [hwi, Int.toNat_natCast]
    refine ih (i + 1) _ (by omega) (by simpa using hy) (fun j hj => ?_)
    by_cases e : j = i
    · subst e
      rw [rdLi_lt (by simp; omega)]
      simp only [List.getElem_set_self]
      have := hr j (by omega)
      omega
    · rw [rdLi_lt (by simp; omega), List.getElem_set_ne (by omega), ← rdLi_lt]
      exact h j (by omega)
theorem to_lrows (l : List (List S75)) (hl : l.length ≤ 1048576) (hr : ∀ j : Nat, j < l.length → (rd_L3 l (j : Int)).length ≤ 1048576) : Tot (fun k => laws_toTermSS.f k l) (fun r => r.length = l.length ∧ ∀ j : Nat, j < r.length → (rd_L9 r (j : Int)).length ≤ 1048576) := by
  unfold laws_toTermSS.f
  exact Tot.pos (by omega) (Tot.pos (by omega) (to_lrows_loop l hl hr l.length 0 _ (by omega) (by simp) (fun j hj => by omega)))
theorem to_lrule (x : S131) (hx : FewR0 x) : Tot (fun k => laws_toRule.f k x.f0 x.f1 x.f2) (fun r => FewR ⟨r.1, r.2.1, r.2.2⟩) := by
  unfold laws_toRule.f
  refine Tot.bind (to_lterms x.f0 hx.1) (fun t ht => Tot.bind (Tot.of (P := fun r => r = x.f1) (to_ints x.f1 hx.2.1) rfl) (fun u hu => Tot.bind (to_lrows x.f2 hx.2.2.1 hx.2.2.2) (fun v hv => Tot.val ?_)))
  subst hu
  exact ⟨by have := hx.1; show t.length ≤ _; omega, hx.2.1, by have := hx.2.2.1; show v.length ≤ _; omega, hv.2⟩
theorem to_lrules_loop (l : List S131) (hl : l.length ≤ 1048576) (hr : ∀ j : Nat, j < l.length → FewR0 (rd_T131 l (j : Int))) : ∀ (d i : Nat) (ys : List S109), i + d = l.length → ys.length = l.length → (∀ j : Nat, j < i → FewR (rd_T109 ys (j : Int))) →
    Tot (fun k => laws_toRuleS.l0 k l ys (i : Int)) (fun r => r.length = l.length ∧ ∀ j : Nat, j < r.length → FewR (rd_T109 r (j : Int))) := by
  intro d
  induction d with
  | zero =>
    intro i ys hi hy h
    exact Tot.step (Tot.neg (by omega) (Tot.val ⟨hy, fun j hj => h j (by omega)⟩)) (fun k => laws_toRuleS.l0.eq_2 ..)
  | succ d ih =>
    intro i ys hi hy h
    have hwi := wsucc i (by omega)
    refine Tot.step (Tot.pos (by omega) (Tot.pos (by omega) (Tot.bind (to_lrule _ (hr i (by omega))) (fun t ht => Tot.pos (by omega) ?_)))) (fun k => laws_toRuleS.l0.eq_2 ..)
    rw [hwi, Int.toNat_natCast]
    refine ih (i + 1) _ (by omega) (by simpa using hy) (fun j hj => ?_)
    by_cases e : j = i
    · subst e
      rw [rdRi_lt (by simp; omega)]
      simp only [List.getElem_set_self]
      exact ht
    · rw [rdRi_lt (by simp; omega), List.getElem_set_ne (by omega), ← rdRi_lt]
      exact h j (by omega)
theorem to_lrules (l : List S131) (hl : l.length ≤ 1048576) (hr : ∀ j : Nat, j < l.length → FewR0 (rd_T131 l (j : Int))) : Tot (fun k => laws_toRuleS.f k l) (fun r => r.length = l.length ∧ ∀ j : Nat, j < r.length → FewR (rd_T109 r (j : Int))) := by
  unfold laws_toRuleS.f
  exact Tot.pos (by omega) (Tot.pos (by omega) (to_lrules_loop l hl hr l.length 0 _ (by omega) (by simp) (fun j hj => by omega)))
theorem to_lsystem (vs : List S133) (rs : List S131) (hv : vs.length ≤ 1048576) (hl : rs.length ≤ 1048576) (hr : ∀ j : Nat, j < rs.length → FewR0 (rd_T131 rs (j : Int))) : Tot (fun k => laws_toSystem.f k vs rs) (fun r => FewS r.1 r.2) := by
  unfold laws_toSystem.f
  exact Tot.bind (to_lvars vs hv) (fun t ht => Tot.bind (to_lrules rs hl hr) (fun u hu => Tot.val ⟨by show t.length ≤ _; omega, by have := hu.1; show u.length ≤ _; omega, hu.2⟩))
/-! comparisons -/
theorem eq_lvars_loop (l : List S99) (hl : l.length ≤ 1048576) : ∀ (d i : Nat), i + d = l.length → Ev (fun k => laws_eqVarS.l0 k l l (i : Int)) true := by
  intro d
  induction d with
  | zero =>
    intro i hi
    exact Ev.step (Ev.neg (by omega) (Ev.val _)) (fun k => laws_eqVarS.l0.eq_2 ..)
  | succ d ih =>
    intro i hi
    have hwi := wsucc i (by omega)
    refine Ev.step ?_ (fun k => laws_eqVarS.l0.eq_2 ..)
    rw [hwi]
    exact Ev.pos (by omega) (Ev.pos (by omega) (Ev.pos (by omega) (Ev.bind (Ev.const (by unfold laws_eqVar.f; simp)) (Ev.pos rfl (ih (i + 1) (by omega))))))
theorem eq_lvars (l : List S99) (hl : l.length ≤ 1048576) : Ev (fun k => laws_eqVarS.f k l l) true := by
  unfold laws_eqVarS.f
  exact Ev.pos rfl (eq_lvars_loop l hl l.length 0 (by omega))
theorem eq_lrows_loop (l : List (List S73)) (hl : l.length ≤ 1048576) (hr : ∀ j : Nat, j < l.length → (rd_L9 l (j : Int)).length ≤ 1048576) : ∀ (d i : Nat), i + d = l.length → Ev (fun k => laws_eqTermSS.l0 k l l (i : Int)) true := by
  intro d
  induction d with
  | zero =>
    intro i hi
    exact Ev.step (Ev.neg (by omega) (Ev.val _)) (fun k => laws_eqTermSS.l0.eq_2 ..)
  | succ d ih =>
    intro i hi
    have hwi := wsucc i (by omega)
    refine Ev.step ?_ (fun k => laws_eqTermSS.l0.eq_2 ..)
    rw [hwi]
    exact Ev.pos (by omega) (Ev.pos (by omega) (Ev.pos (by omega) (Ev.bind (eq_terms _ (Nat.le_trans (hr i (by omega)) (by omega))) (Ev.pos rfl (ih (i + 1) (by omega))))))
theorem eq_lrows (l : List (List S73)) (hl : l.length ≤ 1048576) (hr : ∀ j : Nat, j < l.length → (rd_L9 l (j : Int)).length ≤ 1048576) : Ev (fun k => laws_eqTermSS.f k l l) true := by
  unfold laws_eqTermSS.f
  exact Ev.pos rfl (eq_lrows_loop l hl hr l.length 0 (by omega))
theorem eq_lrule (x : S109) (hx : FewR x) : Ev (fun k => laws_eqRule.f k x.f0 x.f1 x.f2 x.f0 x.f1 x.f2) true := by
  unfold laws_eqRule.f
  exact Ev.bind (eq_terms x.f0 (Nat.le_trans hx.1 (by omega))) (Ev.pos rfl (Ev.bind (eq_ints x.f1 hx.2.1) (Ev.pos rfl (Ev.bind (eq_lrows x.f2 hx.2.2.1 hx.2.2.2) (Ev.pos rfl (Ev.val _))))))
theorem eq_lrules_loop (l : List S109) (hl : l.length ≤ 1048576) (hr : ∀ j : Nat, j < l.length → FewR (rd_T109 l (j : Int))) : ∀ (d i : Nat), i + d = l.length → Ev (fun k => laws_eqRuleS.l0 k l l (i : Int)) true := by
  intro d
  induction d with
  | zero =>
    intro i hi
    exact Ev.step (Ev.neg (by omega) (Ev.val _)) (fun k => laws_eqRuleS.l0.eq_2 ..)
  | succ d ih =>
    intro i hi
    have hwi := wsucc i (by omega)
    refine Ev.step ?_ (fun k => laws_eqRuleS.l0.eq_2 ..)
    rw [hwi]
    exact Ev.pos (by omega) (Ev.pos (by omega) (Ev.pos (by omega) (Ev.bind (eq_lrule _ (hr i (by omega))) (Ev.pos rfl (ih (i + 1) (by omega))))))
theorem eq_lsystem (vs : List S99) (rs : List S109) (h : FewS vs rs) : Ev (fun k => laws_eqSystem.f k vs rs vs rs) true := by
  unfold laws_eqSystem.f
  refine Ev.bind (eq_lvars vs h.1) (Ev.pos rfl (Ev.bind ?_ (Ev.pos rfl (Ev.val _))))
  unfold laws_eqRuleS.f
  exact Ev.pos rfl (eq_lrules_loop rs h.2.1 h.2.2 rs.length 0 (by omega))
/-! #### systems -/
def VarOk (a b c : Int) : Prop := (-9999 ≤ a ∧ a ≤ 9999) ∧ (a ≤ b ∧ b ≤ 9999) ∧ b - a < 20 ∧ (a ≤ c ∧ c ≤ b)
instance (a b c : Int) : Decidable (VarOk a b c) := by unfold VarOk; infer_instance
/-- The kind of an expression; 0: it is none. -/
def kindL (l : List S73) (vars : Int) : Int := if (kindsL l vars).length = 0 then 0 else rd (kindsL l vars) (((kindsL l vars).length : Int) - 1)
def RuleOk (x : S109) (vars : Int) : Prop := kindL x.f0 vars = 2 ∧ x.f1.length = x.f2.length ∧ ∀ j : Nat, j < x.f1.length → (0 ≤ rd x.f1 (j : Int) ∧ rd x.f1 (j : Int) < vars) ∧ (0 < j → rd x.f1 ((j : Int) - 1) < rd x.f1 (j : Int)) ∧ kindL (rd_L9 x.f2 (j : Int)) vars = 1
def prodRun (vs : List S99) : Nat → Nat → Int → Int
  | 0, _, x => x
  | d + 1, i, x => prodRun vs d (i + 1) (x * ((rd_T99 vs (i : Int)).f1 - (rd_T99 vs (i : Int)).f0 + 1))
def VarAt (vs : List S99) (j : Nat) : Prop := VarOk (rd_T99 vs (j : Int)).f0 (rd_T99 vs (j : Int)).f1 (rd_T99 vs (j : Int)).f2
instance (vs : List S99) (j : Nat) : Decidable (VarAt vs j) := by unfold VarAt; infer_instance
/-- A system. -/
def SysOk (vs : List S99) (rs : List S109) : Prop := (1 ≤ vs.length ∧ vs.length ≤ 5) ∧ rs.length ≤ 8 ∧ (∀ j : Nat, j < vs.length → VarAt vs j) ∧ prodRun vs vs.length 0 1 ≤ 400 ∧ ∀ j : Nat, j < rs.length → RuleOk (rd_T109 rs (j : Int)) (vs.length : Int)
theorem kindsL_length_le (l : List S73) (vars : Int) : (kindsL l vars).length ≤ 40 := by
  by_cases h : kindsL l vars = []
  · rw [h]
    simp
  · obtain ⟨_, h2, h3⟩ := kindsL_typed h
    have := h3.1
    omega
theorem spec_var (a b c : Int) : spec_l2Var.f a b c = some (decide (VarOk a b c)) := by
  unfold spec_l2Var.f
  rw [in_dec]
  simp only [Option.bind_some]
  by_cases h1 : -9999 ≤ a ∧ a ≤ 9999
  · rw [if_pos (by simpa using h1), in_dec]
    simp only [Option.bind_some]
    by_cases h2 : a ≤ b ∧ b ≤ 9999
    · rw [if_pos (by simpa using h2), w_id (by omega) (by omega)]
      by_cases h3 : b - a < 20
      · rw [if_pos h3, in_dec]
        simp only [Option.bind_some, Option.some.injEq, decide_eq_decide]
        exact ⟨fun h => ⟨h1, h2, h3, h⟩, fun h => h.2.2.2⟩
      · rw [if_neg h3, decide_eq_false (fun h => h3 h.2.2.1)]
    · rw [if_neg (by simpa using h2), decide_eq_false (fun h => h2 h.2.1)]
  · rw [if_neg (by simpa using h1), decide_eq_false (fun h => h1 h.1)]
theorem impl_var (a b c : Int) : impl_varOk.f a b c = some (decide (VarOk a b c)) := spec_var a b c
theorem spec_is (l : List S73) (vars c : Int) (hc : c ≠ 0) : Ev (fun k => spec_l2Is.f k l vars c) (decide (kindL l vars = c)) := by
  have hl := kindsL_length_le l vars
  unfold spec_l2Is.f kindL
  refine Ev.bind (spec_kinds l vars) ?_
  by_cases h : (kindsL l vars).length = 0
  · rw [if_pos h]
    exact Ev.neg (by omega) (Ev.valEq (by symm; rw [decide_eq_false_iff_not]; exact fun e => hc e.symm))
  · rw [if_neg h, w_id (by omega) (by omega)]
    exact Ev.pos (by omega) (Ev.pos (by omega) (Ev.pos (by omega) (Ev.valEq (by rw [Bool.eq_iff_iff]; simp))))
theorem impl_kindL (l : List S73) (vars : Int) : Ev (fun k => impl_kindOf.f k l vars) (kindL l vars) := by
  have hl := kindsL_length_le l vars
  unfold impl_kindOf.f kindL
  refine Ev.bind (impl_kinds l vars) ?_
  by_cases h : (kindsL l vars).length = 0
  · exact (Ev.pos h (Ev.val _)).to (by rw [if_pos h])
  · exact (Ev.neg h (Ev.pos (by omega) (Ev.val _))).to (by rw [if_neg h])
/-- What the sets of a rule are to be from place i on. -/
def SetsFrom (x : S109) (vars : Int) (i : Nat) : Prop := ∀ j : Nat, i ≤ j → j < x.f1.length → (0 ≤ rd x.f1 (j : Int) ∧ rd x.f1 (j : Int) < vars) ∧ (0 < j → rd x.f1 ((j : Int) - 1) < rd x.f1 (j : Int)) ∧ kindL (rd_L9 x.f2 (j : Int)) vars = 1
theorem spec_rule_loop (x : S109) (vars : Int) (hv : 0 ≤ vars ∧ vars ≤ 1048576) (hx : x.f1.length ≤ 1048576) (he : x.f1.length = x.f2.length) : ∀ (d i : Nat), i + d = x.f1.length → Dec (fun k => spec_l2Rule.l0 k vars (i : Int) x.f0 x.f1 x.f2) (SetsFrom x vars i) := by
  intro d
  have w1 : wrap64 (vars - 1) = vars - 1 := w_id (by omega) (by omega)
  induction d with
  | zero =>
    intro i hi
    exact Dec.yes (Ev.step (Ev.neg (by omega) (Ev.val _)) (fun k => spec_l2Rule.l0.eq_2 ..)) (fun j h1 h2 => by omega)
  | succ d ih =>
    intro i hi
    have hwi := wsucc i (by omega)
    have w2 : wrap64 ((i : Int) - 1) = (i : Int) - 1 := w_id (by omega) (by omega)
    obtain ⟨b, hb, hb2⟩ := ih (i + 1) (by omega)
    have jt : Ev (fun k => spec_l2Rule.j2 k vars (i : Int) true x.f0 x.f1 x.f2) false := Ev.step (Ev.pos rfl (Ev.val _)) (fun k => spec_l2Rule.j2.eq_2 ..)
    have jf : Ev (fun k => spec_l2Rule.j2 k vars (i : Int) false x.f0 x.f1 x.f2) b := by
      refine Ev.step (Ev.neg (by decide) ?_) (fun k => spec_l2Rule.j2.eq_2 ..)
      rw [hwi]
      exact hb
    have hall : SetsFrom x vars i ↔ ((0 ≤ rd x.f1 (i : Int) ∧ rd x.f1 (i : Int) < vars) ∧ (0 < i → rd x.f1 ((i : Int) - 1) < rd x.f1 (i : Int)) ∧ kindL (rd_L9 x.f2 (i : Int)) vars = 1) ∧ SetsFrom x vars (i + 1) := all_from (P := fun j => (0 ≤ rd x.f1 (j : Int) ∧ rd x.f1 (j : Int) < vars) ∧ (0 < j → rd x.f1 ((j : Int) - 1) < rd x.f1 (j : Int)) ∧ kindL (rd_L9 x.f2 (j : Int)) vars = 1) (i := i) (by omega)
    have jk : (0 ≤ rd x.f1 (i : Int) ∧ rd x.f1 (i : Int) < vars) → (0 < i → rd x.f1 ((i : Int) - 1) < rd x.f1 (i : Int)) → Dec (fun k => (spec_l2Is.f k (rd_L9 x.f2 (i : Int)) vars 1).bind fun t => spec_l2Rule.j2 k vars (i : Int) (!t) x.f0 x.f1 x.f2) (SetsFrom x vars i) := by
      intro h1 h2
      have hk := spec_is (rd_L9 x.f2 (i : Int)) vars 1 (by decide)
      by_cases c : kindL (rd_L9 x.f2 (i : Int)) vars = 1
      · rw [decide_eq_true c] at hk
        exact ⟨b, Ev.bind hk jf, by rw [hall, hb2]; exact ⟨fun h => ⟨⟨h1, h2, c⟩, h⟩, fun h => h.2⟩⟩
      · rw [decide_eq_false c] at hk
        exact Dec.no (Ev.bind hk jt) (fun h => c (hall.1 h).1.2.2)
    have e1 := in_dec (rd x.f1 (i : Int)) 0 (vars - 1)
    by_cases c1 : 0 ≤ rd x.f1 (i : Int) ∧ rd x.f1 (i : Int) ≤ vars - 1
    · rw [decide_eq_true c1] at e1
      have c1' : 0 ≤ rd x.f1 (i : Int) ∧ rd x.f1 (i : Int) < vars := by omega
      by_cases c2 : 0 < i
      · by_cases c3 : rd x.f1 (i : Int) ≤ rd x.f1 ((i : Int) - 1)
        · refine Dec.no (Ev.step ?_ (fun k => spec_l2Rule.l0.eq_2 ..)) (fun h => by have := (hall.1 h).1.2.1 c2; omega)
          rw [w1, w2]
          exact Ev.pos (by omega) (Ev.pos (by omega) (Ev.bind (Ev.const e1) (Ev.pos rfl (Ev.pos (by omega) (Ev.pos (by omega) (Ev.pos (by omega) (Ev.pos c3 jt)))))))
        · obtain ⟨b2, k1, k2⟩ := jk c1' (fun _ => by omega)
          refine ⟨b2, Ev.step ?_ (fun k => spec_l2Rule.l0.eq_2 ..), k2⟩
          rw [w1, w2]
          exact Ev.pos (by omega) (Ev.pos (by omega) (Ev.bind (Ev.const e1) (Ev.pos rfl (Ev.pos (by omega) (Ev.pos (by omega) (Ev.pos (by omega) (Ev.neg c3 (Ev.pos (by omega) k1))))))))
      · obtain ⟨b2, k1, k2⟩ := jk c1' (fun h => absurd h c2)
        refine ⟨b2, Ev.step ?_ (fun k => spec_l2Rule.l0.eq_2 ..), k2⟩
        rw [w1]
        exact Ev.pos (by omega) (Ev.pos (by omega) (Ev.bind (Ev.const e1) (Ev.pos rfl (Ev.neg (by omega) (Ev.pos (by omega) k1)))))
    · rw [decide_eq_false c1] at e1
      refine Dec.no (Ev.step ?_ (fun k => spec_l2Rule.l0.eq_2 ..)) (fun h => c1 (by have := (hall.1 h).1.1; omega))
      rw [w1]
      exact Ev.pos (by omega) (Ev.pos (by omega) (Ev.bind (Ev.const e1) (Ev.neg (by decide) jt)))
theorem rising_le {l : List Int} (h : ∀ j : Nat, j < l.length → 0 ≤ rd l (j : Int) ∧ (0 < j → rd l ((j : Int) - 1) < rd l (j : Int))) : ∀ j : Nat, j < l.length → (j : Int) ≤ rd l (j : Int) := by
  intro j
  induction j with
  | zero => intro hj; exact (h 0 hj).1
  | succ j ih =>
    intro hj
    have h1 := ih (by omega)
    have h2 := (h (j + 1) hj).2 (by omega)
    rw [show ((j + 1 : Nat) : Int) - 1 = (j : Int) by omega] at h2
    omega
theorem ruleOk_len {x : S109} {vars : Int} (hv : 0 ≤ vars) (h : RuleOk x vars) : (x.f1.length : Int) ≤ vars := by
  by_cases c : x.f1.length = 0
  · omega
  · have h1 := rising_le (l := x.f1) (fun j hj => ⟨(h.2.2 j hj).1.1, (h.2.2 j hj).2.1⟩) (x.f1.length - 1) (by omega)
    have h2 := (h.2.2 (x.f1.length - 1) (by omega)).1.2
    omega
theorem spec_rule (x : S109) (vars : Int) (hv : 0 ≤ vars ∧ vars ≤ 1048576) (hx : x.f1.length ≤ 1048576) : Dec (fun k => spec_l2Rule.f k x.f0 x.f1 x.f2 vars) (RuleOk x vars) := by
  have jt : Ev (fun k => spec_l2Rule.j0 k vars true x.f0 x.f1 x.f2) false := Ev.step (Ev.pos rfl (Ev.val _)) (fun k => spec_l2Rule.j0.eq_2 ..)
  have hk := spec_is x.f0 vars 2 (by decide)
  unfold spec_l2Rule.f
  by_cases c1 : kindL x.f0 vars = 2
  · rw [decide_eq_true c1] at hk
    by_cases c2 : x.f1.length = x.f2.length
    · by_cases c3 : (x.f1.length : Int) > vars
      · refine Dec.no (Ev.bind hk (Ev.pos rfl (Ev.pos (by omega) ?_))) (fun h => by have := ruleOk_len hv.1 h; omega)
        rw [decide_eq_true c3]
        exact jt
      · obtain ⟨b, hb, hb2⟩ := spec_rule_loop x vars hv hx c2 x.f1.length 0 (by omega)
        refine ⟨b, Ev.bind hk (Ev.pos rfl (Ev.pos (by omega) ?_)), hb2.trans ⟨fun h => ⟨c1, c2, fun j hj => h j (by omega) hj⟩, fun h j _ hj => h.2.2 j hj⟩⟩
        rw [decide_eq_false c3]
        exact Ev.step (Ev.neg (by decide) hb) (fun k => spec_l2Rule.j0.eq_2 ..)
    · exact Dec.no (Ev.bind hk (Ev.pos rfl (Ev.neg (by omega) jt))) (fun h => c2 h.2.1)
  · rw [decide_eq_false c1] at hk
    exact Dec.no (Ev.bind hk (Ev.neg (by decide) jt)) (fun h => c1 h.1)
theorem impl_rule_loop (x : S109) (vars : Int) (hv : 0 ≤ vars ∧ vars ≤ 1048576) (hx : x.f1.length ≤ 1048576) (he : x.f1.length = x.f2.length) : ∀ (d i : Nat), i + d = x.f1.length → Dec (fun k => impl_ruleOk.l0 k vars x.f1 (x.f1.length : Int) (i : Int) x.f0 x.f1 x.f2) (SetsFrom x vars i) := by
  intro d
  have w1 : wrap64 (vars - 1) = vars - 1 := w_id (by omega) (by omega)
  induction d with
  | zero =>
    intro i hi
    exact Dec.yes (Ev.step (Ev.neg (by omega) (Ev.val _)) (fun k => impl_ruleOk.l0.eq_2 ..)) (fun j h1 h2 => by omega)
  | succ d ih =>
    intro i hi
    have hwi := wsucc i (by omega)
    have w2 : wrap64 ((i : Int) - 1) = (i : Int) - 1 := w_id (by omega) (by omega)
    obtain ⟨b, hb, hb2⟩ := ih (i + 1) (by omega)
    have hall : SetsFrom x vars i ↔ ((0 ≤ rd x.f1 (i : Int) ∧ rd x.f1 (i : Int) < vars) ∧ (0 < i → rd x.f1 ((i : Int) - 1) < rd x.f1 (i : Int)) ∧ kindL (rd_L9 x.f2 (i : Int)) vars = 1) ∧ SetsFrom x vars (i + 1) := all_from (P := fun j => (0 ≤ rd x.f1 (j : Int) ∧ rd x.f1 (j : Int) < vars) ∧ (0 < j → rd x.f1 ((j : Int) - 1) < rd x.f1 (j : Int)) ∧ kindL (rd_L9 x.f2 (j : Int)) vars = 1) (i := i) (by omega)
    have jk : (0 ≤ rd x.f1 (i : Int) ∧ rd x.f1 (i : Int) < vars) → (0 < i → rd x.f1 ((i : Int) - 1) < rd x.f1 (i : Int)) → Dec (fun k => (impl_kindOf.f k (rd_L9 x.f2 (i : Int)) vars).bind fun t => if t = 1 then impl_ruleOk.l0 k vars x.f1 (x.f1.length : Int) (wrap64 ((i : Int) + 1)) x.f0 x.f1 x.f2 else some false) (SetsFrom x vars i) := by
      intro h1 h2
      rw [hwi]
      by_cases c : kindL (rd_L9 x.f2 (i : Int)) vars = 1
      · exact ⟨b, Ev.bind (impl_kindL _ vars) (Ev.pos c hb), by rw [hall, hb2]; exact ⟨fun h => ⟨⟨h1, h2, c⟩, h⟩, fun h => h.2⟩⟩
      · exact Dec.no (Ev.bind (impl_kindL _ vars) (Ev.neg c (Ev.val _))) (fun h => c (hall.1 h).1.2.2)
    have e1 : impl_in.f (rd x.f1 (i : Int)) 0 (vars - 1) = _ := in_dec (rd x.f1 (i : Int)) 0 (vars - 1)
    by_cases c1 : 0 ≤ rd x.f1 (i : Int) ∧ rd x.f1 (i : Int) ≤ vars - 1
    · rw [decide_eq_true c1] at e1
      have c1' : 0 ≤ rd x.f1 (i : Int) ∧ rd x.f1 (i : Int) < vars := by omega
      by_cases c2 : 0 < i
      · by_cases c3 : rd x.f1 ((i : Int) - 1) ≥ rd x.f1 (i : Int)
        · refine Dec.no (Ev.step ?_ (fun k => impl_ruleOk.l0.eq_2 ..)) (fun h => by have := (hall.1 h).1.2.1 c2; omega)
          rw [w1, w2]
          exact Ev.pos (by omega) (Ev.pos (by omega) (Ev.pos (by omega) (Ev.bind (Ev.const e1) (Ev.pos rfl (Ev.pos (by omega) (Ev.pos (by omega) (Ev.pos (by omega) (Ev.pos c3 (Ev.val _)))))))))
        · obtain ⟨b2, k1, k2⟩ := jk c1' (fun _ => by omega)
          refine ⟨b2, Ev.step ?_ (fun k => impl_ruleOk.l0.eq_2 ..), k2⟩
          rw [w1, w2]
          exact Ev.pos (by omega) (Ev.pos (by omega) (Ev.pos (by omega) (Ev.bind (Ev.const e1) (Ev.pos rfl (Ev.pos (by omega) (Ev.pos (by omega) (Ev.pos (by omega) (Ev.neg c3 (Ev.pos (by omega) k1)))))))))
      · obtain ⟨b2, k1, k2⟩ := jk c1' (fun h => absurd h c2)
        refine ⟨b2, Ev.step ?_ (fun k => impl_ruleOk.l0.eq_2 ..), k2⟩
        rw [w1]
        exact Ev.pos (by omega) (Ev.pos (by omega) (Ev.pos (by omega) (Ev.bind (Ev.const e1) (Ev.pos rfl (Ev.neg (by omega) (Ev.pos (by omega) k1))))))
    · rw [decide_eq_false c1] at e1
      refine Dec.no (Ev.step ?_ (fun k => impl_ruleOk.l0.eq_2 ..)) (fun h => c1 (by have := (hall.1 h).1.1; omega))
      rw [w1]
      exact Ev.pos (by omega) (Ev.pos (by omega) (Ev.pos (by omega) (Ev.bind (Ev.const e1) (Ev.neg (by decide) (Ev.val _)))))
theorem impl_rule (x : S109) (vars : Int) (hv : 0 ≤ vars ∧ vars ≤ 1048576) (hx : x.f1.length ≤ 1048576) : Dec (fun k => impl_ruleOk.f k x.f0 x.f1 x.f2 vars) (RuleOk x vars) := by
  have jt : Ev (fun k => impl_ruleOk.j0 k vars true x.f0 x.f1 x.f2) false := Ev.step (Ev.pos rfl (Ev.val _)) (fun k => impl_ruleOk.j0.eq_2 ..)
  unfold impl_ruleOk.f
  by_cases c1 : kindL x.f0 vars = 2
  · by_cases c2 : x.f1.length = x.f2.length
    · obtain ⟨b, hb, hb2⟩ := impl_rule_loop x vars hv hx c2 x.f1.length 0 (by omega)
      refine ⟨b, Ev.bind (impl_kindL _ vars) (Ev.pos c1 ?_), hb2.trans ⟨fun h => ⟨c1, c2, fun j hj => h j (by omega) hj⟩, fun h j _ hj => h.2.2 j hj⟩⟩
      rw [show ((x.f1.length : Int) != (x.f2.length : Int)) = false by simp [c2]]
      exact Ev.step (Ev.neg (by decide) hb) (fun k => impl_ruleOk.j0.eq_2 ..)
    · refine Dec.no (Ev.bind (impl_kindL _ vars) (Ev.pos c1 ?_)) (fun h => c2 h.2.1)
      rw [show ((x.f1.length : Int) != (x.f2.length : Int)) = true by simp; omega]
      exact jt
  · exact Dec.no (Ev.bind (impl_kindL _ vars) (Ev.neg c1 jt)) (fun h => c1 h.1)
/-! sizes -/
theorem size_step {vs : List S99} {i : Nat} {x : Int} (hV : VarAt vs i) (h0 : 0 ≤ x) (h1 : x ≤ 100000000000) :
    wrap64 (x * wrap64 (wrap64 ((rd_T99 vs (i : Int)).f1 - (rd_T99 vs (i : Int)).f0) + 1)) = x * ((rd_T99 vs (i : Int)).f1 - (rd_T99 vs (i : Int)).f0 + 1) ∧ 0 ≤ x * ((rd_T99 vs (i : Int)).f1 - (rd_T99 vs (i : Int)).f0 + 1) ∧ x * ((rd_T99 vs (i : Int)).f1 - (rd_T99 vs (i : Int)).f0 + 1) ≤ 20 * x := by
  obtain ⟨h2, h3, h4, h5⟩ := hV
  generalize (rd_T99 vs (i : Int)).f1 = b at h3 h4 h5 ⊢
  generalize (rd_T99 vs (i : Int)).f0 = a at h2 h3 h4 h5 ⊢
  have e : wrap64 (wrap64 (b - a) + 1) = b - a + 1 := by rw [w_id (x := b - a) (by omega) (by omega), w_id (by omega) (by omega)]
  have m0 : 0 ≤ x * (b - a + 1) := Int.mul_nonneg h0 (by omega)
  have m1 : x * (b - a + 1) ≤ x * 20 := Int.mul_le_mul_of_nonneg_left (by omega) h0
  rw [e]
  exact ⟨w_id (by omega) (by omega), m0, by omega⟩
theorem pow_next {i : Nat} {x y : Int} (hx : x ≤ 20 ^ i) (hy : y ≤ 20 * x) : y ≤ 20 ^ (i + 1) := by
  rw [Int.pow_succ]
  omega
theorem pow_le {i : Nat} (hi : i ≤ 5) : (20 : Int) ^ i ≤ 3200000 := by
  have : i = 0 ∨ i = 1 ∨ i = 2 ∨ i = 3 ∨ i = 4 ∨ i = 5 := by omega
  rcases this with rfl | rfl | rfl | rfl | rfl | rfl <;> decide
theorem impl_size_loop (vs : List S99) (hl : vs.length ≤ 5) (hV : ∀ j : Nat, j < vs.length → VarAt vs j) : ∀ (d i : Nat) (x : Int), i + d = vs.length → 0 ≤ x → x ≤ 20 ^ i → Ev (fun k => impl_size.l0 k x vs (vs.length : Int) (i : Int)) (prodRun vs d i x) := by
  intro d
  induction d with
  | zero =>
    intro i x hi h0 h1
    exact Ev.step (Ev.neg (by omega) (Ev.val _)) (fun k => impl_size.l0.eq_2 ..)
  | succ d ih =>
    intro i x hi h0 h1
    have hwi := wsucc i (by omega)
    have hp := pow_le (i := i) (by omega)
    obtain ⟨e, m0, m1⟩ := size_step (hV i (by omega)) h0 (by omega)
    refine Ev.step (Ev.pos (by omega) (Ev.pos (by omega) (Ev.pos (by omega) ?_))) (fun k => impl_size.l0.eq_2 ..)
    rw [hwi, e]
    unfold prodRun
    exact ih (i + 1) _ (by omega) m0 (pow_next h1 m1)
theorem impl_size_is (vs : List S99) (hl : vs.length ≤ 5) (hV : ∀ j : Nat, j < vs.length → VarAt vs j) : Ev (fun k => impl_size.f k vs) (prodRun vs vs.length 0 1) := by
  unfold impl_size.f
  exact impl_size_loop vs hl hV vs.length 0 1 (by omega) (by decide) (by decide)
/-! the whole -/
theorem spec_rules_loop (vs : List S99) (rs : List S109) (x : Int) (h : FewS vs rs) : ∀ (d i : Nat), i + d = rs.length → Dec (fun k => spec_SystemValid.l1 k x (i : Int) vs rs) ((∀ j : Nat, i ≤ j → j < rs.length → RuleOk (rd_T109 rs (j : Int)) (vs.length : Int)) ∧ x ≤ 400) := by
  intro d
  have h1 := h.1
  have h2 := h.2.1
  induction d with
  | zero =>
    intro i hi
    refine ⟨decide (x ≤ 400), Ev.step (Ev.neg (by omega) (Ev.val _)) (fun k => spec_SystemValid.l1.eq_2 ..), ?_⟩
    rw [decide_eq_true_eq]
    exact ⟨fun h => ⟨fun j h1 h2 => by omega, h⟩, fun h => h.2⟩
  | succ d ih =>
    intro i hi
    have hwi := wsucc i (by omega)
    obtain ⟨b, hb, hb2⟩ := spec_rule (rd_T109 rs (i : Int)) (vs.length : Int) (by omega) (h.2.2 i (by omega)).2.1
    have hall := all_from (P := fun j => RuleOk (rd_T109 rs (j : Int)) (vs.length : Int)) (i := i) (n := rs.length) (by omega)
    cases b with
    | false => exact Dec.no (Ev.step (Ev.pos (by omega) (Ev.pos (by omega) (Ev.bind hb (Ev.neg (by decide) (Ev.val _))))) (fun k => spec_SystemValid.l1.eq_2 ..)) (fun h => by simpa using hb2.2 (hall.1 h.1).1)
    | true =>
      obtain ⟨b2, k1, k2⟩ := ih (i + 1) (by omega)
      refine ⟨b2, Ev.step (Ev.pos (by omega) (Ev.pos (by omega) (Ev.bind hb (Ev.pos rfl ?_)))) (fun k => spec_SystemValid.l1.eq_2 ..), k2.trans ?_⟩
      · rw [hwi]
        exact k1
      · rw [hall]
        exact ⟨fun h => ⟨⟨hb2.1 rfl, h.1⟩, h.2⟩, fun h => ⟨h.1.2, h.2⟩⟩
theorem spec_vars_loop (vs : List S99) (rs : List S109) (h : FewS vs rs) (hl : vs.length ≤ 5) : ∀ (d i : Nat) (x : Int), i + d = vs.length → 0 ≤ x → x ≤ 20 ^ i → Dec (fun k => spec_SystemValid.l0 k x (i : Int) vs rs) ((∀ j : Nat, i ≤ j → j < vs.length → VarAt vs j) ∧ prodRun vs d i x ≤ 400 ∧ ∀ j : Nat, j < rs.length → RuleOk (rd_T109 rs (j : Int)) (vs.length : Int)) := by
  intro d
  induction d with
  | zero =>
    intro i x hi h0 h1
    obtain ⟨b, hb, hb2⟩ := spec_rules_loop vs rs x h rs.length 0 (by omega)
    refine ⟨b, Ev.step (Ev.neg (by omega) hb) (fun k => spec_SystemValid.l0.eq_2 ..), hb2.trans ⟨fun q => ⟨fun j h1 h2 => by omega, q.2, fun j hj => q.1 j (by omega) hj⟩, fun q => ⟨fun j _ hj => q.2.2 j hj, q.2.1⟩⟩⟩
  | succ d ih =>
    intro i x hi h0 h1
    have hwi := wsucc i (by omega)
    have hp := pow_le (i := i) (by omega)
    have hall := all_from (P := fun j => VarAt vs j) (i := i) (n := vs.length) (by omega)
    by_cases c : VarAt vs i
    · obtain ⟨e, m0, m1⟩ := size_step c h0 (by omega)
      obtain ⟨b, hb, hb2⟩ := ih (i + 1) _ (by omega) m0 (pow_next h1 m1)
      refine ⟨b, Ev.step (Ev.pos (by omega) (Ev.pos (by omega) (Ev.bind (Ev.const (spec_var _ _ _)) (Ev.pos (decide_eq_true c) ?_)))) (fun k => spec_SystemValid.l0.eq_2 ..), hb2.trans ?_⟩
      · rw [hwi, e]
        exact hb
      · rw [hall]
        exact ⟨fun q => ⟨⟨c, q.1⟩, q.2⟩, fun q => ⟨q.1.2, q.2⟩⟩
    · exact Dec.no (Ev.step (Ev.pos (by omega) (Ev.pos (by omega) (Ev.bind (Ev.const (spec_var _ _ _)) (Ev.neg (fun e => c (of_decide_eq_true e)) (Ev.val _))))) (fun k => spec_SystemValid.l0.eq_2 ..)) (fun q => c (hall.1 q.1).1)
theorem spec_system (vs : List S99) (rs : List S109) (h : FewS vs rs) : Dec (fun k => spec_SystemValid.f k vs rs) (SysOk vs rs) := by
  have jt : Ev (fun k => spec_SystemValid.j0 k true vs rs) false := Ev.step (Ev.pos rfl (Ev.val _)) (fun k => spec_SystemValid.j0.eq_2 ..)
  have e1 := in_dec (vs.length : Int) 1 5
  unfold spec_SystemValid.f
  by_cases c1 : 1 ≤ (vs.length : Int) ∧ (vs.length : Int) ≤ 5
  · rw [decide_eq_true c1] at e1
    by_cases c2 : (rs.length : Int) > 8
    · refine Dec.no (Ev.bind (Ev.const e1) (Ev.pos rfl ?_)) (fun q => by have := q.2.1; omega)
      rw [decide_eq_true c2]
      exact jt
    · obtain ⟨b, hb, hb2⟩ := spec_vars_loop vs rs h (by omega) vs.length 0 1 (by omega) (by decide) (by decide)
      refine ⟨b, Ev.bind (Ev.const e1) (Ev.pos rfl ?_), hb2.trans ⟨fun q => ⟨by omega, by omega, fun j hj => q.1 j (by omega) hj, q.2⟩, fun q => ⟨fun j _ hj => q.2.2.1 j hj, q.2.2.2⟩⟩⟩
      rw [decide_eq_false c2]
      exact Ev.step (Ev.neg (by decide) hb) (fun k => spec_SystemValid.j0.eq_2 ..)
  · rw [decide_eq_false c1] at e1
    exact Dec.no (Ev.bind (Ev.const e1) (Ev.neg (by decide) jt)) (fun q => c1 (by have := q.1; omega))
/-- Where it is looked for the first place of which a told thing is so. -/
theorem idx_ev {p : Nat → Int → Option Bool} {Q : Nat → Prop} (n : Nat) (hp : ∀ j : Nat, j < n → Dec (fun k => p k (j : Int)) (Q j)) : ∀ (d i : Nat), i + d = n → ∃ r, Ev (fun k => Copy.idxO (p k) d (i : Int)) r ∧ (0 ≤ r ↔ ∃ j : Nat, i ≤ j ∧ j < n ∧ Q j) := by
  intro d
  induction d with
  | zero =>
    intro i hi
    exact ⟨-1, Ev.val _, ⟨fun h => absurd h (by decide), fun ⟨j, h1, h2, _⟩ => by omega⟩⟩
  | succ d ih =>
    intro i hi
    obtain ⟨b, hb, hb2⟩ := hp i (by omega)
    cases b with
    | true => exact ⟨(i : Int), by unfold Copy.idxO; exact Ev.bind hb (Ev.pos rfl (Ev.val _)), ⟨fun _ => ⟨i, Nat.le_refl _, by omega, hb2.1 rfl⟩, fun _ => by omega⟩⟩
    | false =>
      obtain ⟨r, h1, h2⟩ := ih (i + 1) (by omega)
      refine ⟨r, by unfold Copy.idxO; exact Ev.bind hb (Ev.neg (by decide) h1), h2.trans ⟨fun ⟨j, q1, q2, q3⟩ => ⟨j, by omega, q2, q3⟩, fun ⟨j, q1, q2, q3⟩ => ⟨j, ?_, q2, q3⟩⟩⟩
      rcases Nat.lt_or_eq_of_le q1 with q | rfl
      · exact q
      · exact absurd (hb2.2 q3) (by decide)
theorem impl_system (vs : List S99) (rs : List S109) (h : FewS vs rs) : Dec (fun k => impl_SystemValid.f k vs rs) (SysOk vs rs) := by
  have e1 : impl_in.f (vs.length : Int) 1 5 = _ := in_dec (vs.length : Int) 1 5
  unfold impl_SystemValid.f
  by_cases c1 : 1 ≤ (vs.length : Int) ∧ (vs.length : Int) ≤ 5
  · rw [decide_eq_true c1] at e1
    by_cases c2 : (rs.length : Int) > 8
    · exact Dec.no (Ev.bind (Ev.const e1) (Ev.pos rfl (Ev.pos c2 (Ev.val _)))) (fun q => by have := q.2.1; omega)
    · obtain ⟨r1, k1, k2⟩ := idx_ev (p := fun _ => impl_SystemValid.p1 vs) (Q := fun j => ¬ VarAt vs j) vs.length (fun j hj => by
        refine ⟨!(decide (VarAt vs j)), Ev.const ?_, by simp⟩
        unfold impl_SystemValid.p1
        rw [impl_var]
        rfl) vs.length 0 (by omega)
      by_cases c3 : 0 ≤ r1
      · obtain ⟨j, _, j2, j3⟩ := k2.1 c3
        exact Dec.no (Ev.bind (Ev.const e1) (Ev.pos rfl (Ev.neg c2 (Ev.bind k1 (Ev.pos c3 (Ev.val _)))))) (fun q => j3 (q.2.2.1 j j2))
      · have hV : ∀ j : Nat, j < vs.length → VarAt vs j := fun j hj => Decidable.byContradiction fun hn => c3 (k2.2 ⟨j, by omega, hj, hn⟩)
        have hz := impl_size_is vs (by omega) hV
        by_cases c4 : prodRun vs vs.length 0 1 > 400
        · exact Dec.no (Ev.bind (Ev.const e1) (Ev.pos rfl (Ev.neg c2 (Ev.bind k1 (Ev.neg c3 (Ev.bind hz (Ev.pos c4 (Ev.val _)))))))) (fun q => by have := q.2.2.2.1; omega)
        · have h1 := h.1
          obtain ⟨r2, g1, g2⟩ := idx_ev (p := fun k => impl_SystemValid.p2 k vs rs) (Q := fun j => ¬ RuleOk (rd_T109 rs (j : Int)) (vs.length : Int)) rs.length (fun j hj => by
            obtain ⟨b, hb, hb2⟩ := impl_rule (rd_T109 rs (j : Int)) (vs.length : Int) (by omega) (h.2.2 j hj).2.1
            refine ⟨!b, ?_, by rw [Bool.not_eq_true', ← hb2, Bool.not_eq_true]⟩
            unfold impl_SystemValid.p2
            exact Ev.bind hb (Ev.val _)) rs.length 0 (by omega)
          refine ⟨!(decide (0 ≤ r2)), Ev.bind (Ev.const e1) (Ev.pos rfl (Ev.neg c2 (Ev.bind k1 (Ev.neg c3 (Ev.bind hz (Ev.neg c4 (Ev.bind g1 (Ev.val _)))))))), ?_⟩
          rw [Bool.not_eq_true', decide_eq_false_iff_not, g2]
          constructor
          · intro q
            exact ⟨by omega, by omega, hV, by omega, fun j hj => Classical.byContradiction fun hn => q ⟨j, by omega, hj, hn⟩⟩
          · rintro q ⟨j, _, j2, j3⟩
            exact j3 (q.2.2.2.2 j j2)
  · rw [decide_eq_false c1] at e1
    exact Dec.no (Ev.bind (Ev.const e1) (Ev.neg (by decide) (Ev.val _))) (fun q => c1 (by have := q.1; omega))

def UpFrom (l : List Int) (n : Int) (i : Nat) : Prop := ∀ j : Nat, i ≤ j → j < l.length → (0 ≤ rd l (j : Int) ∧ rd l (j : Int) < n) ∧ (0 < j → rd l ((j : Int) - 1) < rd l (j : Int))
theorem spec_up_loop (vs : List S99) (rs : List S109) (hF : FewS vs rs) (l : List Int) (hl : l.length ≤ 1048576) : ∀ (d i : Nat), i + d = l.length → Dec (fun k => spec_RulesSet.l0 k l (i : Int) vs rs) (UpFrom l (rs.length : Int) i ∧ SysOk vs rs) := by
  intro d
  have hr := hF.2.1
  have w1 : wrap64 ((rs.length : Int) - 1) = (rs.length : Int) - 1 := w_id (by omega) (by omega)
  induction d with
  | zero =>
    intro i hi
    obtain ⟨b, hb, hb2⟩ := spec_system vs rs hF
    exact ⟨b, Ev.step (Ev.neg (by omega) (Ev.bind hb (Ev.val _))) (fun k => spec_RulesSet.l0.eq_2 ..), hb2.trans ⟨fun h => ⟨fun j h1 h2 => by omega, h⟩, fun h => h.2⟩⟩
  | succ d ih =>
    intro i hi
    have hwi := wsucc i (by omega)
    have w2 : wrap64 ((i : Int) - 1) = (i : Int) - 1 := w_id (by omega) (by omega)
    obtain ⟨b, hb, hb2⟩ := ih (i + 1) (by omega)
    have hall : UpFrom l (rs.length : Int) i ↔ ((0 ≤ rd l (i : Int) ∧ rd l (i : Int) < (rs.length : Int)) ∧ (0 < i → rd l ((i : Int) - 1) < rd l (i : Int))) ∧ UpFrom l (rs.length : Int) (i + 1) := all_from (P := fun j => (0 ≤ rd l (j : Int) ∧ rd l (j : Int) < (rs.length : Int)) ∧ (0 < j → rd l ((j : Int) - 1) < rd l (j : Int))) (i := i) (by omega)
    have e1 := in_dec (rd l (i : Int)) 0 ((rs.length : Int) - 1)
    by_cases c1 : 0 ≤ rd l (i : Int) ∧ rd l (i : Int) ≤ (rs.length : Int) - 1
    · rw [decide_eq_true c1] at e1
      by_cases c2 : 0 < i
      · by_cases c3 : rd l (i : Int) ≤ rd l ((i : Int) - 1)
        · refine Dec.no (Ev.step ?_ (fun k => spec_RulesSet.l0.eq_2 ..)) (fun h => by have := (hall.1 h.1).1.2 c2; omega)
          rw [w1, w2]
          exact Ev.pos (by omega) (Ev.pos (by omega) (Ev.bind (Ev.const e1) (Ev.pos rfl (Ev.pos (by omega) (Ev.pos (by omega) (Ev.pos (by omega) (Ev.pos c3 (Ev.val _))))))))
        · refine ⟨b, Ev.step ?_ (fun k => spec_RulesSet.l0.eq_2 ..), hb2.trans ?_⟩
          · rw [w1, w2, hwi]
            exact Ev.pos (by omega) (Ev.pos (by omega) (Ev.bind (Ev.const e1) (Ev.pos rfl (Ev.pos (by omega) (Ev.pos (by omega) (Ev.pos (by omega) (Ev.neg c3 hb)))))))
          · rw [hall]
            exact ⟨fun h => ⟨⟨⟨by omega, fun _ => by omega⟩, h.1⟩, h.2⟩, fun h => ⟨h.1.2, h.2⟩⟩
      · refine ⟨b, Ev.step ?_ (fun k => spec_RulesSet.l0.eq_2 ..), hb2.trans ?_⟩
        · rw [w1, hwi]
          exact Ev.pos (by omega) (Ev.pos (by omega) (Ev.bind (Ev.const e1) (Ev.pos rfl (Ev.neg (by omega) hb))))
        · rw [hall]
          exact ⟨fun h => ⟨⟨⟨by omega, fun h => absurd h c2⟩, h.1⟩, h.2⟩, fun h => ⟨h.1.2, h.2⟩⟩
    · rw [decide_eq_false c1] at e1
      refine Dec.no (Ev.step ?_ (fun k => spec_RulesSet.l0.eq_2 ..)) (fun h => c1 (by have := (hall.1 h.1).1.1; omega))
      rw [w1]
      exact Ev.pos (by omega) (Ev.pos (by omega) (Ev.bind (Ev.const e1) (Ev.neg (by decide) (Ev.val _))))
theorem impl_up_loop (n : Nat) (hn : n ≤ 1048576) (l : List Int) (hl : l.length ≤ 1048576) : ∀ (d i : Nat), i + d = l.length → Dec (fun k => impl_setOk.l0 k l (n : Int) l (l.length : Int) (i : Int)) (UpFrom l (n : Int) i) := by
  intro d
  have w1 : wrap64 ((n : Int) - 1) = (n : Int) - 1 := w_id (by omega) (by omega)
  induction d with
  | zero =>
    intro i hi
    exact Dec.yes (Ev.step (Ev.neg (by omega) (Ev.val _)) (fun k => impl_setOk.l0.eq_2 ..)) (fun j h1 h2 => by omega)
  | succ d ih =>
    intro i hi
    have hwi := wsucc i (by omega)
    have w2 : wrap64 ((i : Int) - 1) = (i : Int) - 1 := w_id (by omega) (by omega)
    obtain ⟨b, hb, hb2⟩ := ih (i + 1) (by omega)
    have hall : UpFrom l (n : Int) i ↔ ((0 ≤ rd l (i : Int) ∧ rd l (i : Int) < (n : Int)) ∧ (0 < i → rd l ((i : Int) - 1) < rd l (i : Int))) ∧ UpFrom l (n : Int) (i + 1) := all_from (P := fun j => (0 ≤ rd l (j : Int) ∧ rd l (j : Int) < (n : Int)) ∧ (0 < j → rd l ((j : Int) - 1) < rd l (j : Int))) (i := i) (by omega)
    have e1 : impl_in.f (rd l (i : Int)) 0 ((n : Int) - 1) = _ := in_dec (rd l (i : Int)) 0 ((n : Int) - 1)
    by_cases c1 : 0 ≤ rd l (i : Int) ∧ rd l (i : Int) ≤ (n : Int) - 1
    · rw [decide_eq_true c1] at e1
      by_cases c2 : 0 < i
      · by_cases c3 : rd l ((i : Int) - 1) ≥ rd l (i : Int)
        · refine Dec.no (Ev.step ?_ (fun k => impl_setOk.l0.eq_2 ..)) (fun h => by have := (hall.1 h).1.2 c2; omega)
          rw [w1, w2]
          exact Ev.pos (by omega) (Ev.pos (by omega) (Ev.pos (by omega) (Ev.bind (Ev.const e1) (Ev.pos rfl (Ev.pos (by omega) (Ev.pos (by omega) (Ev.pos (by omega) (Ev.pos c3 (Ev.val _)))))))))
        · refine ⟨b, Ev.step ?_ (fun k => impl_setOk.l0.eq_2 ..), hb2.trans ?_⟩
          · rw [w1, w2, hwi]
            exact Ev.pos (by omega) (Ev.pos (by omega) (Ev.pos (by omega) (Ev.bind (Ev.const e1) (Ev.pos rfl (Ev.pos (by omega) (Ev.pos (by omega) (Ev.pos (by omega) (Ev.neg c3 hb))))))))
          · rw [hall]
            exact ⟨fun h => ⟨⟨by omega, fun _ => by omega⟩, h⟩, fun h => h.2⟩
      · refine ⟨b, Ev.step ?_ (fun k => impl_setOk.l0.eq_2 ..), hb2.trans ?_⟩
        · rw [w1, hwi]
          exact Ev.pos (by omega) (Ev.pos (by omega) (Ev.pos (by omega) (Ev.bind (Ev.const e1) (Ev.pos rfl (Ev.neg (by omega) hb)))))
        · rw [hall]
          exact ⟨fun h => ⟨⟨by omega, fun h => absurd h c2⟩, h⟩, fun h => h.2⟩
    · rw [decide_eq_false c1] at e1
      refine Dec.no (Ev.step ?_ (fun k => impl_setOk.l0.eq_2 ..)) (fun h => c1 (by have := (hall.1 h).1.1; omega))
      rw [w1]
      exact Ev.pos (by omega) (Ev.pos (by omega) (Ev.pos (by omega) (Ev.bind (Ev.const e1) (Ev.neg (by decide) (Ev.val _)))))
theorem spec_rulesset (vs : List S99) (rs : List S109) (hF : FewS vs rs) (l : List Int) (hl : l.length ≤ 1048576) : Dec (fun k => spec_RulesSet.f k vs rs l) (UpFrom l (rs.length : Int) 0 ∧ SysOk vs rs) := by
  unfold spec_RulesSet.f
  exact spec_up_loop vs rs hF l hl l.length 0 (by omega)
theorem impl_rulesset (vs : List S99) (rs : List S109) (hF : FewS vs rs) (l : List Int) (hl : l.length ≤ 1048576) : Dec (fun k => impl_RulesSet.f k vs rs l) (UpFrom l (rs.length : Int) 0 ∧ SysOk vs rs) := by
  unfold impl_RulesSet.f
  obtain ⟨b, hb, hb2⟩ := impl_system vs rs hF
  cases b with
  | false => exact Dec.no (Ev.bind hb (Ev.neg (by decide) (Ev.val _))) (fun h => by simpa using hb2.2 h.2)
  | true =>
    obtain ⟨c, k1, k2⟩ := impl_up_loop rs.length hF.2.1 l hl l.length 0 (by omega)
    refine ⟨c, Ev.bind hb (Ev.pos rfl (Ev.bind ?_ (Ev.val _))), k2.trans ⟨fun h => ⟨h, hb2.1 rfl⟩, fun h => h.1⟩⟩
    unfold impl_rulesOk.f impl_setOk.f
    exact Ev.bind k1 (Ev.val _)
theorem FnExactRulesSet : laws_FnExactRulesSet.Pure := by
  intro vs rs l hv hr _
  apply Ev.get
  unfold laws_FnExactRulesSet.f
  by_cases hb : (l.length : Int) > 1048576
  · exact Ev.pos hb (Ev.val _)
  refine Ev.neg hb ?_
  obtain ⟨z, hz, hz2⟩ := sz_lsystem vs rs hv.1 ⟨hr.1, fun x hx => ⟨(hr.2 x hx).1.1, (hr.2 x hx).2.1.1, (hr.2 x hx).2.2.1, fun y hy => ((hr.2 x hx).2.2.2 y hy).1⟩⟩
  refine Ev.bind hz ?_
  by_cases c : z < 0
  · exact Ev.pos c (Ev.val _)
  refine Ev.neg c ?_
  obtain ⟨g1, g2, g3⟩ := hz2 (by omega)
  obtain ⟨⟨us, ts⟩, ht, hF⟩ := to_lsystem vs rs g1 g2 g3
  have hl : l.length ≤ 1048576 := by omega
  have tl := to_ints l hl
  obtain ⟨b, h1, h2, _⟩ := Dec.same (spec_rulesset us ts hF l hl) (impl_rulesset us ts hF l hl)
  exact Ev.bind ht (Ev.bind tl (Ev.bind h1 (Ev.bind ht (Ev.bind tl (Ev.bind h2 (Ev.neg (by simp) (Ev.bind ht (Ev.bind (eq_lsystem us ts hF) (Ev.pos rfl (Ev.bind tl (Ev.bind (eq_ints l hl) (Ev.pos rfl (Ev.val _)))))))))))))

end Go.Proofs.Ytpfkgmcbogcmoaa.Pure
