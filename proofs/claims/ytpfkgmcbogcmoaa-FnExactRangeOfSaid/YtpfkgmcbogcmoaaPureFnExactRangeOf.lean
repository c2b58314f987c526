/- FnExactRangeOf: impl.RangeOf and spec.RangeOf return the same for all arguments, and the arguments read as before; for every input. -/
import Derived.Test.YtpfkgmcbogcmoaaQFnExactRangeOfx13
namespace Go.Proofs.Ytpfkgmcbogcmoaa.Pure
open Go.RowKit Go.Proofs.Ytpfkgmcbogcmoaa.QFnExactRangeOf Go.Proofs.YtpfkgmcbogcmoaaW.PrintWords Go.Proofs.YtpfkgmcbogcmoaaW.PrintLast Go.Proofs.YtpfkgmcbogcmoaaW.PrintMore
set_option linter.unusedVariables false
set_option linter.unusedSimpArgs false

/-! #### rounds -/
/-- From some number of rounds on, g tells r. -/
def Ev {α : Type} (g : Nat → Option α) (r : α) : Prop := ∃ K, ∀ k, K ≤ k → g k = some r
theorem Ev.val {α : Type} (r : α) : Ev (fun _ => some r) r := ⟨0, fun _ _ => rfl⟩
theorem Ev.valEq {α : Type} {r r' : α} (h : r = r') : Ev (fun _ => some r) r' := ⟨0, fun _ _ => by rw [h]⟩
theorem Ev.const {α : Type} {g : Option α} {r : α} (h : g = some r) : Ev (fun _ => g) r := ⟨0, fun _ _ => h⟩
theorem Ev.bind {α β : Type} {g : Nat → Option α} {f : Nat → α → Option β} {a : α} {b : β} (h : Ev g a) (h2 : Ev (fun k => f k a) b) : Ev (fun k => (g k).bind (f k)) b := by
  obtain ⟨K, hK⟩ := h
  obtain ⟨L, hL⟩ := h2
  exact ⟨max K L, fun k hk => by show (g k).bind (f k) = _; rw [hK k (by omega)]; exact hL k (by omega)⟩
theorem Ev.step {α : Type} {g g' : Nat → Option α} {r : α} (h : Ev g' r) (e : ∀ k, g (k + 1) = g' k) : Ev g r := by
  obtain ⟨K, hK⟩ := h
  exact ⟨K + 1, fun k hk => by
    obtain ⟨m, rfl⟩ : ∃ m, k = m + 1 := ⟨k - 1, by omega⟩
    rw [e]
    exact hK m (by omega)⟩
theorem Ev.pos {α : Type} {c : Prop} [Decidable c] {g g' : Nat → Option α} {r : α} (hc : c) (h : Ev g r) : Ev (fun k => if c then g k else g' k) r := by
  obtain ⟨K, hK⟩ := h
  exact ⟨K, fun k hk => by simp only [if_pos hc]; exact hK k hk⟩
theorem Ev.neg {α : Type} {c : Prop} [Decidable c] {g g' : Nat → Option α} {r : α} (hc : ¬ c) (h : Ev g' r) : Ev (fun k => if c then g k else g' k) r := by
  obtain ⟨K, hK⟩ := h
  exact ⟨K, fun k hk => by simp only [if_neg hc]; exact hK k hk⟩
theorem Ev.get {α : Type} {g : Nat → Option α} {r : α} (h : Ev g r) : ∃ k, g k = some r := by
  obtain ⟨K, hK⟩ := h
  exact ⟨K, hK K (Nat.le_refl _)⟩
theorem Ev.to {α : Type} {g : Nat → Option α} {r r' : α} (h : Ev g r) (e : r = r') : Ev g r' := e ▸ h
/-! #### numbers -/
theorem w_id {x : Int} (h0 : -9223372036854775808 ≤ x) (h1 : x ≤ 9223372036854775807) : wrap64 x = x := by
  unfold wrap64
  omega
/-! #### lists -/
theorem rd_nat (l : List Int) (i : Nat) : rd l (i : Int) = l.getD i 0 := by
  unfold rd
  rw [Int.toNat_natCast]
theorem getD_lt {α : Type} {l : List α} {i : Nat} (h : i < l.length) (d : α) : l.getD i d = l[i] := by
  rw [List.getD_eq_getElem?_getD, List.getElem?_eq_getElem h]
  rfl
theorem rd_lt {l : List Int} {i : Nat} (h : i < l.length) : rd l (i : Int) = l[i] := by rw [rd_nat, getD_lt h]
theorem rd_set_eq {l : List Int} {i : Nat} {v : Int} (h : i < l.length) : rd (l.set i v) (i : Int) = v := by
  rw [rd_lt (by simpa using h)]
  simp
theorem rd_set_ne {l : List Int} {i j : Nat} {v : Int} (h : i ≠ j) : rd (l.set i v) (j : Int) = rd l (j : Int) := by
  rw [rd_nat, rd_nat, List.getD_eq_getElem?_getD, List.getD_eq_getElem?_getD, List.getElem?_set_ne h]
theorem rd_app_lt {l m : List Int} {j : Nat} (h : j < l.length) : rd (l ++ m) (j : Int) = rd l (j : Int) := by
  rw [rd_nat, rd_nat, List.getD_eq_getElem?_getD, List.getD_eq_getElem?_getD, List.getElem?_append_left h]
theorem rd_app_eq {l : List Int} {v : Int} : rd (l ++ [v]) (l.length : Int) = v := by
  rw [rd_nat, List.getD_eq_getElem?_getD, List.getElem?_append_right (Nat.le_refl _)]
  simp
theorem list_eq_rd {l m : List Int} (hl : l.length = m.length) (h : ∀ j : Nat, j < l.length → rd l (j : Int) = rd m (j : Int)) : l = m := by
  apply List.ext_getElem hl
  intro i h1 h2
  rw [← rd_lt h1, ← rd_lt h2]
  exact h i h1
theorem wsucc (i : Nat) (h : i ≤ 4611686018427387904) : wrap64 ((i : Int) + 1) = ((i + 1 : Nat) : Int) := by
  unfold wrap64
  omega
/-- g tells in the end whether p is so. -/
def Dec (g : Nat → Option Bool) (p : Prop) : Prop := ∃ b, Ev g b ∧ (b = true ↔ p)
theorem Dec.yes {g : Nat → Option Bool} {p : Prop} (h : Ev g true) (hp : p) : Dec g p := ⟨true, h, by simp [hp]⟩
theorem Dec.no {g : Nat → Option Bool} {p : Prop} (h : Ev g false) (hp : ¬ p) : Dec g p := ⟨false, h, by simp [hp]⟩
theorem Dec.iff {g : Nat → Option Bool} {p q : Prop} (h : Dec g p) (e : p ↔ q) : Dec g q := by
  obtain ⟨b, h1, h2⟩ := h
  exact ⟨b, h1, h2.trans e⟩
theorem all_from {P : Nat → Prop} {i n : Nat} (hi : i < n) : (∀ j, i ≤ j → j < n → P j) ↔ P i ∧ ∀ j, i + 1 ≤ j → j < n → P j := by
  constructor
  · intro h
    exact ⟨h i (Nat.le_refl _) hi, fun j h1 h2 => h j (by omega) h2⟩
  · rintro ⟨h1, h2⟩ j h3 h4
    rcases Nat.lt_or_eq_of_le h3 with h | rfl
    · exact h2 j h h4
    · exact h1
/-! #### terms: their kinds -/
/-- An operation that fits the terms ahead of it. -/
def OpOk (f0 f1 f2 f3 : Int) (ks : List Int) : Prop := (2 ≤ f0 ∧ f0 ≤ 9) ∧ f1 = 0 ∧ (0 ≤ f2 ∧ f2 < (ks.length : Int)) ∧ (0 ≤ f3 ∧ f3 < (ks.length : Int)) ∧ rd ks f2 = (if f0 ≥ 7 then 2 else 1) ∧ rd ks f3 = (if f0 ≥ 7 then 2 else 1) ∧ (f0 = 7 → f3 = f2)
instance (f0 f1 f2 f3 : Int) (ks : List Int) : Decidable (OpOk f0 f1 f2 f3 ks) := by unfold OpOk; infer_instance
/-- What kind a term is of among those ahead of it; 0: none. -/
def kindAt (t : S73) (ks : List Int) (vars : Int) : Int :=
  if t.f0 = 0 then (if (-9999 ≤ t.f1 ∧ t.f1 ≤ 9999) ∧ t.f2 = 0 ∧ t.f3 = 0 then 1 else 0)
  else if t.f0 = 1 then (if (0 ≤ t.f1 ∧ t.f1 < vars) ∧ t.f2 = 0 ∧ t.f3 = 0 then 1 else 0)
  else if OpOk t.f0 t.f1 t.f2 t.f3 ks then (if t.f0 ≥ 5 then 2 else 1) else 0
/-- The kinds of terms from place i on; nothing if one has none. -/
def kindsRun (l : List S73) (vars : Int) : Nat → Nat → List Int → List Int
  | 0, _, ks => ks
  | d + 1, i, ks => if kindAt (rd_T73 l (i : Int)) ks vars = 0 then [] else kindsRun l vars d (i + 1) (ks ++ [kindAt (rd_T73 l (i : Int)) ks vars])
def kindsL (l : List S73) (vars : Int) : List Int := if (0 ≤ vars ∧ vars ≤ 5) ∧ (1 ≤ l.length ∧ l.length ≤ 40) then kindsRun l vars l.length 0 [] else []
/-- These are the kinds of terms. -/
def Typed (l : List S73) (vars : Int) (ks : List Int) : Prop := ks.length = l.length ∧ ∀ j : Nat, j < l.length → kindAt (rd_T73 l (j : Int)) (ks.take j) vars = rd ks (j : Int) ∧ rd ks (j : Int) ≠ 0
theorem in_dec (x a b : Int) : spec_l1In.f x a b = some (decide (a ≤ x ∧ x ≤ b)) := by
  unfold spec_l1In.f
  by_cases h : x ≥ a
  · rw [if_pos h]
    congr 1
    simp only [decide_eq_decide]
    omega
  · rw [if_neg h]
    congr 1
    symm
    rw [decide_eq_false_iff_not]
    omega
theorem in_yes {x a b : Int} (h : a ≤ x ∧ x ≤ b) : spec_l1In.f x a b = some true := by rw [in_dec, decide_eq_true h]
theorem in_no {x a b : Int} (h : ¬ (a ≤ x ∧ x ≤ b)) : spec_l1In.f x a b = some false := by rw [in_dec, decide_eq_false h]
theorem iin_yes {x a b : Int} (h : a ≤ x ∧ x ≤ b) : impl_in.f x a b = some true := in_yes h
theorem iin_no {x a b : Int} (h : ¬ (a ≤ x ∧ x ≤ b)) : impl_in.f x a b = some false := in_no h
theorem spec_kind (t : S73) (ks : List Int) (vars : Int) (hk : ks.length ≤ 100000) (hv : -100 ≤ vars ∧ vars ≤ 100) : Ev (fun k => spec_l1Kind.f k t.f0 t.f1 t.f2 t.f3 ks vars) (kindAt t ks vars) := by
  obtain ⟨f0, f1, f2, f3⟩ := t
  have w1 : wrap64 (vars - 1) = vars - 1 := w_id (by omega) (by omega)
  have w2 : wrap64 ((ks.length : Int) - 1) = (ks.length : Int) - 1 := w_id (by omega) (by omega)
  have j4 : ∀ b : Bool, Ev (fun k => spec_l1Kind.j4 k b f0 f1 f2 f3) (if b = true then 0 else if f0 ≥ 5 then 2 else 1) := by
    intro b
    refine Ev.step ?_ (fun k => spec_l1Kind.j4.eq_2 ..)
    by_cases hb : b = true
    · exact (Ev.pos hb (Ev.val _)).to (by rw [if_pos hb])
    · by_cases h5 : f0 ≥ 5
      · exact (Ev.neg hb (Ev.pos h5 (Ev.val _))).to (by rw [if_neg hb, if_pos h5])
      · exact (Ev.neg hb (Ev.neg h5 (Ev.val _))).to (by rw [if_neg hb, if_neg h5])
  have j3 : ∀ want : Int, 0 ≤ f2 ∧ f2 < ks.length → 0 ≤ f3 ∧ f3 < ks.length → Ev (fun k => spec_l1Kind.j3 k ks want f0 f1 f2 f3) (if rd ks f2 = want ∧ rd ks f3 = want ∧ (f0 = 7 → f3 = f2) then (if f0 ≥ 5 then 2 else 1) else 0) := by
    intro want h2 h3
    refine Ev.step ?_ (fun k => spec_l1Kind.j3.eq_2 ..)
    refine Ev.pos h2.1 (Ev.pos h2.2 ?_)
    by_cases c1 : rd ks f2 = want
    · refine Ev.pos c1 (Ev.pos h3.1 (Ev.pos h3.2 ?_))
      by_cases c2 : rd ks f3 = want
      · refine Ev.pos c2 (Ev.bind (a := f0 == 7) (Ev.const (by unfold spec_l1One.f; rfl)) ?_)
        by_cases c3 : f0 = 7
        · refine Ev.pos (by simpa using c3) ((j4 (f3 != f2)).to ?_)
          by_cases c4 : f3 = f2
          · rw [if_neg (by simp [c4]), if_pos (c := rd ks f2 = want ∧ rd ks f3 = want ∧ (f0 = 7 → f3 = f2)) ⟨c1, c2, fun _ => c4⟩]
          · rw [if_pos (by simp [c4]), if_neg (by rintro ⟨_, _, h⟩; exact c4 (h c3))]
        · refine Ev.neg (by simpa using c3) ((j4 false).to ?_)
          rw [if_neg (by decide), if_pos (c := rd ks f2 = want ∧ rd ks f3 = want ∧ (f0 = 7 → f3 = f2)) ⟨c1, c2, fun h => absurd h c3⟩]
      · refine Ev.neg c2 ((j4 true).to ?_)
        rw [if_pos rfl, if_neg (by rintro ⟨_, h, _⟩; exact c2 h)]
    · refine Ev.neg c1 ((j4 true).to ?_)
      rw [if_pos rfl, if_neg (by rintro ⟨h, _⟩; exact c1 h)]
  have j2 : ∀ b : Bool, (b = false → (0 ≤ f2 ∧ f2 < ks.length) ∧ (0 ≤ f3 ∧ f3 < ks.length)) → Ev (fun k => spec_l1Kind.j2 k ks b f0 f1 f2 f3) (if b = true then 0 else if rd ks f2 = (if f0 ≥ 7 then 2 else 1) ∧ rd ks f3 = (if f0 ≥ 7 then 2 else 1) ∧ (f0 = 7 → f3 = f2) then (if f0 ≥ 5 then 2 else 1) else 0) := by
    intro b hb
    refine Ev.step ?_ (fun k => spec_l1Kind.j2.eq_2 ..)
    cases b with
    | true => exact Ev.pos rfl (Ev.val _)
    | false =>
      obtain ⟨h2, h3⟩ := hb rfl
      refine Ev.neg (by decide) ?_
      rw [if_neg (by decide)]
      by_cases h7 : f0 ≥ 7
      · rw [if_pos h7]
        exact Ev.pos h7 (j3 2 h2 h3)
      · rw [if_neg h7]
        exact Ev.neg h7 (j3 1 h2 h3)
  have j1 : f0 ≠ 0 → f0 ≠ 1 → Ev (fun k => spec_l1Kind.j1 k ks false f0 f1 f2 f3) (kindAt ⟨f0, f1, f2, f3⟩ ks vars) := by
    intro n0 n1
    refine Ev.step ?_ (fun k => spec_l1Kind.j1.eq_2 ..)
    rw [w2]
    unfold kindAt
    dsimp only
    rw [if_neg n0, if_neg n1]
    refine Ev.neg (by decide) (Ev.bind (Ev.const (in_dec _ _ _)) ?_)
    by_cases a1 : 2 ≤ f0 ∧ f0 ≤ 9
    · refine Ev.pos (by simpa using a1) ?_
      by_cases a2 : f1 = 0
      · refine Ev.pos a2 (Ev.bind (Ev.const (in_dec _ _ _)) ?_)
        by_cases a3 : 0 ≤ f2 ∧ f2 ≤ (ks.length : Int) - 1
        · refine Ev.pos (by simpa using a3) (Ev.bind (Ev.const (in_dec _ _ _)) ?_)
          by_cases a4 : 0 ≤ f3 ∧ f3 ≤ (ks.length : Int) - 1
          · rw [decide_eq_true a4]
            refine (j2 (!true) (fun _ => ⟨by omega, by omega⟩)).to ?_
            rw [if_neg (by decide)]
            by_cases a5 : rd ks f2 = (if f0 ≥ 7 then 2 else 1) ∧ rd ks f3 = (if f0 ≥ 7 then 2 else 1) ∧ (f0 = 7 → f3 = f2)
            · rw [if_pos a5, if_pos (c := OpOk f0 f1 f2 f3 ks) ⟨a1, a2, by omega, by omega, a5⟩]
            · rw [if_neg a5, if_neg (c := OpOk f0 f1 f2 f3 ks) (fun h => a5 h.2.2.2.2)]
          · rw [decide_eq_false a4]
            refine (j2 (!false) (fun h => by cases h)).to ?_
            rw [if_pos (by decide), if_neg (c := OpOk f0 f1 f2 f3 ks) (fun h => a4 (by have := h.2.2.2.1; omega))]
        · refine Ev.neg (by simpa using a3) ((j2 true (fun h => by cases h)).to ?_)
          rw [if_pos (by decide), if_neg (c := OpOk f0 f1 f2 f3 ks) (fun h => a3 (by have := h.2.2.1; omega))]
      · refine Ev.neg a2 ((j2 true (fun h => by cases h)).to ?_)
        rw [if_pos (by decide), if_neg (c := OpOk f0 f1 f2 f3 ks) (fun h => a2 h.2.1)]
    · refine Ev.neg (by simpa using a1) ((j2 true (fun h => by cases h)).to ?_)
      rw [if_pos (by decide), if_neg (c := OpOk f0 f1 f2 f3 ks) (fun h => a1 h.1)]
  have j1t : Ev (fun k => spec_l1Kind.j1 k ks true f0 f1 f2 f3) 1 := Ev.step (Ev.pos rfl (Ev.val _)) (fun k => spec_l1Kind.j1.eq_2 ..)
  have j1z : f0 = 0 ∨ f0 = 1 → Ev (fun k => spec_l1Kind.j1 k ks false f0 f1 f2 f3) 0 := by
    intro h
    refine Ev.step ?_ (fun k => spec_l1Kind.j1.eq_2 ..)
    refine Ev.neg (by decide) (Ev.bind (Ev.const (in_no (by omega))) (Ev.neg (by decide) ((j2 true (fun h => by cases h)).to (by rw [if_pos rfl]))))
  have j0t : Ev (fun k => spec_l1Kind.j0 k ks vars true f0 f1 f2 f3) 1 := Ev.step (Ev.pos rfl (Ev.val _)) (fun k => spec_l1Kind.j0.eq_2 ..)
  have j0f : f0 ≠ 0 → Ev (fun k => spec_l1Kind.j0 k ks vars false f0 f1 f2 f3) (kindAt ⟨f0, f1, f2, f3⟩ ks vars) := by
    intro n0
    refine Ev.step ?_ (fun k => spec_l1Kind.j0.eq_2 ..)
    rw [w1]
    by_cases c1 : f0 = 1
    · refine Ev.neg (by decide) (Ev.pos c1 (Ev.bind (Ev.const (in_dec _ _ _)) ?_))
      unfold kindAt
      dsimp only
      rw [if_neg n0, if_pos c1]
      by_cases c2 : 0 ≤ f1 ∧ f1 ≤ vars - 1
      · refine Ev.pos (by simpa using c2) ?_
        by_cases c3 : f2 = 0
        · refine Ev.pos c3 ?_
          by_cases c4 : f3 = 0
          · rw [if_pos (c := (0 ≤ f1 ∧ f1 < vars) ∧ f2 = 0 ∧ f3 = 0) ⟨by omega, c3, c4⟩, show (f3 == 0) = true by simp [c4]]
            exact j1t
          · rw [if_neg (fun h => c4 h.2.2), show (f3 == 0) = false by simp [c4]]
            exact j1z (.inr c1)
        · rw [if_neg (fun h => c3 h.2.1)]
          exact Ev.neg c3 (j1z (.inr c1))
      · rw [if_neg (c := (0 ≤ f1 ∧ f1 < vars) ∧ f2 = 0 ∧ f3 = 0) (fun h => c2 (by have := h.1; omega))]
        exact Ev.neg (by simpa using c2) (j1z (.inr c1))
    · exact Ev.neg (by decide) (Ev.neg c1 (j1 n0 c1))
  have j0z : f0 = 0 → Ev (fun k => spec_l1Kind.j0 k ks vars false f0 f1 f2 f3) 0 := by
    intro h
    refine Ev.step ?_ (fun k => spec_l1Kind.j0.eq_2 ..)
    exact Ev.neg (by decide) (Ev.neg (by omega) (j1z (.inl h)))
  unfold spec_l1Kind.f
  by_cases c0 : f0 = 0
  · refine Ev.pos c0 (Ev.bind (Ev.const (in_dec _ _ _)) ?_)
    unfold kindAt
    dsimp only
    rw [if_pos c0]
    by_cases c2 : -9999 ≤ f1 ∧ f1 ≤ 9999
    · refine Ev.pos (by simpa using c2) ?_
      by_cases c3 : f2 = 0
      · refine Ev.pos c3 ?_
        by_cases c4 : f3 = 0
        · rw [if_pos ⟨c2, c3, c4⟩, show (f3 == 0) = true by simp [c4]]
          exact j0t
        · rw [if_neg (fun h => c4 h.2.2), show (f3 == 0) = false by simp [c4]]
          exact j0z c0
      · rw [if_neg (fun h => c3 h.2.1)]
        exact Ev.neg c3 (j0z c0)
    · rw [if_neg (fun h => c2 h.1)]
      exact Ev.neg (by simpa using c2) (j0z c0)
  · exact Ev.neg c0 (j0f c0)
theorem spec_kinds_loop (l : List S73) (vars : Int) (hl : l.length ≤ 40) (hv : 0 ≤ vars ∧ vars ≤ 5) : ∀ (d i : Nat) (ks : List Int), i + d = l.length → ks.length = i → Ev (fun k => spec_KindsOf.l0 k l vars ks (i : Int)) (kindsRun l vars d i ks) := by
  intro d
  induction d with
  | zero =>
    intro i ks hi hk
    exact Ev.step (Ev.neg (by omega) (Ev.val _)) (fun k => spec_KindsOf.l0.eq_2 ..)
  | succ d ih =>
    intro i ks hi hk
    have hwi := wsucc i (by omega)
    refine Ev.step (Ev.pos (by omega) (Ev.pos (by omega) (Ev.bind (spec_kind (rd_T73 l (i : Int)) ks vars (by omega) (by omega)) ?_))) (fun k => spec_KindsOf.l0.eq_2 ..)
    unfold kindsRun
    by_cases h0 : kindAt (rd_T73 l (i : Int)) ks vars = 0
    · rw [if_pos h0]
      exact Ev.pos h0 (Ev.val _)
    · rw [if_neg h0]
      rw [hwi]
      exact Ev.neg h0 (Ev.pos (by omega) (ih (i + 1) _ (by omega) (by simp; omega)))
theorem spec_kinds (l : List S73) (vars : Int) : Ev (fun k => spec_KindsOf.f k l vars) (kindsL l vars) := by
  unfold spec_KindsOf.f kindsL
  refine Ev.bind (Ev.const (in_dec _ _ _)) ?_
  by_cases hv : 0 ≤ vars ∧ vars ≤ 5
  · refine Ev.pos (by simpa using hv) (Ev.bind (Ev.const (in_dec _ _ _)) ?_)
    by_cases hl : 1 ≤ (l.length : Int) ∧ (l.length : Int) ≤ 40
    · rw [if_pos ⟨hv, by omega⟩, decide_eq_true hl]
      refine Ev.step (Ev.neg (by decide) ?_) (fun k => spec_KindsOf.j0.eq_2 ..)
      exact spec_kinds_loop l vars (by omega) hv l.length 0 [] (by omega) rfl
    · rw [if_neg (fun h => hl (by omega)), decide_eq_false hl]
      exact Ev.step (Ev.pos (by decide) (Ev.val _)) (fun k => spec_KindsOf.j0.eq_2 ..)
  · rw [if_neg (fun h => hv h.1)]
    exact Ev.neg (by simpa using hv) (Ev.step (Ev.pos rfl (Ev.val _)) (fun k => spec_KindsOf.j0.eq_2 ..))
theorem spec_valid (l : List S73) (vars : Int) : Ev (fun k => spec_TermsValid.f k l vars) (!(kindsL l vars).isEmpty) := by
  unfold spec_TermsValid.f
  refine Ev.bind (spec_kinds l vars) (Ev.valEq ?_)
  cases kindsL l vars with
  | nil => rfl
  | cons x xs => simp
theorem impl_parts_ev (op : Int) : Ev (fun k => impl_parts.f k op) (if 2 ≤ op ∧ op ≤ 6 ∨ op = 8 ∨ op = 9 then 2 else if op = 7 then 1 else 0, if 2 ≤ op ∧ op ≤ 6 then 1 else if 7 ≤ op ∧ op ≤ 9 then 2 else 0, if 5 ≤ op ∧ op ≤ 9 then 2 else 1) := by
  have j1f : ∀ (_ : ¬ (2 ≤ op ∧ op ≤ 6)), Ev (fun k => impl_parts.j1 k op false) (if op = 8 ∨ op = 9 then 2 else if op = 7 then 1 else 0, if 7 ≤ op ∧ op ≤ 9 then 2 else 0, if 7 ≤ op ∧ op ≤ 9 then 2 else 1) := by
    intro h
    refine Ev.step (Ev.neg (by decide) ?_) (fun k => impl_parts.j1.eq_2 ..)
    by_cases h7 : op = 7
    · subst h7
      exact Ev.pos rfl (Ev.val _)
    · refine Ev.neg h7 ?_
      by_cases h8 : op = 8
      · subst h8
        exact Ev.pos rfl (Ev.val _)
      · refine Ev.neg h8 ?_
        by_cases h9 : op = 9
        · subst h9
          exact Ev.pos rfl (Ev.val _)
        · refine Ev.neg h9 (Ev.valEq ?_)
          rw [if_neg (by omega), if_neg (by omega), if_neg (by omega), if_neg (by omega)]
  have j1t : Ev (fun k => impl_parts.j1 k op true) (2, 1, 2) := Ev.step (Ev.pos rfl (Ev.val _)) (fun k => impl_parts.j1.eq_2 ..)
  have j0t : Ev (fun k => impl_parts.j0 k op true) (2, 1, 1) := Ev.step (Ev.pos rfl (Ev.val _)) (fun k => impl_parts.j0.eq_2 ..)
  unfold impl_parts.f
  by_cases h2 : op = 2
  · subst h2
    exact Ev.pos rfl j0t
  refine Ev.neg h2 ?_
  by_cases h3 : op = 3
  · subst h3
    exact Ev.pos rfl j0t
  refine Ev.neg h3 ?_
  by_cases h4 : op = 4
  · subst h4
    exact j0t
  rw [show (op == 4) = false by simp [h4]]
  refine Ev.step (Ev.neg (by decide) ?_) (fun k => impl_parts.j0.eq_2 ..)
  by_cases h5 : op = 5
  · subst h5
    exact Ev.pos rfl j1t
  refine Ev.neg h5 ?_
  by_cases h6 : op = 6
  · subst h6
    exact j1t
  rw [show (op == 6) = false by simp [h6]]
  refine (j1f (by omega)).to ?_
  rw [if_neg (c := 2 ≤ op ∧ op ≤ 6) (by omega)]
  have e1 : (2 ≤ op ∧ op ≤ 6 ∨ op = 8 ∨ op = 9) ↔ (op = 8 ∨ op = 9) := by omega
  have e2 : (5 ≤ op ∧ op ≤ 9) ↔ (7 ≤ op ∧ op ≤ 9) := by omega
  simp only [e1, e2]
theorem impl_kinds_loop (l : List S73) (vars : Int) (hl : l.length ≤ 40) (hv : 0 ≤ vars ∧ vars ≤ 5) : ∀ (d i : Nat) (ks : List Int), i + d = l.length → ks.length = i → Ev (fun k => impl_kindsOf.l0 k vars ks l (l.length : Int) (i : Int)) (kindsRun l vars d i ks) := by
  intro d
  have w1 : wrap64 (vars - 1) = vars - 1 := w_id (by omega) (by omega)
  induction d with
  | zero =>
    intro i ks hi hk
    exact Ev.step (Ev.neg (by omega) (Ev.val _)) (fun k => impl_kindsOf.l0.eq_2 ..)
  | succ d ih =>
    intro i ks hi hk
    have hwi := wsucc i (by omega)
    have w2 : wrap64 ((i : Int) - 1) = (i : Int) - 1 := w_id (by omega) (by omega)
    refine Ev.step (Ev.pos (by omega) (Ev.pos (by omega) (Ev.pos (by omega) (Ev.bind (impl_parts_ev _) (Ev.bind (Ev.const (in_dec _ _ _)) ?_))))) (fun k => impl_kindsOf.l0.eq_2 ..)
    rw [hwi, w1, w2]
    unfold kindsRun
    have ih' := fun c => ih (i + 1) (ks ++ [c]) (by omega) (by simp; omega)
    generalize rd_T73 l (i : Int) = t
    obtain ⟨f0, f1, f2, f3⟩ := t
    unfold kindAt
    simp only
    have hok : ks.length < 17592186044416 := by omega
    by_cases c0 : f0 = 0
    · subst c0
      simp only [if_true]
      refine Ev.bind (Ev.const (in_dec _ _ _)) ?_
      by_cases c2 : -9999 ≤ f1 ∧ f1 ≤ 9999
      · refine Ev.pos (by simpa using c2) ?_
        by_cases c3 : f2 = 0
        · refine Ev.pos c3 ?_
          by_cases c4 : f3 = 0
          · rw [if_pos (c := (-9999 ≤ f1 ∧ f1 ≤ 9999) ∧ f2 = 0 ∧ f3 = 0) ⟨c2, c3, c4⟩]
            exact Ev.pos c4 (Ev.pos hok (ih' 1))
          · rw [if_neg (c := (-9999 ≤ f1 ∧ f1 ≤ 9999) ∧ f2 = 0 ∧ f3 = 0) (fun h => c4 h.2.2)]
            exact Ev.neg c4 (Ev.val _)
        · rw [if_neg (c := (-9999 ≤ f1 ∧ f1 ≤ 9999) ∧ f2 = 0 ∧ f3 = 0) (fun h => c3 h.2.1)]
          exact Ev.neg c3 (Ev.val _)
      · rw [if_neg (c := (-9999 ≤ f1 ∧ f1 ≤ 9999) ∧ f2 = 0 ∧ f3 = 0) (fun h => c2 h.1)]
        exact Ev.neg (by simpa using c2) (Ev.val _)
    refine Ev.neg c0 ?_
    rw [if_neg (c := f0 = 0) c0]
    by_cases c1 : f0 = 1
    · subst c1
      simp only [if_true]
      refine Ev.bind (Ev.const (in_dec _ _ _)) ?_
      by_cases c2 : 0 ≤ f1 ∧ f1 ≤ vars - 1
      · refine Ev.pos (by simpa using c2) ?_
        by_cases c3 : f2 = 0
        · refine Ev.pos c3 ?_
          by_cases c4 : f3 = 0
          · rw [if_pos (c := (0 ≤ f1 ∧ f1 < vars) ∧ f2 = 0 ∧ f3 = 0) ⟨by omega, c3, c4⟩]
            exact Ev.pos c4 (Ev.pos hok (ih' 1))
          · rw [if_neg (c := (0 ≤ f1 ∧ f1 < vars) ∧ f2 = 0 ∧ f3 = 0) (fun h => c4 h.2.2)]
            exact Ev.neg c4 (Ev.val _)
        · rw [if_neg (c := (0 ≤ f1 ∧ f1 < vars) ∧ f2 = 0 ∧ f3 = 0) (fun h => c3 h.2.1)]
          exact Ev.neg c3 (Ev.val _)
      · rw [if_neg (c := (0 ≤ f1 ∧ f1 < vars) ∧ f2 = 0 ∧ f3 = 0) (fun h => c2 (by omega))]
        exact Ev.neg (by simpa using c2) (Ev.val _)
    refine Ev.neg c1 ?_
    rw [if_neg (c := f0 = 1) c1]
    by_cases a1 : 2 ≤ f0 ∧ f0 ≤ 9
    · refine Ev.pos (by simp; omega) ?_
      have ew : (if 2 ≤ f0 ∧ f0 ≤ 6 then (1 : Int) else if 7 ≤ f0 ∧ f0 ≤ 9 then 2 else 0) = (if f0 ≥ 7 then 2 else 1) := by
        by_cases h7 : f0 ≥ 7
        · rw [if_neg (by omega), if_pos (by omega), if_pos h7]
        · rw [if_pos (by omega), if_neg h7]
      have ek : (if 5 ≤ f0 ∧ f0 ≤ 9 then (2 : Int) else 1) = (if f0 ≥ 5 then 2 else 1) := by
        by_cases h5 : f0 ≥ 5
        · rw [if_pos (by omega), if_pos h5]
        · rw [if_neg (by omega), if_neg h5]
      have en : ((if 2 ≤ f0 ∧ f0 ≤ 6 ∨ f0 = 8 ∨ f0 = 9 then (2 : Int) else if f0 = 7 then 1 else 0) = 2) ↔ f0 ≠ 7 := by
        by_cases h7 : f0 = 7
        · rw [if_neg (by omega), if_pos h7]
          simp [h7]
        · rw [if_pos (by omega)]
          simp [h7]
      have nz : (if f0 ≥ 5 then (2 : Int) else 1) ≠ 0 := by split <;> decide
      simp only [ew, ek]
      by_cases a2 : f1 = 0
      · refine Ev.pos a2 (Ev.bind (Ev.const (in_dec _ _ _)) ?_)
        by_cases a3 : 0 ≤ f2 ∧ f2 ≤ (i : Int) - 1
        · refine Ev.pos (by simpa using a3) (Ev.bind (Ev.const (in_dec _ _ _)) ?_)
          by_cases a4 : 0 ≤ f3 ∧ f3 ≤ (i : Int) - 1
          · refine Ev.pos (by simpa using a4) (Ev.pos a3.1 (Ev.pos (by omega) ?_))
            by_cases a5 : rd ks f2 = (if f0 ≥ 7 then 2 else 1)
            · refine Ev.pos a5 (Ev.pos a4.1 (Ev.pos (by omega) ?_))
              by_cases a6 : rd ks f3 = (if f0 ≥ 7 then 2 else 1)
              · refine Ev.pos a6 ?_
                by_cases a7 : f0 = 7 → f3 = f2
                · rw [if_pos (c := OpOk f0 f1 f2 f3 ks) ⟨a1, a2, by omega, by omega, a5, a6, a7⟩, if_neg nz]
                  by_cases h7 : f0 = 7
                  · exact Ev.neg (fun h => absurd h7 (en.1 h)) (Ev.pos (a7 h7).symm (Ev.pos hok (ih' _)))
                  · exact Ev.pos (en.2 h7) (Ev.pos hok (ih' _))
                · rw [if_neg (c := OpOk f0 f1 f2 f3 ks) (fun h => a7 h.2.2.2.2.2.2), if_pos rfl]
                  rw [Classical.not_imp] at a7
                  exact Ev.neg (fun h => absurd a7.1 (en.1 h)) (Ev.neg (fun h => a7.2 h.symm) (Ev.val _))
              · rw [if_neg (c := OpOk f0 f1 f2 f3 ks) (fun h => a6 h.2.2.2.2.2.1), if_pos rfl]
                exact Ev.neg a6 (Ev.val _)
            · rw [if_neg (c := OpOk f0 f1 f2 f3 ks) (fun h => a5 h.2.2.2.2.1), if_pos rfl]
              exact Ev.neg a5 (Ev.val _)
          · rw [if_neg (c := OpOk f0 f1 f2 f3 ks) (fun h => a4 (by have := h.2.2.2.1; omega)), if_pos rfl]
            exact Ev.neg (by simpa using a4) (Ev.val _)
        · rw [if_neg (c := OpOk f0 f1 f2 f3 ks) (fun h => a3 (by have := h.2.2.1; omega)), if_pos rfl]
          exact Ev.neg (by simpa using a3) (Ev.val _)
      · rw [if_neg (c := OpOk f0 f1 f2 f3 ks) (fun h => a2 h.2.1), if_pos rfl]
        exact Ev.neg a2 (Ev.val _)
    · rw [if_neg (c := OpOk f0 f1 f2 f3 ks) (fun h => a1 h.1), if_pos rfl]
      exact Ev.neg (by simp; omega) (Ev.val _)
theorem impl_kinds (l : List S73) (vars : Int) : Ev (fun k => impl_kindsOf.f k l vars) (kindsL l vars) := by
  unfold impl_kindsOf.f kindsL
  refine Ev.bind (Ev.const (in_dec _ _ _)) ?_
  by_cases hv : 0 ≤ vars ∧ vars ≤ 5
  · refine Ev.pos (by simpa using hv) (Ev.bind (Ev.const (in_dec _ _ _)) ?_)
    by_cases hl : 1 ≤ (l.length : Int) ∧ (l.length : Int) ≤ 40
    · rw [if_pos ⟨hv, by omega⟩, decide_eq_true hl]
      refine Ev.step (Ev.neg (by decide) (Ev.pos (by omega) (Ev.pos (by omega) ?_))) (fun k => impl_kindsOf.j0.eq_2 ..)
      exact impl_kinds_loop l vars (by omega) hv l.length 0 [] (by omega) rfl
    · rw [if_neg (fun h => hl (by omega)), decide_eq_false hl]
      exact Ev.step (Ev.pos (by decide) (Ev.val _)) (fun k => impl_kindsOf.j0.eq_2 ..)
  · rw [if_neg (fun h => hv h.1)]
    exact Ev.neg (by simpa using hv) (Ev.step (Ev.pos rfl (Ev.val _)) (fun k => impl_kindsOf.j0.eq_2 ..))
theorem impl_valid (l : List S73) (vars : Int) : Ev (fun k => impl_TermsValid.f k l vars) (!(kindsL l vars).isEmpty) := by
  unfold impl_TermsValid.f
  exact Ev.bind (impl_kinds l vars) (Ev.val _)
/-- What the kinds are good for. -/
theorem kindsRun_typed (l : List S73) (vars : Int) : ∀ (d i : Nat) (ks : List Int), i + d = l.length → ks.length = i → (∀ j : Nat, j < i → kindAt (rd_T73 l (j : Int)) (ks.take j) vars = rd ks (j : Int) ∧ rd ks (j : Int) ≠ 0) → kindsRun l vars d i ks ≠ [] → Typed l vars (kindsRun l vars d i ks) := by
  intro d
  induction d with
  | zero =>
    intro i ks hi hk h _
    exact ⟨by unfold kindsRun; omega, fun j hj => h j (by omega)⟩
  | succ d ih =>
    intro i ks hi hk h
    unfold kindsRun
    by_cases h0 : kindAt (rd_T73 l (i : Int)) ks vars = 0
    · rw [if_pos h0]
      intro h
      exact absurd rfl h
    · rw [if_neg h0]
      refine ih (i + 1) _ (by omega) (by simp; omega) (fun j hj => ?_)
      by_cases e : j = i
      · subst e
        subst hk
        rw [List.take_append_of_le_length (Nat.le_refl _), List.take_of_length_le (Nat.le_refl _), rd_app_eq]
        exact ⟨rfl, h0⟩
      · rw [List.take_append_of_le_length (by omega), rd_app_lt (by omega)]
        exact h j (by omega)
theorem kindsL_typed {l : List S73} {vars : Int} (h : kindsL l vars ≠ []) : (0 ≤ vars ∧ vars ≤ 5) ∧ (1 ≤ l.length ∧ l.length ≤ 40) ∧ Typed l vars (kindsL l vars) := by
  unfold kindsL at h ⊢
  by_cases c : (0 ≤ vars ∧ vars ≤ 5) ∧ (1 ≤ l.length ∧ l.length ≤ 40)
  · rw [if_pos c] at h ⊢
    exact ⟨c.1, c.2, kindsRun_typed l vars l.length 0 [] (by omega) rfl (fun j hj => by omega) h⟩
  · rw [if_neg c] at h
    exact absurd rfl h
/-! #### terms: their values -/
def heldZ (x : Int) : Int := if x > 9999 then 9999 else if x < -9999 then -9999 else x
/-- What an operation makes of two values. -/
def doZ (op a b : Int) : Int :=
  if op = 2 then heldZ (a + b) else if op = 3 then heldZ (a - b) else if op = 4 then heldZ (a * b)
  else if op = 5 then (if a < b then 1 else 0) else if op = 6 then (if a = b then 1 else 0)
  else if op = 7 then 1 - a else if op = 8 then a * b else if a + b > 0 then 1 else 0
def valAt (t : S73) (vs st : List Int) : Int := if t.f0 = 0 then t.f1 else if t.f0 = 1 then rd st t.f1 else doZ t.f0 (rd vs t.f2) (rd vs t.f3)
def StOk (st : List Int) : Prop := ∀ j : Nat, j < st.length → -9999 ≤ rd st (j : Int) ∧ rd st (j : Int) ≤ 9999
/-- Values that are of their kinds. -/
def Kept2 (ks vs : List Int) : Prop := ∀ j : Nat, j < vs.length → (-9999 ≤ rd vs (j : Int) ∧ rd vs (j : Int) ≤ 9999) ∧ (rd ks (j : Int) = 2 → rd vs (j : Int) = 0 ∨ rd vs (j : Int) = 1)
theorem heldZ_in (x : Int) : -9999 ≤ heldZ x ∧ heldZ x ≤ 9999 := by
  unfold heldZ
  split
  · omega
  · split <;> omega
theorem spec_held (x : Int) : spec_l1Held.f x = some (heldZ x) := by
  unfold spec_l1Held.f heldZ
  split
  · rfl
  · split <;> rfl
theorem impl_held_is (x : Int) : impl_held.f x = some (heldZ x) := by
  unfold impl_held.f heldZ
  congr 1
  unfold mx mn
  split <;> split <;> split <;> (try split) <;> omega
theorem mul_small {a b : Int} (ha : -9999 ≤ a ∧ a ≤ 9999) (hb : -9999 ≤ b ∧ b ≤ 9999) : -99980001 ≤ a * b ∧ a * b ≤ 99980001 := by
  have h1 : (a * b).natAbs ≤ 9999 * 9999 := by
    rw [Int.natAbs_mul]
    exact Nat.mul_le_mul (by omega) (by omega)
  omega
theorem spec_do {op a b : Int} (ha : -9999 ≤ a ∧ a ≤ 9999) (hb : -9999 ≤ b ∧ b ≤ 9999) : spec_l1Do.f op a b = some (doZ op a b) := by
  have hm := mul_small ha hb
  unfold spec_l1Do.f doZ
  rw [w_id (x := a + b) (by omega) (by omega), w_id (x := a - b) (by omega) (by omega), w_id (x := a * b) (by omega) (by omega), w_id (x := 1 - a) (by omega) (by omega), spec_held, spec_held, spec_held]
  simp only [Option.bind_some]
  by_cases h2 : op = 2
  · rw [if_pos h2, if_pos h2]
  rw [if_neg h2, if_neg h2]
  by_cases h3 : op = 3
  · rw [if_pos h3, if_pos h3]
  rw [if_neg h3, if_neg h3]
  by_cases h4 : op = 4
  · rw [if_pos h4, if_pos h4]
  rw [if_neg h4, if_neg h4]
  unfold spec_l1Truth.f
  by_cases h5 : op = 5
  · rw [if_pos h5, if_pos h5]
    by_cases c : a < b <;> simp [c]
  rw [if_neg h5, if_neg h5]
  by_cases h6 : op = 6
  · rw [if_pos h6, if_pos h6]
    by_cases c : a = b <;> simp [c]
  rw [if_neg h6, if_neg h6]
  by_cases h7 : op = 7
  · rw [if_pos h7, if_pos h7]
  rw [if_neg h7, if_neg h7]
  by_cases h8 : op = 8
  · rw [if_pos h8, if_pos h8]
  rw [if_neg h8, if_neg h8]
  by_cases c : a + b > 0 <;> simp [c]
theorem impl_do_is {op a b : Int} (ha : -9999 ≤ a ∧ a ≤ 9999) (hb : -9999 ≤ b ∧ b ≤ 9999) (hop : op ≤ 9) (ht : 8 ≤ op → (a = 0 ∨ a = 1) ∧ (b = 0 ∨ b = 1)) (h2 : 2 ≤ op) : impl_do.f op a b = some (doZ op a b) := by
  have hm := mul_small ha hb
  unfold impl_do.f doZ
  rw [w_id (x := a + b) (by omega) (by omega), w_id (x := a - b) (by omega) (by omega), w_id (x := a * b) (by omega) (by omega), w_id (x := 1 - a) (by omega) (by omega), impl_held_is, impl_held_is, impl_held_is]
  simp only [Option.bind_some]
  by_cases h2 : op = 2
  · rw [if_pos h2, if_pos h2]
  rw [if_neg h2, if_neg h2]
  by_cases h3 : op = 3
  · rw [if_pos h3, if_pos h3]
  rw [if_neg h3, if_neg h3]
  by_cases h4 : op = 4
  · rw [if_pos h4, if_pos h4]
  rw [if_neg h4, if_neg h4]
  unfold impl_bit.f
  by_cases h5 : op = 5
  · rw [if_pos h5, if_pos h5]
    by_cases c : a < b <;> simp [c]
  rw [if_neg h5, if_neg h5]
  by_cases h6 : op = 6
  · rw [if_pos h6, if_pos h6]
    by_cases c : a = b <;> simp [c]
  rw [if_neg h6, if_neg h6]
  by_cases h7 : op = 7
  · rw [if_pos h7, if_pos h7]
  rw [if_neg h7, if_neg h7]
  obtain ⟨h0, h1⟩ := ht (by omega)
  by_cases h8 : op = 8
  · rw [if_pos h8, if_pos h8]
    unfold mn
    rcases h0 with rfl | rfl <;> rcases h1 with rfl | rfl <;> rfl
  rw [if_neg h8, if_neg h8]
  unfold mx
  rcases h0 with rfl | rfl <;> rcases h1 with rfl | rfl <;> rfl
theorem doZ_in {op a b : Int} (ha : -9999 ≤ a ∧ a ≤ 9999) (hb : -9999 ≤ b ∧ b ≤ 9999) (ht : 7 ≤ op → (a = 0 ∨ a = 1) ∧ (b = 0 ∨ b = 1)) : (-9999 ≤ doZ op a b ∧ doZ op a b ≤ 9999) ∧ (5 ≤ op → doZ op a b = 0 ∨ doZ op a b = 1) := by
  unfold doZ
  by_cases h2 : op = 2
  · rw [if_pos h2]
    exact ⟨heldZ_in _, by omega⟩
  rw [if_neg h2]
  by_cases h3 : op = 3
  · rw [if_pos h3]
    exact ⟨heldZ_in _, by omega⟩
  rw [if_neg h3]
  by_cases h4 : op = 4
  · rw [if_pos h4]
    exact ⟨heldZ_in _, by omega⟩
  rw [if_neg h4]
  by_cases h5 : op = 5
  · rw [if_pos h5]
    split <;> omega
  rw [if_neg h5]
  by_cases h6 : op = 6
  · rw [if_pos h6]
    split <;> omega
  rw [if_neg h6]
  by_cases h7 : op = 7
  · rw [if_pos h7]
    have := ht (by omega)
    omega
  rw [if_neg h7]
  by_cases h8 : op = 8
  · rw [if_pos h8]
    obtain ⟨h0, h1⟩ := ht (by omega)
    rcases h0 with rfl | rfl <;> rcases h1 with rfl | rfl <;> simp
  rw [if_neg h8]
  split <;> omega
/-- What a term's kind tells. -/
theorem kindAt_cases {t : S73} {ks : List Int} {vars : Int} (h : kindAt t ks vars ≠ 0) :
    (t.f0 = 0 ∧ (-9999 ≤ t.f1 ∧ t.f1 ≤ 9999) ∧ t.f2 = 0 ∧ t.f3 = 0 ∧ kindAt t ks vars = 1) ∨ (t.f0 = 1 ∧ (0 ≤ t.f1 ∧ t.f1 < vars) ∧ t.f2 = 0 ∧ t.f3 = 0 ∧ kindAt t ks vars = 1) ∨
    ((2 ≤ t.f0 ∧ t.f0 ≤ 9) ∧ t.f1 = 0 ∧ (0 ≤ t.f2 ∧ t.f2 < ks.length) ∧ (0 ≤ t.f3 ∧ t.f3 < ks.length) ∧ rd ks t.f2 = (if t.f0 ≥ 7 then 2 else 1) ∧ rd ks t.f3 = (if t.f0 ≥ 7 then 2 else 1) ∧ (t.f0 = 7 → t.f3 = t.f2) ∧ kindAt t ks vars = (if t.f0 ≥ 5 then 2 else 1)) := by
  unfold kindAt at h ⊢
  by_cases c0 : t.f0 = 0
  · rw [if_pos c0] at h ⊢
    by_cases c : (-9999 ≤ t.f1 ∧ t.f1 ≤ 9999) ∧ t.f2 = 0 ∧ t.f3 = 0
    · rw [if_pos c]
      exact .inl ⟨c0, c.1, c.2.1, c.2.2, rfl⟩
    · rw [if_neg c] at h
      exact absurd rfl h
  rw [if_neg c0] at h ⊢
  by_cases c1 : t.f0 = 1
  · rw [if_pos c1] at h ⊢
    by_cases c : (0 ≤ t.f1 ∧ t.f1 < vars) ∧ t.f2 = 0 ∧ t.f3 = 0
    · rw [if_pos c]
      exact .inr (.inl ⟨c1, c.1, c.2.1, c.2.2, rfl⟩)
    · rw [if_neg c] at h
      exact absurd rfl h
  rw [if_neg c1] at h ⊢
  by_cases c : OpOk t.f0 t.f1 t.f2 t.f3 ks
  · rw [if_pos c]
    exact .inr (.inr ⟨c.1, c.2.1, c.2.2.1, c.2.2.2.1, c.2.2.2.2.1, c.2.2.2.2.2.1, c.2.2.2.2.2.2, rfl⟩)
  · rw [if_neg c] at h
    exact absurd rfl h
theorem rd_take {l : List Int} {n : Nat} {x : Int} (h0 : 0 ≤ x) (h1 : x < n) : rd (l.take n) x = rd l x := by
  obtain ⟨m, rfl⟩ := Int.eq_ofNat_of_zero_le h0
  rw [rd_nat, rd_nat, List.getD_eq_getElem?_getD, List.getD_eq_getElem?_getD, List.getElem?_take_of_lt (by omega)]
/-- What stands at place i of an expression: the operands lie ahead of it, and their values are of their kinds. -/
theorem typed_step {l : List S73} {vars : Int} {ks vs st : List Int} (T : Typed l vars ks) (hS : StOk st) (hv : vars ≤ st.length) {i : Nat} (hi : i < l.length) (hvs : vs.length = i) (K : Kept2 ks vs) :
    let t := rd_T73 l (i : Int)
    (t.f0 = 0 ∨ (t.f0 = 1 ∧ 0 ≤ t.f1 ∧ t.f1 < st.length) ∨ ((2 ≤ t.f0 ∧ t.f0 ≤ 9) ∧ (0 ≤ t.f2 ∧ t.f2 < i) ∧ (0 ≤ t.f3 ∧ t.f3 < i) ∧ (-9999 ≤ rd vs t.f2 ∧ rd vs t.f2 ≤ 9999) ∧ (-9999 ≤ rd vs t.f3 ∧ rd vs t.f3 ≤ 9999) ∧ (7 ≤ t.f0 → (rd vs t.f2 = 0 ∨ rd vs t.f2 = 1) ∧ (rd vs t.f3 = 0 ∨ rd vs t.f3 = 1)))) ∧ Kept2 ks (vs ++ [valAt t vs st]) := by
  intro t
  obtain ⟨hl, hT⟩ := T
  obtain ⟨e, ne⟩ := hT i hi
  have hkl : (ks.take i).length = i := by rw [List.length_take]; omega
  have grow : ∀ v : Int, (-9999 ≤ v ∧ v ≤ 9999) → (rd ks (i : Int) = 2 → v = 0 ∨ v = 1) → Kept2 ks (vs ++ [v]) := by
    intro v h1 h2 j hj
    by_cases c : j = i
    · subst c
      rw [show ((j : Nat) : Int) = (vs.length : Int) by omega, rd_app_eq]
      exact ⟨h1, by rw [hvs]; exact h2⟩
    · have : j < vs.length := by simp at hj; omega
      rw [rd_app_lt this]
      exact K j this
  have hc := kindAt_cases (t := t) (ks := ks.take i) (vars := vars) (by rw [e]; exact ne)
  rw [e] at hc
  rcases hc with ⟨h0, h1, h2, h3, h4⟩ | ⟨h0, h1, h2, h3, h4⟩ | ⟨h0, h1, h2, h3, h5, h6, h7, h8⟩
  · refine ⟨.inl h0, grow _ ?_ (by omega)⟩
    unfold valAt
    rw [if_pos h0]
    exact h1
  · refine ⟨.inr (.inl ⟨h0, h1.1, by omega⟩), grow _ ?_ (by omega)⟩
    unfold valAt
    rw [if_neg (by omega), if_pos h0]
    obtain ⟨m, hm⟩ := Int.eq_ofNat_of_zero_le h1.1
    rw [hm]
    exact hS m (by omega)
  · rw [hkl] at h2 h3
    rw [rd_take h2.1 h2.2] at h5
    rw [rd_take h3.1 h3.2] at h6
    obtain ⟨a, ha⟩ := Int.eq_ofNat_of_zero_le h2.1
    obtain ⟨b, hb⟩ := Int.eq_ofNat_of_zero_le h3.1
    have ka := K a (by omega)
    have kb := K b (by omega)
    rw [← ha] at ka
    rw [← hb] at kb
    have tr : 7 ≤ t.f0 → (rd vs t.f2 = 0 ∨ rd vs t.f2 = 1) ∧ (rd vs t.f3 = 0 ∨ rd vs t.f3 = 1) := by
      intro h
      rw [if_pos h] at h5 h6
      exact ⟨ka.2 h5, kb.2 h6⟩
    obtain ⟨d1, d2⟩ := doZ_in ka.1 kb.1 tr
    refine ⟨.inr (.inr ⟨h0, h2, h3, ka.1, kb.1, tr⟩), grow _ ?_ ?_⟩
    · unfold valAt
      rw [if_neg (by omega), if_neg (by omega)]
      exact d1
    · intro h
      unfold valAt
      rw [if_neg (by omega), if_neg (by omega)]
      refine d2 ?_
      rw [h8] at h
      by_cases c : t.f0 ≥ 5
      · exact c
      · rw [if_neg c] at h
        omega
theorem stok_loop (st : List Int) (hs : st.length ≤ 4611686018427387904) : ∀ (d i : Nat), i + d = st.length → Dec (fun k => spec_l1State.l0 k st (i : Int)) (∀ j : Nat, i ≤ j → j < st.length → -9999 ≤ rd st (j : Int) ∧ rd st (j : Int) ≤ 9999) := by
  intro d
  induction d with
  | zero =>
    intro i hi
    exact Dec.yes (Ev.step (Ev.neg (by omega) (Ev.val _)) (fun k => spec_l1State.l0.eq_2 ..)) (fun j h1 h2 => by omega)
  | succ d ih =>
    intro i hi
    have hwi := wsucc i (by omega)
    by_cases c : -9999 ≤ rd st (i : Int) ∧ rd st (i : Int) ≤ 9999
    · obtain ⟨b, hb, hb2⟩ := ih (i + 1) (by omega)
      refine ⟨b, Ev.step (Ev.pos (by omega) (Ev.pos (by omega) (Ev.bind (Ev.const (in_yes c)) (Ev.pos rfl ?_)))) (fun k => spec_l1State.l0.eq_2 ..), hb2.trans ?_⟩
      · rw [hwi]
        exact hb
      · rw [all_from (P := fun j => -9999 ≤ rd st (j : Int) ∧ rd st (j : Int) ≤ 9999) (i := i) (by omega)]
        exact ⟨fun h => ⟨c, h⟩, fun h => h.2⟩
    · exact Dec.no (Ev.step (Ev.pos (by omega) (Ev.pos (by omega) (Ev.bind (Ev.const (in_no c)) (Ev.neg (by decide) (Ev.val _))))) (fun k => spec_l1State.l0.eq_2 ..)) (fun h => c (h i (Nat.le_refl _) (by omega)))
theorem spec_stok (st : List Int) (hs : st.length ≤ 4611686018427387904) : Dec (fun k => spec_l1State.f k st) (StOk st) := by
  unfold spec_l1State.f
  exact (stok_loop st hs st.length 0 (by omega)).iff ⟨fun h j hj => h j (by omega) hj, fun h j _ hj => h j hj⟩
theorem impl_stok_run (st : List Int) : ∀ (d i : Nat), i + d = st.length → ∃ r, Copy.idxO (impl_stateOk.p st) d (i : Int) = some r ∧ (r < 0 ↔ ∀ j : Nat, i ≤ j → j < st.length → -9999 ≤ rd st (j : Int) ∧ rd st (j : Int) ≤ 9999) := by
  intro d
  induction d with
  | zero =>
    intro i hi
    exact ⟨-1, rfl, ⟨fun _ j h1 h2 => by omega, fun _ => by decide⟩⟩
  | succ d ih =>
    intro i hi
    unfold Copy.idxO
    by_cases c : -9999 ≤ rd st (i : Int) ∧ rd st (i : Int) ≤ 9999
    · obtain ⟨r, h1, h2⟩ := ih (i + 1) (by omega)
      refine ⟨r, ?_, h2.trans ?_⟩
      · rw [show impl_stateOk.p st (i : Int) = some false by unfold impl_stateOk.p; rw [iin_yes c]; rfl]
        simpa using h1
      · rw [all_from (P := fun j => -9999 ≤ rd st (j : Int) ∧ rd st (j : Int) ≤ 9999) (i := i) (by omega)]
        exact ⟨fun h => ⟨c, h⟩, fun h => h.2⟩
    · refine ⟨(i : Int), ?_, ⟨fun h => by omega, fun h => absurd (h i (Nat.le_refl _) (by omega)) c⟩⟩
      rw [show impl_stateOk.p st (i : Int) = some true by unfold impl_stateOk.p; rw [iin_no c]; rfl]
      simp
theorem impl_stok (st : List Int) : ∃ b, impl_stateOk.f st = some b ∧ (b = true ↔ st.length ≤ 5 ∧ StOk st) := by
  unfold impl_stateOk.f
  by_cases c : (st.length : Int) ≤ 5
  · rw [if_pos c]
    obtain ⟨r, h1, h2⟩ := impl_stok_run st st.length 0 (by omega)
    refine ⟨!(decide (0 ≤ r)), ?_, ?_⟩
    · rw [show (0 : Int) = ((0 : Nat) : Int) from rfl, h1]
      rfl
    · rw [Bool.not_eq_true', decide_eq_false_iff_not, Int.not_le, h2]
      exact ⟨fun h => ⟨by omega, fun j hj => h j (by omega) hj⟩, fun h j _ hj => h.2 j hj⟩
  · rw [if_neg c]
    exact ⟨false, rfl, by simp; omega⟩
theorem nonempty_dec (ks : List Int) : (!ks.isEmpty) = true ↔ ks ≠ [] := by cases ks <;> simp
/-! #### the law's own copies of terms -/
theorem sz_terms (l : List S75) (h : l.length ≤ maxLen) : ∃ z, laws_szTermS.f l 1048576 = some z ∧ (z < 0 ∨ l.length ≤ 1048576) := by
  unfold laws_szTermS.f
  simp only [maxLen] at h
  rw [w_id (by omega) (by omega)]
  by_cases c : 1048576 - (l.length : Int) < 0
  · rw [if_pos c]
    exact ⟨_, rfl, .inl (by decide)⟩
  · rw [if_neg c]
    exact ⟨_, rfl, .inr (by omega)⟩
theorem to_terms_loop (l : List S75) (hl : l.length ≤ 1048576) : ∀ (d i : Nat) (ys : List S73), i + d = l.length → ys.length = l.length →
    ∃ r, Ev (fun k => laws_toTermS.l0 k l ys (i : Int)) r := by
  intro d
  induction d with
  | zero =>
    intro i ys hi hy
    exact ⟨ys, Ev.step (Ev.neg (by omega) (Ev.val _)) (fun k => laws_toTermS.l0.eq_2 ..)⟩
  | succ d ih =>
    intro i ys hi hy
    have hwi := wsucc i (by omega)
    obtain ⟨r, hr⟩ := ih (i + 1) (ys.set i (⟨(rd_T75 l (i : Int)).f0, (rd_T75 l (i : Int)).f1, (rd_T75 l (i : Int)).f2, (rd_T75 l (i : Int)).f3⟩ : S73)) (by omega) (by simpa using hy)
    refine ⟨r, Ev.step ?_ (fun k => laws_toTermS.l0.eq_2 ..)⟩
    rw [hwi, Int.toNat_natCast]
    exact Ev.pos (by omega) (Ev.pos (by omega) (Ev.bind (Ev.const (by unfold laws_toTerm.f; rfl)) (Ev.pos (by omega) hr)))
theorem to_terms (l : List S75) (hl : l.length ≤ 1048576) : ∃ r, Ev (fun k => laws_toTermS.f k l) r := by
  unfold laws_toTermS.f
  obtain ⟨r, hr⟩ := to_terms_loop l hl l.length 0 (List.replicate l.length z73) (by omega) (by simp)
  refine ⟨r, Ev.pos (by omega) (Ev.pos (by omega) ?_)⟩
  rw [Int.toNat_natCast]
  exact hr
theorem eq_terms_loop (l : List S73) (hl : l.length ≤ 4611686018427387904) : ∀ (d i : Nat), i + d = l.length → Ev (fun k => laws_eqTermS.l0 k l l (i : Int)) true := by
  intro d
  induction d with
  | zero =>
    intro i hi
    exact Ev.step (Ev.neg (by omega) (Ev.val _)) (fun k => laws_eqTermS.l0.eq_2 ..)
  | succ d ih =>
    intro i hi
    have hwi := wsucc i (by omega)
    refine Ev.step ?_ (fun k => laws_eqTermS.l0.eq_2 ..)
    rw [hwi]
    exact Ev.pos (by omega) (Ev.pos (by omega) (Ev.pos (by omega) (Ev.bind (Ev.const (by unfold laws_eqTerm.f; simp)) (Ev.pos rfl (ih (i + 1) (by omega))))))
theorem eq_terms (l : List S73) (hl : l.length ≤ 4611686018427387904) : Ev (fun k => laws_eqTermS.f k l l) true := by
  unfold laws_eqTermS.f
  exact Ev.pos rfl (eq_terms_loop l hl l.length 0 (by omega))
theorem to_terms_len_loop (l : List S75) : ∀ (k : Nat) (i : Int) (ys r : List S73), laws_toTermS.l0 k l ys i = some r → r.length = ys.length := by
  intro k
  induction k with
  | zero => intro i ys r h; simp [laws_toTermS.l0] at h
  | succ k ih =>
    intro i ys r h
    rw [laws_toTermS.l0.eq_2] at h
    split at h
    · split at h
      · rw [Option.bind_eq_some_iff] at h
        obtain ⟨t, _, h⟩ := h
        split at h
        · have := ih _ _ _ h
          simpa using this
        · cases h
      · cases h
    · cases h; rfl
theorem to_terms_len (l : List S75) (r : List S73) (h : Ev (fun k => laws_toTermS.f k l) r) : r.length = l.length := by
  obtain ⟨k, hk⟩ := h.get
  unfold laws_toTermS.f at hk
  split at hk
  · split at hk
    · have := to_terms_len_loop l _ _ _ _ hk
      simpa using this
    · cases hk
  · cases hk
/-- The copy up to i. -/
theorem to_ints_loop (l : List Int) (hl : l.length ≤ 1048576) : ∀ (d i : Nat) (ys : List Int), i + d = l.length → ys.length = l.length → (∀ j : Nat, j < i → rd ys (j : Int) = rd l (j : Int)) →
    Ev (fun k => laws_toIntS.l0 k l ys (i : Int)) l := by
  intro d
  induction d with
  | zero =>
    intro i ys hi hy h
    refine Ev.step (Ev.neg (by omega) (Ev.valEq ?_)) (fun k => laws_toIntS.l0.eq_2 ..)
    exact list_eq_rd hy (fun j hj => h j (by omega))
  | succ d ih =>
    intro i ys hi hy h
    have hwi := wsucc i (by omega)
    refine Ev.step (Ev.pos (by omega) (Ev.pos (by omega) (Ev.pos (by omega) ?_))) (fun k => laws_toIntS.l0.eq_2 ..)
    rw [hwi, Int.toNat_natCast]
    refine ih (i + 1) _ (by omega) (by simpa using hy) ?_
    intro j hj
    by_cases e : j = i
    · subst e
      rw [rd_set_eq (by omega)]
    · rw [rd_set_ne (by omega)]
      exact h j (by omega)
theorem to_ints (l : List Int) (hl : l.length ≤ 1048576) : Ev (fun k => laws_toIntS.f k l) l := by
  unfold laws_toIntS.f
  rw [Int.toNat_natCast]
  exact Ev.pos (by omega) (Ev.pos (by omega) (to_ints_loop l hl l.length 0 _ (by omega) (by simp) (fun j hj => by omega)))
theorem eq_ints_loop (l : List Int) (hl : l.length ≤ 1048576) : ∀ (d i : Nat), i + d = l.length → Ev (fun k => laws_eqIntS.l0 k l l (i : Int)) true := by
  intro d
  induction d with
  | zero =>
    intro i hi
    exact Ev.step (Ev.neg (by omega) (Ev.val _)) (fun k => laws_eqIntS.l0.eq_2 ..)
  | succ d ih =>
    intro i hi
    have hwi := wsucc i (by omega)
    refine Ev.step ?_ (fun k => laws_eqIntS.l0.eq_2 ..)
    rw [hwi]
    exact Ev.pos (by omega) (Ev.pos (by omega) (Ev.pos (by omega) (Ev.pos rfl (ih (i + 1) (by omega)))))
theorem eq_ints (l : List Int) (hl : l.length ≤ 1048576) : Ev (fun k => laws_eqIntS.f k l l) true := by
  unfold laws_eqIntS.f
  exact Ev.pos rfl (eq_ints_loop l hl l.length 0 (by omega))
/-! #### between which values an expression lies -/
theorem held_mn (a b : Int) : heldZ (mn a b) = mn (heldZ a) (heldZ b) := by
  simp only [heldZ, mn]
  repeat' split
  all_goals omega
theorem held_mx (a b : Int) : heldZ (mx a b) = mx (heldZ a) (heldZ b) := by
  simp only [heldZ, mx]
  repeat' split
  all_goals omega
theorem four_step {lo hi : Int} {xs : List Int} {i : Nat} {r : List Int} (h1 : i < xs.length) (hb : xs.length ≤ 100) (h : Ev (fun k => spec_l1Four.l0 k (mn lo (rd xs (i : Int))) (mx hi (rd xs (i : Int))) xs ((i + 1 : Nat) : Int)) r) :
    Ev (fun k => spec_l1Four.l0 k lo hi xs (i : Int)) r := by
  refine Ev.step (Ev.pos (by omega) (Ev.pos (by omega) ?_)) (fun k => spec_l1Four.l0.eq_2 ..)
  rw [wsucc i (by omega)]
  unfold mn mx at h
  generalize rd xs (i : Int) = x at h ⊢
  by_cases c1 : x < lo
  · rw [if_pos c1] at h
    refine Ev.pos c1 ?_
    by_cases c2 : hi < x
    · rw [if_pos c2] at h
      exact Ev.pos c2 h
    · rw [if_neg c2] at h
      exact Ev.neg c2 h
  · rw [if_neg c1] at h
    refine Ev.neg c1 ?_
    by_cases c2 : hi < x
    · rw [if_pos c2] at h
      exact Ev.pos c2 h
    · rw [if_neg c2] at h
      exact Ev.neg c2 h
theorem four_end {lo hi : Int} {xs : List Int} {i : Nat} (h1 : xs.length ≤ i) : Ev (fun k => spec_l1Four.l0 k lo hi xs (i : Int)) [lo, hi] :=
  Ev.step (Ev.neg (by omega) (Ev.val _)) (fun k => spec_l1Four.l0.eq_2 ..)
theorem spec_four (a b c d : Int) : Ev (fun k => spec_l1Four.f k a b c d) [mn (mn (mn a b) c) d, mx (mx (mx a b) c) d] :=
  four_step (i := 0) (xs := [b, c, d]) (by simp) (by simp) (four_step (i := 1) (by simp) (by simp) (four_step (i := 2) (by simp) (by simp) (four_end (by simp))))
theorem min_step {x : Int} {xs : List Int} {i : Nat} {r : Int} (h1 : i < xs.length) (hb : xs.length ≤ 100) (h : Ev (fun k => slices_Min_int_int.l0 k xs (mn x (rd xs (i : Int))) ((i + 1 : Nat) : Int)) r) :
    Ev (fun k => slices_Min_int_int.l0 k xs x (i : Int)) r := by
  refine Ev.step (Ev.pos (by omega) (Ev.pos (by omega) ?_)) (fun k => slices_Min_int_int.l0.eq_2 ..)
  rw [wsucc i (by omega)]
  exact h
theorem min_end {x : Int} {xs : List Int} {i : Nat} (h1 : xs.length ≤ i) : Ev (fun k => slices_Min_int_int.l0 k xs x (i : Int)) x :=
  Ev.step (Ev.neg (by omega) (Ev.val _)) (fun k => slices_Min_int_int.l0.eq_2 ..)
theorem impl_min (a b c d : Int) : Ev (fun k => slices_Min_int_int.f k [a, b, c, d]) (mn (mn (mn a b) c) d) :=
  Ev.neg (by simp) (Ev.step (Ev.pos (by simp) (min_step (i := 1) (xs := [a, b, c, d]) (by simp) (by simp) (min_step (i := 2) (by simp) (by simp) (min_step (i := 3) (by simp) (by simp) (min_end (by simp)))))) (fun k => slices_Min_int_int.j0.eq_2 ..))
theorem max_step {x : Int} {xs : List Int} {i : Nat} {r : Int} (h1 : i < xs.length) (hb : xs.length ≤ 100) (h : Ev (fun k => slices_Max_int_int.l0 k xs (mx x (rd xs (i : Int))) ((i + 1 : Nat) : Int)) r) :
    Ev (fun k => slices_Max_int_int.l0 k xs x (i : Int)) r := by
  refine Ev.step (Ev.pos (by omega) (Ev.pos (by omega) ?_)) (fun k => slices_Max_int_int.l0.eq_2 ..)
  rw [wsucc i (by omega)]
  exact h
theorem max_end {x : Int} {xs : List Int} {i : Nat} (h1 : xs.length ≤ i) : Ev (fun k => slices_Max_int_int.l0 k xs x (i : Int)) x :=
  Ev.step (Ev.neg (by omega) (Ev.val _)) (fun k => slices_Max_int_int.l0.eq_2 ..)
theorem impl_max (a b c d : Int) : Ev (fun k => slices_Max_int_int.f k [a, b, c, d]) (mx (mx (mx a b) c) d) :=
  Ev.neg (by simp) (Ev.step (Ev.pos (by simp) (max_step (i := 1) (xs := [a, b, c, d]) (by simp) (by simp) (max_step (i := 2) (by simp) (by simp) (max_step (i := 3) (by simp) (by simp) (max_end (by simp)))))) (fun k => slices_Max_int_int.j0.eq_2 ..))
def b01 (b : Bool) : Int := if b = true then 1 else 0
theorem b01_in (b : Bool) : (-9999 ≤ b01 b ∧ b01 b ≤ 9999) ∧ (b01 b = 0 ∨ b01 b = 1) := by cases b <;> simp [b01]
theorem spec_truth (b : Bool) : spec_l1Truth.f b = some (b01 b) := by cases b <;> rfl
theorem impl_bit_is (b : Bool) : impl_bit.f b = some (b01 b) := by cases b <;> rfl
theorem two {p q p' q' : Bool} (h1 : p = true ↔ p' = true) (h2 : q = true ↔ q' = true) : (some [b01 p, b01 q] : Option (List Int)) = some [b01 p', b01 q'] := by rw [Bool.eq_iff_iff.2 h1, Bool.eq_iff_iff.2 h2]
theorem dec_iff {p q : Prop} [Decidable p] [Decidable q] (h : p ↔ q) : decide p = true ↔ decide q = true := ⟨fun a => decide_eq_true (h.1 (of_decide_eq_true a)), fun a => decide_eq_true (h.2 (of_decide_eq_true a))⟩
theorem beq_dec {a b : Int} {q : Prop} [Decidable q] (h : a = b ↔ q) : (a == b) = true ↔ decide q = true := ⟨fun e => decide_eq_true (h.1 (beq_iff_eq.1 e)), fun e => beq_iff_eq.2 (h.2 (of_decide_eq_true e))⟩
theorem no_dec {q : Prop} [Decidable q] (h : ¬ q) : false = true ↔ decide q = true := ⟨fun e => absurd e (by decide), fun e => absurd (of_decide_eq_true e) h⟩
theorem rd_p0 (x y : Int) : rd [x, y] 0 = x := rfl
theorem rd_p1 (x y : Int) : rd [x, y] 1 = y := rfl
/-- Both programs find the same two bounds. -/
theorem span_same {op a0 a1 b0 b1 : Int} (h2 : 2 ≤ op) (h9 : op ≤ 9) (A0 : -9999 ≤ a0 ∧ a0 ≤ 9999) (A1 : -9999 ≤ a1 ∧ a1 ≤ 9999) (B0 : -9999 ≤ b0 ∧ b0 ≤ 9999) (B1 : -9999 ≤ b1 ∧ b1 ≤ 9999)
    (t0 : 7 ≤ op → (a0 = 0 ∨ a0 = 1) ∧ (b0 = 0 ∨ b0 = 1)) (t1 : 7 ≤ op → (a1 = 0 ∨ a1 = 1) ∧ (b1 = 0 ∨ b1 = 1)) :
    ∃ lo hi : Int, Ev (fun k => spec_l1Between.f k op [a0, a1] [b0, b1]) [lo, hi] ∧ Ev (fun k => impl_spanOf.f k op a0 a1 b0 b1) (lo, hi) ∧
      ((-9999 ≤ lo ∧ lo ≤ 9999) ∧ (5 ≤ op → lo = 0 ∨ lo = 1)) ∧ ((-9999 ≤ hi ∧ hi ≤ 9999) ∧ (5 ≤ op → hi = 0 ∨ hi = 1)) := by
  have l2 : ∀ x y : Int, ((([x, y] : List Int).length : Nat) : Int) = 2 := fun _ _ => rfl
  have c0 : (0 : Int) < 2 := by decide
  have c1 : (1 : Int) < 2 := by decide
  unfold spec_l1Between.f impl_spanOf.f
  simp only [l2, rd_p0, rd_p1, if_pos c0, if_pos c1, spec_held, impl_held_is, spec_truth, impl_bit_is, Option.bind_some]
  by_cases e : op = 2
  · rw [w_id (by omega) (by omega), w_id (by omega) (by omega)]
    exact ⟨_, _, Ev.pos e (Ev.val _), Ev.pos e (Ev.val _), ⟨heldZ_in _, by omega⟩, ⟨heldZ_in _, by omega⟩⟩
  by_cases e3 : op = 3
  · rw [w_id (x := a0 - b1) (by omega) (by omega), w_id (x := a1 - b0) (by omega) (by omega)]
    exact ⟨_, _, Ev.neg e (Ev.pos e3 (Ev.val _)), Ev.neg e (Ev.pos e3 (Ev.val _)), ⟨heldZ_in _, by omega⟩, ⟨heldZ_in _, by omega⟩⟩
  by_cases e4 : op = 4
  · have m0 := mul_small A0 B0
    have m1 := mul_small A0 B1
    have m2 := mul_small A1 B0
    have m3 := mul_small A1 B1
    rw [w_id (x := a0 * b0) (by omega) (by omega), w_id (x := a0 * b1) (by omega) (by omega), w_id (x := a1 * b0) (by omega) (by omega), w_id (x := a1 * b1) (by omega) (by omega)]
    have hm : ∀ a b c d : Int, Ev (fun k => (slices_Min_int_int.f k [a, b, c, d]).bind fun x => (slices_Max_int_int.f k [a, b, c, d]).bind fun y => some (x, y)) (mn (mn (mn a b) c) d, mx (mx (mx a b) c) d) :=
      fun a b c d => Ev.bind (impl_min a b c d) (Ev.bind (impl_max a b c d) (Ev.val _))
    refine ⟨_, _, Ev.neg e (Ev.neg e3 (Ev.pos e4 (Ev.bind (spec_four _ _ _ _) (Ev.pos (by simp) (Ev.pos (by simp) (Ev.val _)))))), Ev.neg e (Ev.neg e3 (Ev.pos e4 ((hm _ _ _ _).to ?_))), ⟨heldZ_in _, by omega⟩, ⟨heldZ_in _, by omega⟩⟩
    rw [rd_p0, rd_p1, held_mn, held_mn, held_mn, held_mx, held_mx, held_mx]
  by_cases e5 : op = 5
  · exact ⟨_, _, Ev.neg e (Ev.neg e3 (Ev.neg e4 (Ev.pos e5 (Ev.val _)))), Ev.neg e (Ev.neg e3 (Ev.neg e4 (Ev.pos e5 (Ev.val _)))), ⟨(b01_in _).1, fun _ => (b01_in _).2⟩, ⟨(b01_in _).1, fun _ => (b01_in _).2⟩⟩
  by_cases e6 : op = 6
  · refine ⟨b01 (decide (a0 = a1 ∧ b0 = b1 ∧ a0 = b0)), b01 (decide (a0 ≤ b1 ∧ b0 ≤ a1)), Ev.neg e (Ev.neg e3 (Ev.neg e4 (Ev.neg e5 (Ev.pos e6 ?_)))), Ev.neg e (Ev.neg e3 (Ev.neg e4 (Ev.neg e5 (Ev.pos e6 ?_)))), ⟨(b01_in _).1, fun _ => (b01_in _).2⟩, ⟨(b01_in _).1, fun _ => (b01_in _).2⟩⟩
    · refine Ev.const (r := [b01 (decide (a0 = a1 ∧ b0 = b1 ∧ a0 = b0)), b01 (decide (a0 ≤ b1 ∧ b0 ≤ a1))]) ?_
      by_cases x1 : a0 = a1
      · simp only [if_pos x1]
        by_cases x2 : b0 = b1
        · simp only [if_pos x2]
          by_cases x3 : a0 ≤ b1
          · simp only [if_pos x3]
            exact two (by first | exact dec_iff (by omega) | exact beq_dec (by omega) | exact no_dec (by omega)) (by first | exact dec_iff (by omega) | exact beq_dec (by omega) | exact no_dec (by omega))
          · simp only [if_neg x3]
            exact two (by first | exact dec_iff (by omega) | exact beq_dec (by omega) | exact no_dec (by omega)) (by first | exact dec_iff (by omega) | exact beq_dec (by omega) | exact no_dec (by omega))
        · simp only [if_neg x2]
          by_cases x3 : a0 ≤ b1
          · simp only [if_pos x3]
            exact two (by first | exact dec_iff (by omega) | exact beq_dec (by omega) | exact no_dec (by omega)) (by first | exact dec_iff (by omega) | exact beq_dec (by omega) | exact no_dec (by omega))
          · simp only [if_neg x3]
            exact two (by first | exact dec_iff (by omega) | exact beq_dec (by omega) | exact no_dec (by omega)) (by first | exact dec_iff (by omega) | exact beq_dec (by omega) | exact no_dec (by omega))
      · simp only [if_neg x1]
        by_cases x3 : a0 ≤ b1
        · simp only [if_pos x3]
          exact two (by first | exact dec_iff (by omega) | exact beq_dec (by omega) | exact no_dec (by omega)) (by first | exact dec_iff (by omega) | exact beq_dec (by omega) | exact no_dec (by omega))
        · simp only [if_neg x3]
          exact two (by first | exact dec_iff (by omega) | exact beq_dec (by omega) | exact no_dec (by omega)) (by first | exact dec_iff (by omega) | exact beq_dec (by omega) | exact no_dec (by omega))
    · refine Ev.const (r := (b01 (decide (a0 = a1 ∧ b0 = b1 ∧ a0 = b0)), b01 (decide (a0 ≤ b1 ∧ b0 ≤ a1)))) ?_
      have eq : decide (a0 = a1 ∧ b0 = b1 ∧ a0 = b0) = (if a0 = a1 then (a0 == b0 && (a1 == b1)) else false) := by
        by_cases x1 : a0 = a1
        · rw [if_pos x1]
          rw [Bool.eq_iff_iff]
          simp only [decide_eq_true_eq, Bool.and_eq_true, beq_iff_eq]
          omega
        · rw [if_neg x1]
          simp [x1]
      rw [eq]
      by_cases x1 : a0 = a1
      · simp only [if_pos x1]
        by_cases x3 : a0 ≤ b1
        · simp only [if_pos x3]
          simp [x3]
        · simp only [if_neg x3]
          simp [x3]
      · simp only [if_neg x1]
        by_cases x3 : a0 ≤ b1
        · simp only [if_pos x3]
          simp [x3]
        · simp only [if_neg x3]
          simp [x3]
  by_cases e7 : op = 7
  · have u0 := t0 (by omega)
    have u1 := t1 (by omega)
    rw [w_id (x := 1 - a1) (by omega) (by omega), w_id (x := 1 - a0) (by omega) (by omega)]
    exact ⟨_, _, Ev.neg e (Ev.neg e3 (Ev.neg e4 (Ev.neg e5 (Ev.neg e6 (Ev.pos e7 (Ev.val _)))))), Ev.neg e (Ev.neg e3 (Ev.neg e4 (Ev.neg e5 (Ev.neg e6 (Ev.pos e7 (Ev.val _)))))), ⟨by omega, by omega⟩, ⟨by omega, by omega⟩⟩
  · obtain ⟨d1, d2⟩ := doZ_in A0 B0 t0
    obtain ⟨d3, d4⟩ := doZ_in A1 B1 t1
    rw [spec_do A0 B0, spec_do A1 B1, impl_do_is A0 B0 h9 (fun h => t0 (by omega)) h2, impl_do_is A1 B1 h9 (fun h => t1 (by omega)) h2]
    exact ⟨_, _, Ev.neg e (Ev.neg e3 (Ev.neg e4 (Ev.neg e5 (Ev.neg e6 (Ev.neg e7 (Ev.val _)))))), Ev.neg e (Ev.neg e3 (Ev.neg e4 (Ev.neg e5 (Ev.neg e6 (Ev.neg e7 (Ev.val _)))))), ⟨d1, d2⟩, ⟨d3, d4⟩⟩
theorem kept_grow {ks vs : List Int} {v : Int} (K : Kept2 ks vs) (h1 : -9999 ≤ v ∧ v ≤ 9999) (h2 : rd ks (vs.length : Int) = 2 → v = 0 ∨ v = 1) : Kept2 ks (vs ++ [v]) := by
  intro j hj
  by_cases c : j = vs.length
  · subst c
    rw [rd_app_eq]
    exact ⟨h1, h2⟩
  · have : j < vs.length := by simp at hj; omega
    rw [rd_app_lt this]
    exact K j this
/-- Only a truth has the kind of truths. -/
theorem kind_two {l : List S73} {vars : Int} {ks : List Int} (T : Typed l vars ks) {i : Nat} (hi : i < l.length) (h : rd ks (i : Int) = 2) : 5 ≤ (rd_T73 l (i : Int)).f0 := by
  obtain ⟨e, ne⟩ := T.2 i hi
  have hc := kindAt_cases (t := rd_T73 l (i : Int)) (ks := ks.take i) (vars := vars) (by rw [e]; exact ne)
  rw [e, h] at hc
  rcases hc with ⟨_, _, _, _, h4⟩ | ⟨_, _, _, _, h4⟩ | ⟨_, _, _, _, _, _, _, h8⟩
  · omega
  · omega
  · by_cases c : (rd_T73 l (i : Int)).f0 ≥ 5
    · exact c
    · rw [if_neg c] at h8
      omega
theorem rdS_nat (l : List S94) (i : Nat) : rd_T94 l (i : Int) = l.getD i z94 := by
  unfold rd_T94
  rw [Int.toNat_natCast]
def bounds (s : S94) : List Int := [s.f0, s.f1]
theorem rd_f0 {vs : List S94} {j : Nat} : rd (vs.map fun s => s.f0) (j : Int) = (rd_T94 vs (j : Int)).f0 := by
  rw [rd_nat, rdS_nat, List.getD_eq_getElem?_getD, List.getD_eq_getElem?_getD, List.getElem?_map]
  cases vs[j]? <;> rfl
theorem rd_f1 {vs : List S94} {j : Nat} : rd (vs.map fun s => s.f1) (j : Int) = (rd_T94 vs (j : Int)).f1 := by
  rw [rd_nat, rdS_nat, List.getD_eq_getElem?_getD, List.getD_eq_getElem?_getD, List.getElem?_map]
  cases vs[j]? <;> rfl
theorem rd_bounds {vs : List S94} {j : Nat} (h : j < vs.length) : rd_L3 (vs.map bounds) (j : Int) = bounds (rd_T94 vs (j : Int)) := by
  rw [rdS_nat]
  unfold rd_L3
  rw [Int.toNat_natCast, List.getD_eq_getElem?_getD, List.getD_eq_getElem?_getD, List.getElem?_map, List.getElem?_eq_getElem h]
  rfl
theorem rdS_set_take {l vs : List S94} {i : Nat} {v : S94} (hi : i < l.length) (hvs : vs.length = i) (h : ∀ j : Nat, j < i → rd_T94 l (j : Int) = rd_T94 vs (j : Int)) :
    ∀ j : Nat, j < i + 1 → rd_T94 (l.set i v) (j : Int) = rd_T94 (vs ++ [v]) (j : Int) := by
  intro j hj
  by_cases e : j = i
  · subst e
    rw [rdS_nat, rdS_nat, List.getD_eq_getElem?_getD, List.getD_eq_getElem?_getD, List.getElem?_set_self hi, List.getElem?_append_right (by omega), hvs]
    simp
  · have := h j (by omega)
    rw [rdS_nat, rdS_nat, List.getD_eq_getElem?_getD, List.getD_eq_getElem?_getD] at this
    rw [rdS_nat, rdS_nat, List.getD_eq_getElem?_getD, List.getD_eq_getElem?_getD, List.getElem?_set_ne (by omega), List.getElem?_append_left (by omega)]
    exact this
theorem range_loop (l : List S73) (vars : Int) (ks lo hi : List Int) (T : Typed l vars ks) (h1 : StOk lo) (h2 : StOk hi) (hv1 : vars ≤ lo.length) (hv2 : vars ≤ hi.length) (hl1 : 1 ≤ l.length) (hl : l.length ≤ 40) :
    ∀ (d i : Nat) (vs xs : List S94), i + d = l.length → vs.length = i → Kept2 ks (vs.map fun s => s.f0) → Kept2 ks (vs.map fun s => s.f1) → xs.length = l.length → (∀ j : Nat, j < i → rd_T94 xs (j : Int) = rd_T94 vs (j : Int)) →
    ∃ p q : Int, Ev (fun k => spec_RangeOf.l1 k l lo hi (vs.map bounds) (i : Int)) (p, q, true) ∧ Ev (fun k => impl_RangeOf.l1 k lo hi xs l (l.length : Int) (i : Int)) (p, q, true) := by
  intro d
  induction d with
  | zero =>
    intro i vs xs hi' hvs K0 K1 hx h
    have hw : wrap64 ((xs.length : Int) - 1) = ((l.length - 1 : Nat) : Int) := by rw [w_id (by omega) (by omega)]; omega
    have hw2 : wrap64 (((vs.map bounds).length : Int) - 1) = ((l.length - 1 : Nat) : Int) := by rw [List.length_map, w_id (by omega) (by omega)]; omega
    have hb := rd_bounds (vs := vs) (j := l.length - 1) (by omega)
    refine ⟨(rd_T94 vs ((l.length - 1 : Nat) : Int)).f0, (rd_T94 vs ((l.length - 1 : Nat) : Int)).f1, ?_, ?_⟩
    · refine Ev.step (Ev.neg (by omega) ?_) (fun k => spec_RangeOf.l1.eq_2 ..)
      rw [hw2, hb]
      refine Ev.pos (by omega) (Ev.pos ?_ (Ev.pos (by simp [bounds]) (Ev.pos (by simp [bounds]) (Ev.val _))))
      rw [List.length_map]
      omega
    · refine Ev.step (Ev.neg (by omega) ?_) (fun k => impl_RangeOf.l1.eq_2 ..)
      rw [hw, h _ (by omega)]
      exact Ev.pos (by omega) (Ev.pos (by omega) (Ev.val _))
  | succ d ih =>
    intro i vs xs hi' hvs K0 K1 hx h
    have hwi := wsucc i (by omega)
    obtain ⟨hc, _⟩ := typed_step T h1 hv1 (i := i) (by omega) (by simpa using hvs) K0
    obtain ⟨hd, _⟩ := typed_step T h2 hv2 (i := i) (by omega) (by simpa using hvs) K1
    have k2 := kind_two T (i := i) (by omega)
    have hml : (vs.map bounds).length = i := by rw [List.length_map]; exact hvs
    have hm0 : (vs.map fun s => s.f0).length = i := by rw [List.length_map]; exact hvs
    have hm1 : (vs.map fun s => s.f1).length = i := by rw [List.length_map]; exact hvs
    have more : ∀ (v : S94), (-9999 ≤ v.f0 ∧ v.f0 ≤ 9999) → (-9999 ≤ v.f1 ∧ v.f1 ≤ 9999) → (rd ks (i : Int) = 2 → (v.f0 = 0 ∨ v.f0 = 1) ∧ (v.f1 = 0 ∨ v.f1 = 1)) →
        ∃ p q : Int, Ev (fun k => spec_RangeOf.l1 k l lo hi (vs.map bounds ++ [bounds v]) (wrap64 ((i : Int) + 1))) (p, q, true) ∧ Ev (fun k => impl_RangeOf.l1 k lo hi (xs.set (i : Int).toNat v) l (l.length : Int) (wrap64 ((i : Int) + 1))) (p, q, true) := by
      intro v g0 g1 g2
      rw [hwi, Int.toNat_natCast]
      have := ih (i + 1) (vs ++ [v]) (xs.set i v) (by omega) (by simp; omega)
        (by rw [List.map_append]; exact kept_grow K0 g0 (fun e => (g2 (by rw [hm0] at e; exact e)).1))
        (by rw [List.map_append]; exact kept_grow K1 g1 (fun e => (g2 (by rw [hm1] at e; exact e)).2)) (by simpa using hx) (rdS_set_take (by omega) hvs h)
      rw [List.map_append] at this
      exact this
    obtain ⟨e, ne⟩ := T.2 i (by omega)
    have hk := kindAt_cases (t := rd_T73 l (i : Int)) (ks := ks.take i) (vars := vars) (by rw [e]; exact ne)
    rcases hk with ⟨h0, hr, _, _, _⟩ | ⟨h0, hr, _, _, _⟩ | ⟨h0, _, _, _, _, _, _, _⟩
    · obtain ⟨p, q, e1, e2⟩ := more ⟨(rd_T73 l (i : Int)).f1, (rd_T73 l (i : Int)).f1⟩ hr hr (fun e => absurd (k2 e) (by omega))
      exact ⟨p, q, Ev.step (Ev.pos (by omega) (Ev.pos (by omega) (Ev.pos h0 (Ev.pos (by omega) e1)))) (fun k => spec_RangeOf.l1.eq_2 ..),
        Ev.step (Ev.pos (by omega) (Ev.pos (by omega) (Ev.pos (by omega) (Ev.pos h0 (Ev.pos (by omega) e2))))) (fun k => impl_RangeOf.l1.eq_2 ..)⟩
    · obtain ⟨m, hm⟩ := Int.eq_ofNat_of_zero_le hr.1
      have r1 := h1 m (by omega)
      have r2 := h2 m (by omega)
      rw [← hm] at r1 r2
      obtain ⟨p, q, e1, e2⟩ := more ⟨rd lo (rd_T73 l (i : Int)).f1, rd hi (rd_T73 l (i : Int)).f1⟩ r1 r2 (fun e => absurd (k2 e) (by omega))
      exact ⟨p, q, Ev.step (Ev.pos (by omega) (Ev.pos (by omega) (Ev.neg (by omega) (Ev.pos h0 (Ev.pos hr.1 (Ev.pos (by omega) (Ev.pos (by omega) (Ev.pos (by omega) e1)))))))) (fun k => spec_RangeOf.l1.eq_2 ..),
        Ev.step (Ev.pos (by omega) (Ev.pos (by omega) (Ev.pos (by omega) (Ev.neg (by omega) (Ev.pos h0 (Ev.pos hr.1 (Ev.pos (by omega) (Ev.pos (by omega) (Ev.pos (by omega) e2))))))))) (fun k => impl_RangeOf.l1.eq_2 ..)⟩
    · rcases hc with g0 | ⟨g0, _, _⟩ | ⟨_, g2, g3, ga, gb, gt⟩
      · omega
      · omega
      rcases hd with g0 | ⟨g0, _, _⟩ | ⟨_, _, _, gc, gd, gu⟩
      · omega
      · omega
      obtain ⟨a, ha⟩ := Int.eq_ofNat_of_zero_le g2.1
      obtain ⟨b, hb⟩ := Int.eq_ofNat_of_zero_le g3.1
      have ea : rd_T94 xs (rd_T73 l (i : Int)).f2 = rd_T94 vs (a : Int) := by rw [ha]; exact h a (by omega)
      have eb : rd_T94 xs (rd_T73 l (i : Int)).f3 = rd_T94 vs (b : Int) := by rw [hb]; exact h b (by omega)
      have la : rd_L3 (vs.map bounds) (rd_T73 l (i : Int)).f2 = bounds (rd_T94 vs (a : Int)) := by rw [ha]; exact rd_bounds (by omega)
      have lb : rd_L3 (vs.map bounds) (rd_T73 l (i : Int)).f3 = bounds (rd_T94 vs (b : Int)) := by rw [hb]; exact rd_bounds (by omega)
      rw [ha, rd_f0] at ga
      rw [ha, hb, rd_f0, rd_f0] at gt
      rw [hb, rd_f0] at gb
      rw [ha, rd_f1] at gc
      rw [hb, rd_f1] at gd
      rw [ha, hb, rd_f1, rd_f1] at gu
      obtain ⟨u, v, s1, s2, s3, s4⟩ := span_same (op := (rd_T73 l (i : Int)).f0) h0.1 h0.2 ga gc gb gd gt gu
      obtain ⟨p, q, e1, e2⟩ := more ⟨u, v⟩ s3.1 s4.1 (fun e => ⟨s3.2 (k2 e), s4.2 (k2 e)⟩)
      refine ⟨p, q, Ev.step (Ev.pos (by omega) (Ev.pos (by omega) (Ev.neg (by omega) (Ev.neg (by omega) (Ev.pos g2.1 (Ev.pos (by omega) (Ev.pos g3.1 (Ev.pos (by omega) ?_)))))))) (fun k => spec_RangeOf.l1.eq_2 ..),
        Ev.step (Ev.pos (by omega) (Ev.pos (by omega) (Ev.pos (by omega) (Ev.neg (by omega) (Ev.neg (by omega) (Ev.pos g2.1 (Ev.pos (by omega) (Ev.pos g3.1 (Ev.pos (by omega) ?_))))))))) (fun k => impl_RangeOf.l1.eq_2 ..)⟩
      · rw [la, lb]
        exact Ev.bind s1 (Ev.pos (by omega) e1)
      · rw [ea, eb]
        exact Ev.bind s2 (Ev.pos (by omega) e2)
theorem le_loop (l : List S73) (lo hi : List Int) (e : lo.length = hi.length) (hs : lo.length ≤ 100) (hl : l.length ≤ 40)
    (H : ∃ p q : Int, Ev (fun k => spec_RangeOf.l1 k l lo hi [] 0) (p, q, true) ∧ Ev (fun k => impl_RangeOf.l1 k lo hi (List.replicate ((l.length : Int) : Int).toNat z94) l (l.length : Int) 0) (p, q, true)) :
    ∀ (d i : Nat), i + d = lo.length → ∃ r : Int × Int × Bool, Ev (fun k => spec_RangeOf.l0 k l lo hi (i : Int)) r ∧ Ev (fun k => impl_RangeOf.l0 k l lo hi (lo.length : Int) (i : Int)) r := by
  intro d
  induction d with
  | zero =>
    intro i hi'
    obtain ⟨p, q, e1, e2⟩ := H
    exact ⟨_, Ev.step (Ev.neg (by omega) e1) (fun k => spec_RangeOf.l0.eq_2 ..), Ev.step (Ev.neg (by omega) (Ev.pos (by omega) (Ev.pos (by omega) e2))) (fun k => impl_RangeOf.l0.eq_2 ..)⟩
  | succ d ih =>
    intro i hi'
    by_cases c : rd lo (i : Int) > rd hi (i : Int)
    · exact ⟨_, Ev.step (Ev.pos (by omega) (Ev.pos (by omega) (Ev.pos (by omega) (Ev.pos c (Ev.val _))))) (fun k => spec_RangeOf.l0.eq_2 ..), Ev.step (Ev.pos (by omega) (Ev.pos (by omega) (Ev.pos (by omega) (Ev.pos (by omega) (Ev.pos c (Ev.val _)))))) (fun k => impl_RangeOf.l0.eq_2 ..)⟩
    · obtain ⟨r, e1, e2⟩ := ih (i + 1) (by omega)
      rw [← wsucc i (by omega)] at e1 e2
      exact ⟨r, Ev.step (Ev.pos (by omega) (Ev.pos (by omega) (Ev.pos (by omega) (Ev.neg c e1)))) (fun k => spec_RangeOf.l0.eq_2 ..), Ev.step (Ev.pos (by omega) (Ev.pos (by omega) (Ev.pos (by omega) (Ev.pos (by omega) (Ev.neg c e2))))) (fun k => impl_RangeOf.l0.eq_2 ..)⟩
theorem range_same (l : List S73) (lo hi : List Int) (hs1 : lo.length ≤ 1048576) (hs2 : hi.length ≤ 1048576) :
    ∃ r : Int × Int × Bool, Ev (fun k => spec_RangeOf.f k l lo hi) r ∧ Ev (fun k => impl_RangeOf.f k l lo hi) r := by
  have hv := spec_valid l (lo.length : Int)
  have hv' := impl_valid l (lo.length : Int)
  obtain ⟨b1, s1, t1⟩ := spec_stok lo (by omega)
  obtain ⟨b2, s2, t2⟩ := spec_stok hi (by omega)
  obtain ⟨d1, u1, v1⟩ := impl_stok lo
  obtain ⟨d2, u2, v2⟩ := impl_stok hi
  have sj : Ev (fun k => spec_RangeOf.j0 k l lo hi true) (0, 0, false) := Ev.step (Ev.pos rfl (Ev.val _)) (fun k => spec_RangeOf.j0.eq_2 ..)
  have ij : Ev (fun k => impl_RangeOf.j0 k l lo hi true) (0, 0, false) := Ev.step (Ev.pos rfl (Ev.val _)) (fun k => impl_RangeOf.j0.eq_2 ..)
  unfold spec_RangeOf.f impl_RangeOf.f
  by_cases ok : lo.length = hi.length ∧ kindsL l (lo.length : Int) ≠ [] ∧ StOk lo ∧ StOk hi
  · obtain ⟨o1, o2, o3, o4⟩ := ok
    obtain ⟨k1, k2, k3⟩ := kindsL_typed o2
    rw [(nonempty_dec _).2 o2] at hv hv'
    rw [t1.2 o3] at s1
    rw [t2.2 o4] at s2
    rw [v1.2 ⟨by omega, o3⟩] at u1
    rw [v2.2 ⟨by omega, o4⟩] at u2
    have H := range_loop l _ _ lo hi k3 o3 o4 (Int.le_refl _) (by omega) k2.1 k2.2 l.length 0 [] (List.replicate l.length z94) (by omega) rfl (fun j hj => absurd hj (by simp)) (fun j hj => absurd hj (by simp)) (by simp) (fun j hj => absurd hj (by omega))
    obtain ⟨r, e1, e2⟩ := le_loop l lo hi o1 (by omega) k2.2 H lo.length 0 (by omega)
    exact ⟨r, Ev.pos (by omega) (Ev.bind hv (Ev.pos rfl (Ev.bind s1 (Ev.pos rfl (Ev.bind s2 (Ev.step (Ev.neg (by simp) e1) (fun k => spec_RangeOf.j0.eq_2 ..))))))),
      Ev.bind (Ev.const u1) (Ev.pos rfl (Ev.bind (Ev.const u2) (Ev.pos rfl (Ev.pos (by omega) (Ev.bind hv' (Ev.step (Ev.neg (by simp) e2) (fun k => impl_RangeOf.j0.eq_2 ..)))))))⟩
  · refine ⟨(0, 0, false), ?_, ?_⟩
    · by_cases c1 : (lo.length : Int) = (hi.length : Int)
      · refine Ev.pos c1 (Ev.bind hv ?_)
        by_cases c2 : (!(kindsL l (lo.length : Int)).isEmpty) = true
        · refine Ev.pos c2 (Ev.bind s1 ?_)
          by_cases c3 : b1 = true
          · refine Ev.pos c3 (Ev.bind s2 ?_)
            have c4 : b2 = false := by
              cases hb : b2 with
              | false => rfl
              | true => exact absurd ⟨by omega, (nonempty_dec _).1 c2, t1.1 c3, t2.1 hb⟩ ok
            rw [c4]
            exact sj
          · exact Ev.neg c3 sj
        · exact Ev.neg c2 sj
      · exact Ev.neg c1 sj
    · refine Ev.bind (Ev.const u1) ?_
      by_cases c3 : d1 = true
      · refine Ev.pos c3 (Ev.bind (Ev.const u2) ?_)
        by_cases c4 : d2 = true
        · refine Ev.pos c4 ?_
          by_cases c1 : (lo.length : Int) = (hi.length : Int)
          · refine Ev.pos c1 (Ev.bind hv' ?_)
            have c2 : (!(kindsL l (lo.length : Int)).isEmpty) = false := by
              cases hb : (!(kindsL l (lo.length : Int)).isEmpty) with
              | false => rfl
              | true => exact absurd ⟨by omega, (nonempty_dec _).1 hb, (v1.1 c3).2, (v2.1 c4).2⟩ ok
            rw [c2]
            exact ij
          · exact Ev.neg c1 ij
        · exact Ev.neg c4 ij
      · exact Ev.neg c3 ij

theorem FnExactRangeOf : laws_FnExactRangeOf.Pure := by
  intro l lo hi hl _ _
  apply Ev.get
  unfold laws_FnExactRangeOf.f
  by_cases hb : (lo.length : Int) > 1048576
  · exact Ev.pos hb (Ev.val _)
  refine Ev.neg hb ?_
  by_cases hb2 : (hi.length : Int) > 1048576
  · exact Ev.pos hb2 (Ev.val _)
  refine Ev.neg hb2 ?_
  obtain ⟨z, hz, hz2⟩ := sz_terms l hl.1
  refine Ev.bind (Ev.const hz) ?_
  by_cases c : z < 0
  · exact Ev.pos c (Ev.val _)
  refine Ev.neg c ?_
  have hl2 : l.length ≤ 1048576 := by omega
  have hs1 : lo.length ≤ 1048576 := by omega
  have hs2 : hi.length ≤ 1048576 := by omega
  obtain ⟨r, hr⟩ := to_terms l hl2
  have hrl := to_terms_len l r hr
  have ts := to_ints lo hs1
  have us := to_ints hi hs2
  obtain ⟨v, h1, h2⟩ := range_same r lo hi hs1 hs2
  refine Ev.bind hr (Ev.bind ts (Ev.bind us (Ev.bind h1 (Ev.bind hr (Ev.bind ts (Ev.bind us (Ev.bind h2 (Ev.pos rfl (Ev.pos rfl (Ev.step ?_ (fun k => laws_FnExactRangeOf.j0.eq_2 ..)))))))))))
  exact Ev.neg (by simp) (Ev.bind hr (Ev.bind (eq_terms r (by omega)) (Ev.pos rfl (Ev.bind ts (Ev.bind (eq_ints lo hs1) (Ev.pos rfl (Ev.bind us (Ev.bind (eq_ints hi hs2) (Ev.pos rfl (Ev.val _))))))))))

end Go.Proofs.Ytpfkgmcbogcmoaa.Pure
