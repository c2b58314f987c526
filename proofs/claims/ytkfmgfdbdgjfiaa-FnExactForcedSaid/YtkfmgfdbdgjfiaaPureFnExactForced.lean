/- FnExactForced: the program and the reference force the same, whatever is handed in; what was handed in is as before, and what is handed back shares no memory with it. -/
import Derived.Test.YtkfmgfdbdgjfiaaQFnExactForcedx7
namespace Go.Proofs.Ytkfmgfdbdgjfiaa.Pure
open Go.RowKit Go.Proofs.Ytkfmgfdbdgjfiaa.QFnExactForced Go.Proofs.YtkfmgfdbdgjfiaaW.PrintWords Go.Proofs.YtkfmgfdbdgjfiaaW.PrintLast Go.Proofs.YtkfmgfdbdgjfiaaW.PrintMore
set_option linter.unusedVariables false
set_option linter.unusedSimpArgs false

/-! #### rounds -/
/-- From some number of rounds on, g tells r. -/
def Ev {α : Type} (g : Nat → Option α) (r : α) : Prop := ∃ K, ∀ k, K ≤ k → g k = some r
theorem Ev.val {α : Type} (r : α) : Ev (fun _ => some r) r := ⟨0, fun _ _ => rfl⟩
theorem Ev.valEq {α : Type} {r r' : α} (h : r = r') : Ev (fun _ => some r) r' := ⟨0, fun _ _ => by rw [h]⟩
theorem Ev.bind {α β : Type} {g : Nat → Option α} {f : Nat → α → Option β} {a : α} {b : β} (h : Ev g a) (h2 : Ev (fun k => f k a) b) : Ev (fun k => (g k).bind (f k)) b := by
  obtain ⟨K, hK⟩ := h
  obtain ⟨L, hL⟩ := h2
  exact ⟨max K L, fun k hk => by show (g k).bind (f k) = _; rw [hK k (by omega)]; exact hL k (by omega)⟩
theorem Ev.step {α : Type} {g g' : Nat → Option α} {r : α} (h : Ev g' r) (e : ∀ k, g (k + 1) = g' k) : Ev g r := by
  obtain ⟨K, hK⟩ := h
  exact ⟨K + 1, fun k hk => by
    obtain ⟨m, rfl⟩ : ∃ m, k = m + 1 := ⟨k - 1, by omega⟩
    rw [e]
    exact hK m (by omega)⟩
theorem Ev.pos {α : Type} {c : Prop} [Decidable c] {g g' : Nat → Option α} {r : α} (hc : c) (h : Ev g r) : Ev (fun k => if c then g k else g' k) r := by
  obtain ⟨K, hK⟩ := h
  exact ⟨K, fun k hk => by simp only [if_pos hc]; exact hK k hk⟩
theorem Ev.neg {α : Type} {c : Prop} [Decidable c] {g g' : Nat → Option α} {r : α} (hc : ¬ c) (h : Ev g' r) : Ev (fun k => if c then g k else g' k) r := by
  obtain ⟨K, hK⟩ := h
  exact ⟨K, fun k hk => by simp only [if_neg hc]; exact hK k hk⟩
theorem Ev.get {α : Type} {g : Nat → Option α} {r : α} (h : Ev g r) : ∃ k, g k = some r := by
  obtain ⟨K, hK⟩ := h
  exact ⟨K, hK K (Nat.le_refl _)⟩
/-! #### numbers -/
theorem w_id {x : Int} (h0 : -9223372036854775808 ≤ x) (h1 : x ≤ 9223372036854775807) : wrap64 x = x := by
  unfold wrap64
  omega
/-! #### lists -/
theorem rd_nat (l : List Int) (i : Nat) : rd l (i : Int) = l.getD i 0 := by
  unfold rd
  rw [Int.toNat_natCast]
theorem getD_lt {α : Type} {l : List α} {i : Nat} (h : i < l.length) (d : α) : l.getD i d = l[i] := by
  rw [List.getD_eq_getElem?_getD, List.getElem?_eq_getElem h]
  rfl
theorem rd_lt {l : List Int} {i : Nat} (h : i < l.length) : rd l (i : Int) = l[i] := by rw [rd_nat, getD_lt h]
theorem rd_set_eq {l : List Int} {i : Nat} {v : Int} (h : i < l.length) : rd (l.set i v) (i : Int) = v := by
  rw [rd_lt (by simpa using h)]
  simp
theorem rd_set_ne {l : List Int} {i j : Nat} {v : Int} (h : i ≠ j) : rd (l.set i v) (j : Int) = rd l (j : Int) := by
  rw [rd_nat, rd_nat, List.getD_eq_getElem?_getD, List.getD_eq_getElem?_getD, List.getElem?_set_ne h]
theorem rd_app_lt {l m : List Int} {j : Nat} (h : j < l.length) : rd (l ++ m) (j : Int) = rd l (j : Int) := by
  rw [rd_nat, rd_nat, List.getD_eq_getElem?_getD, List.getD_eq_getElem?_getD, List.getElem?_append_left h]
theorem rd_app_eq {l : List Int} {v : Int} : rd (l ++ [v]) (l.length : Int) = v := by
  rw [rd_nat, List.getD_eq_getElem?_getD, List.getElem?_append_right (Nat.le_refl _)]
  simp
theorem list_eq_rd {l m : List Int} (hl : l.length = m.length) (h : ∀ j : Nat, j < l.length → rd l (j : Int) = rd m (j : Int)) : l = m := by
  apply List.ext_getElem hl
  intro i h1 h2
  rw [← rd_lt h1, ← rd_lt h2]
  exact h i h1
theorem wsucc (i : Nat) (h : i ≤ 4611686018427387904) : wrap64 ((i : Int) + 1) = ((i + 1 : Nat) : Int) := by
  unfold wrap64
  omega
/-- g tells in the end whether p is so. -/
def Dec (g : Nat → Option Bool) (p : Prop) : Prop := ∃ b, Ev g b ∧ (b = true ↔ p)
theorem Dec.yes {g : Nat → Option Bool} {p : Prop} (h : Ev g true) (hp : p) : Dec g p := ⟨true, h, by simp [hp]⟩
theorem Dec.no {g : Nat → Option Bool} {p : Prop} (h : Ev g false) (hp : ¬ p) : Dec g p := ⟨false, h, by simp [hp]⟩
theorem Dec.iff {g : Nat → Option Bool} {p q : Prop} (h : Dec g p) (e : p ↔ q) : Dec g q := by
  obtain ⟨b, h1, h2⟩ := h
  exact ⟨b, h1, h2.trans e⟩
theorem all_from {P : Nat → Prop} {i n : Nat} (hi : i < n) : (∀ j, i ≤ j → j < n → P j) ↔ P i ∧ ∀ j, i + 1 ≤ j → j < n → P j := by
  constructor
  · intro h
    exact ⟨h i (Nat.le_refl _) hi, fun j h1 h2 => h j (by omega) h2⟩
  · rintro ⟨h1, h2⟩ j h3 h4
    rcases Nat.lt_or_eq_of_le h3 with h | rfl
    · exact h2 j h h4
    · exact h1
theorem all_none {P : Nat → Prop} {i n : Nat} (hi : n ≤ i) : ∀ j, i ≤ j → j < n → P j := fun j h1 h2 => by omega
/-! #### it tells something, of which P holds -/
def Tot {α : Type} (g : Nat → Option α) (P : α → Prop) : Prop := ∃ r, Ev g r ∧ P r
theorem Tot.val {α : Type} {P : α → Prop} {r : α} (h : P r) : Tot (fun _ => some r) P := ⟨r, Ev.val r, h⟩
theorem Tot.mono {α : Type} {g : Nat → Option α} {P Q : α → Prop} (h : Tot g P) (hq : ∀ r, P r → Q r) : Tot g Q := by
  obtain ⟨r, h1, h2⟩ := h
  exact ⟨r, h1, hq r h2⟩
theorem Tot.step {α : Type} {g g' : Nat → Option α} {P : α → Prop} (h : Tot g' P) (e : ∀ k, g (k + 1) = g' k) : Tot g P := by
  obtain ⟨r, h1, h2⟩ := h
  exact ⟨r, Ev.step h1 e, h2⟩
theorem Tot.bind {α β : Type} {g : Nat → Option α} {f : Nat → α → Option β} {Q : α → Prop} {P : β → Prop} (h : Tot g Q) (h2 : ∀ a, Q a → Tot (fun k => f k a) P) : Tot (fun k => (g k).bind (f k)) P := by
  obtain ⟨a, ha, hq⟩ := h
  obtain ⟨r, h1, h3⟩ := h2 a hq
  exact ⟨r, Ev.bind ha h1, h3⟩
theorem Tot.pos {α : Type} {c : Prop} [Decidable c] {g g' : Nat → Option α} {P : α → Prop} (hc : c) (h : Tot g P) : Tot (fun k => if c then g k else g' k) P := by
  obtain ⟨r, h1, h2⟩ := h
  exact ⟨r, Ev.pos hc h1, h2⟩
theorem Tot.neg {α : Type} {c : Prop} [Decidable c] {g g' : Nat → Option α} {P : α → Prop} (hc : ¬ c) (h : Tot g' P) : Tot (fun k => if c then g k else g' k) P := by
  obtain ⟨r, h1, h2⟩ := h
  exact ⟨r, Ev.neg hc h1, h2⟩
theorem Tot.ite {α : Type} {c : Prop} [Decidable c] {g g' : Nat → Option α} {P : α → Prop} (h1 : c → Tot g P) (h2 : ¬ c → Tot g' P) : Tot (fun k => if c then g k else g' k) P := by
  by_cases hc : c
  · exact Tot.pos hc (h1 hc)
  · exact Tot.neg hc (h2 hc)
/-! #### rows of whole numbers: sizes, copies, comparisons -/
theorem maxLen_val : maxLen = 9223372036854775807 := by decide
theorem rows_nat (l : List (List Int)) (i : Nat) : rd_L1 l (i : Int) = l.getD i [] := by
  unfold rd_L1
  rw [Int.toNat_natCast]
theorem rows_lt {l : List (List Int)} {i : Nat} (h : i < l.length) : rd_L1 l (i : Int) = l[i] := by rw [rows_nat, getD_lt h]
theorem rows_mem {l : List (List Int)} {i : Nat} (h : i < l.length) : rd_L1 l (i : Int) ∈ l := by
  rw [rows_lt h]
  exact List.getElem_mem h
theorem sz_ints (l : List Int) (a : Int) (hl : l.length ≤ 9223372036854775807) (ha0 : 0 ≤ a) (ha : a ≤ 1048576) :
    Tot (fun _ => laws_szIntS.f l a) (fun r => r ≤ a ∧ (0 ≤ r → (l.length : Int) ≤ a)) := by
  have w1 : wrap64 (a - (l.length : Int)) = a - (l.length : Int) := w_id (by omega) (by omega)
  unfold laws_szIntS.f
  rw [w1]
  exact Tot.ite (fun h => Tot.val ⟨by omega, by omega⟩) (fun h => Tot.val ⟨by omega, by omega⟩)
theorem sz_rows_loop (l : List (List Int)) (hl : l.length ≤ 1048576) (hr : ∀ x ∈ l, x.length ≤ 9223372036854775807) : ∀ (d i : Nat) (a : Int), i + d = l.length → 0 ≤ a → a ≤ 1048576 →
    Tot (fun k => laws_szIntSS.l0 k l a (i : Int)) (fun r => r ≤ a ∧ (0 ≤ r → ∀ j : Nat, i ≤ j → j < l.length → ((rd_L1 l (j : Int)).length : Int) ≤ a)) := by
  intro d
  induction d with
  | zero =>
    intro i a hi h0 h1
    exact Tot.step (Tot.neg (by omega) (Tot.val ⟨by omega, fun _ j h1 h2 => by omega⟩)) (fun k => laws_szIntSS.l0.eq_2 ..)
  | succ d ih =>
    intro i a hi h0 h1
    have hwi := wsucc i (by omega)
    refine Tot.step (Tot.pos (by omega) (Tot.pos (by omega) (Tot.bind (sz_ints (rd_L1 l (i : Int)) a (hr _ (rows_mem (by omega))) h0 h1) ?_))) (fun k => laws_szIntSS.l0.eq_2 ..)
    rintro t ⟨t1, t2⟩
    refine Tot.ite (fun h => Tot.val ⟨by omega, by omega⟩) (fun h => ?_)
    rw [hwi]
    refine (ih (i + 1) t (by omega) (by omega) (by omega)).mono ?_
    rintro r ⟨r1, r2⟩
    refine ⟨by omega, fun hr0 j j1 j2 => ?_⟩
    rcases Nat.lt_or_eq_of_le j1 with j3 | rfl
    · have := r2 hr0 j j3 j2
      omega
    · exact t2 (by omega)
theorem sz_rows (l : List (List Int)) (a : Int) (hl : l.length ≤ 9223372036854775807) (hr : ∀ x ∈ l, x.length ≤ 9223372036854775807) (ha0 : 0 ≤ a) (ha : a ≤ 1048576) :
    Tot (fun k => laws_szIntSS.f k l a) (fun r => r ≤ a ∧ (0 ≤ r → l.length ≤ 1048576 ∧ ∀ j : Nat, j < l.length → (rd_L1 l (j : Int)).length ≤ 1048576)) := by
  have w1 : wrap64 (a - (l.length : Int)) = a - (l.length : Int) := w_id (by omega) (by omega)
  unfold laws_szIntSS.f
  rw [w1]
  refine Tot.ite (fun h => Tot.val ⟨by omega, by omega⟩) (fun h => ?_)
  refine (sz_rows_loop l (by omega) hr l.length 0 (a - (l.length : Int)) (by omega) (by omega) (by omega)).mono ?_
  rintro r ⟨r1, r2⟩
  exact ⟨by omega, fun h0 => ⟨by omega, fun j hj => by have := r2 h0 j (by omega) hj; omega⟩⟩
/-- The copy up to i. -/
theorem to_ints_loop (l : List Int) (hl : l.length ≤ 1048576) : ∀ (d i : Nat) (ys : List Int), i + d = l.length → ys.length = l.length → (∀ j : Nat, j < i → rd ys (j : Int) = rd l (j : Int)) →
    Ev (fun k => laws_toIntS.l0 k l ys (i : Int)) l := by
  intro d
  induction d with
  | zero =>
    intro i ys hi hy h
    refine Ev.step (Ev.neg (by omega) (Ev.valEq ?_)) (fun k => laws_toIntS.l0.eq_2 ..)
    exact list_eq_rd hy (fun j hj => h j (by omega))
  | succ d ih =>
    intro i ys hi hy h
    have hwi := wsucc i (by omega)
    refine Ev.step (Ev.pos (by omega) (Ev.pos (by omega) (Ev.pos (by omega) ?_))) (fun k => laws_toIntS.l0.eq_2 ..)
    rw [hwi, Int.toNat_natCast]
    refine ih (i + 1) _ (by omega) (by simpa using hy) ?_
    intro j hj
    by_cases e : j = i
    · subst e
      rw [rd_set_eq (by omega)]
    · rw [rd_set_ne (by omega)]
      exact h j (by omega)
theorem to_ints (l : List Int) (hl : l.length ≤ 1048576) : Ev (fun k => laws_toIntS.f k l) l := by
  unfold laws_toIntS.f
  rw [Int.toNat_natCast]
  exact Ev.pos (by omega) (Ev.pos (by omega) (to_ints_loop l hl l.length 0 _ (by omega) (by simp) (fun j hj => by omega)))
theorem to_rows_loop (l : List (List Int)) (hl : l.length ≤ 1048576) (hr : ∀ j : Nat, j < l.length → (rd_L1 l (j : Int)).length ≤ 1048576) : ∀ (d i : Nat) (ys : List (List Int)), i + d = l.length → ys.length = l.length → (∀ j : Nat, j < i → rd_L1 ys (j : Int) = rd_L1 l (j : Int)) →
    Ev (fun k => laws_toIntSS.l0 k l ys (i : Int)) l := by
  intro d
  induction d with
  | zero =>
    intro i ys hi hy h
    refine Ev.step (Ev.neg (by omega) (Ev.valEq ?_)) (fun k => laws_toIntSS.l0.eq_2 ..)
    apply List.ext_getElem hy
    intro j h1 h2
    rw [← rows_lt h1, ← rows_lt h2]
    exact h j (by omega)
  | succ d ih =>
    intro i ys hi hy h
    have hwi := wsucc i (by omega)
    refine Ev.step (Ev.pos (by omega) (Ev.pos (by omega) (Ev.bind (to_ints _ (hr i (by omega))) (Ev.pos (by omega) ?_)))) (fun k => laws_toIntSS.l0.eq_2 ..)
    rw [hwi, Int.toNat_natCast]
    refine ih (i + 1) _ (by omega) (by simpa using hy) ?_
    intro j hj
    by_cases e : j = i
    · subst e
      rw [rows_lt (by simp; omega)]
      simp
    · rw [rows_nat, List.getD_eq_getElem?_getD, List.getElem?_set_ne (by omega), ← List.getD_eq_getElem?_getD, ← rows_nat]
      exact h j (by omega)
theorem to_rows (l : List (List Int)) (hl : l.length ≤ 1048576) (hr : ∀ j : Nat, j < l.length → (rd_L1 l (j : Int)).length ≤ 1048576) : Ev (fun k => laws_toIntSS.f k l) l := by
  unfold laws_toIntSS.f
  rw [Int.toNat_natCast]
  exact Ev.pos (by omega) (Ev.pos (by omega) (to_rows_loop l hl hr l.length 0 _ (by omega) (by simp) (fun j hj => by omega)))
theorem eq_ints_loop (l : List Int) (hl : l.length ≤ 1048576) : ∀ (d i : Nat), i + d = l.length → Ev (fun k => laws_eqIntS.l0 k l l (i : Int)) true := by
  intro d
  induction d with
  | zero =>
    intro i hi
    exact Ev.step (Ev.neg (by omega) (Ev.val _)) (fun k => laws_eqIntS.l0.eq_2 ..)
  | succ d ih =>
    intro i hi
    have hwi := wsucc i (by omega)
    refine Ev.step ?_ (fun k => laws_eqIntS.l0.eq_2 ..)
    rw [hwi]
    exact Ev.pos (by omega) (Ev.pos (by omega) (Ev.pos (by omega) (Ev.pos rfl (ih (i + 1) (by omega)))))
theorem eq_ints (l : List Int) (hl : l.length ≤ 1048576) : Ev (fun k => laws_eqIntS.f k l l) true := by
  unfold laws_eqIntS.f
  exact Ev.pos rfl (eq_ints_loop l hl l.length 0 (by omega))
theorem eq_rows_loop (l : List (List Int)) (hl : l.length ≤ 1048576) (hr : ∀ j : Nat, j < l.length → (rd_L1 l (j : Int)).length ≤ 1048576) : ∀ (d i : Nat), i + d = l.length → Ev (fun k => laws_eqIntSS.l0 k l l (i : Int)) true := by
  intro d
  induction d with
  | zero =>
    intro i hi
    exact Ev.step (Ev.neg (by omega) (Ev.val _)) (fun k => laws_eqIntSS.l0.eq_2 ..)
  | succ d ih =>
    intro i hi
    have hwi := wsucc i (by omega)
    refine Ev.step ?_ (fun k => laws_eqIntSS.l0.eq_2 ..)
    rw [hwi]
    exact Ev.pos (by omega) (Ev.pos (by omega) (Ev.pos (by omega) (Ev.bind (eq_ints _ (hr i (by omega))) (Ev.pos rfl (ih (i + 1) (by omega))))))
theorem eq_rows (l : List (List Int)) (hl : l.length ≤ 1048576) (hr : ∀ j : Nat, j < l.length → (rd_L1 l (j : Int)).length ≤ 1048576) : Ev (fun k => laws_eqIntSS.f k l l) true := by
  unfold laws_eqIntSS.f
  exact Ev.pos rfl (eq_rows_loop l hl hr l.length 0 (by omega))
/-! #### clauses -/
theorem wneg {x : Int} (h0 : -9223372036854775807 ≤ x) (h1 : x ≤ 9223372036854775807) : wrap64 (-x) = -x := w_id (by omega) (by omega)
/-- The atom of a literal. -/
def AbsI (x : Int) : Int := if x < 0 then -x else x
theorem absI_pos (x : Int) : 0 ≤ AbsI x := by unfold AbsI; split <;> omega
theorem spec_abs {x : Int} (h0 : -9223372036854775807 ≤ x) (h1 : x ≤ 9223372036854775807) : Ev (fun _ => spec_l11Abs.f x) (AbsI x) := by
  unfold spec_l11Abs.f AbsI
  by_cases h : x < 0
  · exact Ev.pos h (Ev.valEq (by rw [wneg h0 h1, if_pos h]))
  · exact Ev.neg h (Ev.valEq (by rw [if_neg h]))
theorem impl_abs {x : Int} (h0 : -9223372036854775807 ≤ x) (h1 : x ≤ 9223372036854775807) : Ev (fun _ => impl_atomOf.f x) (AbsI x) := by
  unfold impl_atomOf.f
  rw [wneg h0 h1]
  refine Ev.valEq ?_
  unfold mx AbsI
  split <;> split <;> omega
theorem in_dec {x a b : Int} : Ev (fun _ => impl_in.f x a b) (decide (a ≤ x ∧ x ≤ b)) := by
  unfold impl_in.f
  by_cases h : x ≥ a
  · refine Ev.pos h (Ev.valEq ?_)
    simp only [decide_eq_decide]
    omega
  · refine Ev.neg h (Ev.valEq ?_)
    symm
    rw [decide_eq_false_iff_not]
    omega
theorem sin_dec {x a b : Int} : Ev (fun _ => spec_l1In.f x a b) (decide (a ≤ x ∧ x ≤ b)) := by
  unfold spec_l1In.f
  by_cases h : x ≥ a
  · refine Ev.pos h (Ev.valEq ?_)
    simp only [decide_eq_decide]
    omega
  · refine Ev.neg h (Ev.valEq ?_)
    symm
    rw [decide_eq_false_iff_not]
    omega
/-- A literal of n atoms. -/
def LitOk (n x : Int) : Prop := x ≠ 0 ∧ -n ≤ x ∧ x ≤ n
instance (n x : Int) : Decidable (LitOk n x) := by unfold LitOk; infer_instance
theorem spec_lit {n x : Int} (hn : -9223372036854775807 ≤ n) (hn2 : n ≤ 9223372036854775807) : Ev (fun _ => spec_l11Lit.f x n) (decide (LitOk n x)) := by
  unfold spec_l11Lit.f
  by_cases h : x = 0
  · exact Ev.pos h (Ev.valEq (by symm; rw [decide_eq_false_iff_not]; exact fun h1 => h1.1 h))
  · rw [wneg hn hn2]
    refine Ev.neg h (Ev.bind sin_dec (Ev.valEq ?_))
    simp only [decide_eq_decide]
    unfold LitOk
    omega
/-- Place j of a clause of n atoms. -/
def PlaceOk (n : Int) (c : List Int) (j : Nat) : Prop := LitOk n (rd c (j : Int)) ∧ (0 < j → AbsI (rd c ((j - 1 : Nat) : Int)) < AbsI (rd c (j : Int)))
def ClauseOk (n : Int) (c : List Int) : Prop := (0 ≤ n ∧ n ≤ 700) ∧ ∀ j : Nat, j < c.length → PlaceOk n c j
theorem spec_clause_loop (n : Int) (hn : 0 ≤ n ∧ n ≤ 700) (c : List Int) (hc : c.length ≤ 1048576) : ∀ (d i : Nat), i + d = c.length → (∀ j : Nat, j < i → PlaceOk n c j) →
    Dec (fun k => spec_ClauseValid.l0 k c n (i : Int)) (∀ j : Nat, i ≤ j → j < c.length → PlaceOk n c j) := by
  intro d
  induction d with
  | zero =>
    intro i hi hp
    refine Dec.yes (Ev.step (Ev.neg (by omega) (Ev.bind sin_dec (Ev.valEq ?_))) (fun k => spec_ClauseValid.l0.eq_2 ..)) (all_none (by omega))
    simp [hn]
  | succ d ih =>
    intro i hi hp
    have hwi := wsucc i (by omega)
    have hlt : i < c.length := by omega
    by_cases h : LitOk n (rd c (i : Int))
    · by_cases h0 : 0 < i
      · have hw : wrap64 ((i : Int) - 1) = ((i - 1 : Nat) : Int) := by rw [w_id (by omega) (by omega)]; omega
        have hq := (hp (i - 1) (by omega)).1
        by_cases h2 : AbsI (rd c (i : Int)) ≤ AbsI (rd c ((i - 1 : Nat) : Int))
        · refine Dec.no (Ev.step ?_ (fun k => spec_ClauseValid.l0.eq_2 ..)) (fun h3 => ?_)
          · rw [hwi, hw]
            refine Ev.pos (by omega) (Ev.pos (by omega) (Ev.bind (spec_lit (by omega) (by omega)) (Ev.pos (by simpa using h) (Ev.pos (by omega) (Ev.bind (spec_abs (by have := h.2; omega) (by have := h.2; omega)) (Ev.pos (by omega) (Ev.pos (by omega) (Ev.bind (spec_abs (by have := hq.2; omega) (by have := hq.2; omega)) (Ev.pos h2 (Ev.val _))))))))))
          · have := (h3 i (Nat.le_refl _) hlt).2 h0
            omega
        · obtain ⟨b, hb, hbi⟩ := ih (i + 1) (by omega) (fun j hj => by
            rcases Nat.lt_succ_iff_lt_or_eq.mp hj with h5 | rfl
            · exact hp j h5
            · exact ⟨h, fun _ => by omega⟩)
          refine ⟨b, Ev.step ?_ (fun k => spec_ClauseValid.l0.eq_2 ..), ?_⟩
          · rw [hwi, hw]
            refine Ev.pos (by omega) (Ev.pos (by omega) (Ev.bind (spec_lit (by omega) (by omega)) (Ev.pos (by simpa using h) (Ev.pos (by omega) (Ev.bind (spec_abs (by have := h.2; omega) (by have := h.2; omega)) (Ev.pos (by omega) (Ev.pos (by omega) (Ev.bind (spec_abs (by have := hq.2; omega) (by have := hq.2; omega)) (Ev.neg h2 hb)))))))))
          · rw [hbi, all_from (P := PlaceOk n c) hlt]
            exact ⟨fun h3 => ⟨⟨h, fun _ => by omega⟩, h3⟩, fun h3 => h3.2⟩
      · obtain ⟨b, hb, hbi⟩ := ih (i + 1) (by omega) (fun j hj => by
          rcases Nat.lt_succ_iff_lt_or_eq.mp hj with h5 | rfl
          · exact hp j h5
          · exact ⟨h, fun h6 => absurd h6 h0⟩)
        refine ⟨b, Ev.step ?_ (fun k => spec_ClauseValid.l0.eq_2 ..), ?_⟩
        · rw [hwi]
          exact Ev.pos (by omega) (Ev.pos (by omega) (Ev.bind (spec_lit (by omega) (by omega)) (Ev.pos (by simpa using h) (Ev.neg (by omega) hb))))
        · rw [hbi, all_from (P := PlaceOk n c) hlt]
          exact ⟨fun h3 => ⟨⟨h, fun h6 => absurd h6 h0⟩, h3⟩, fun h3 => h3.2⟩
    · refine Dec.no (Ev.step (Ev.pos (by omega) (Ev.pos (by omega) (Ev.bind (spec_lit (by omega) (by omega)) (Ev.neg (by simpa using h) (Ev.val _))))) (fun k => spec_ClauseValid.l0.eq_2 ..)) (fun h3 => h (h3 i (Nat.le_refl _) hlt).1)
theorem impl_clause_loop (n : Int) (hn : 0 ≤ n ∧ n ≤ 700) (c : List Int) (hc : c.length ≤ 1048576) : ∀ (d i : Nat), i + d = c.length → (∀ j : Nat, j < i → PlaceOk n c j) →
    Dec (fun k => impl_ClauseValid.l0 k c n c (c.length : Int) (i : Int)) (∀ j : Nat, i ≤ j → j < c.length → PlaceOk n c j) := by
  intro d
  have hwn := wneg (x := n) (by omega) (by omega)
  induction d with
  | zero =>
    intro i hi hp
    exact Dec.yes (Ev.step (Ev.neg (by omega) (Ev.val _)) (fun k => impl_ClauseValid.l0.eq_2 ..)) (all_none (by omega))
  | succ d ih =>
    intro i hi hp
    have hwi := wsucc i (by omega)
    have hlt : i < c.length := by omega
    by_cases hr : -n ≤ rd c (i : Int) ∧ rd c (i : Int) ≤ n
    · by_cases hz : rd c (i : Int) = 0
      · refine Dec.no (Ev.step ?_ (fun k => impl_ClauseValid.l0.eq_2 ..)) (fun h3 => (h3 i (Nat.le_refl _) hlt).1.1 hz)
        rw [hwn]
        exact Ev.pos (by omega) (Ev.pos (by omega) (Ev.pos (by omega) (Ev.bind in_dec (Ev.pos (by simpa using hr) (Ev.pos hz (Ev.val _))))))
      · have h : LitOk n (rd c (i : Int)) := ⟨hz, hr⟩
        by_cases h0 : 0 < i
        · have hw : wrap64 ((i : Int) - 1) = ((i - 1 : Nat) : Int) := by rw [w_id (by omega) (by omega)]; omega
          have hq := (hp (i - 1) (by omega)).1
          by_cases h2 : AbsI (rd c ((i - 1 : Nat) : Int)) ≥ AbsI (rd c (i : Int))
          · refine Dec.no (Ev.step ?_ (fun k => impl_ClauseValid.l0.eq_2 ..)) (fun h3 => ?_)
            · rw [hwi, hw, hwn]
              exact Ev.pos (by omega) (Ev.pos (by omega) (Ev.pos (by omega) (Ev.bind in_dec (Ev.pos (by simpa using hr) (Ev.neg hz (Ev.pos (by omega) (Ev.pos (by omega) (Ev.pos (by omega) (Ev.bind (impl_abs (by have := hq.2; omega) (by have := hq.2; omega)) (Ev.bind (impl_abs (by have := h.2; omega) (by have := h.2; omega)) (Ev.pos h2 (Ev.val _))))))))))))
            · have := (h3 i (Nat.le_refl _) hlt).2 h0
              omega
          · obtain ⟨b, hb, hbi⟩ := ih (i + 1) (by omega) (fun j hj => by
              rcases Nat.lt_succ_iff_lt_or_eq.mp hj with h5 | rfl
              · exact hp j h5
              · exact ⟨h, fun _ => by omega⟩)
            refine ⟨b, Ev.step ?_ (fun k => impl_ClauseValid.l0.eq_2 ..), ?_⟩
            · rw [hwi, hw, hwn]
              exact Ev.pos (by omega) (Ev.pos (by omega) (Ev.pos (by omega) (Ev.bind in_dec (Ev.pos (by simpa using hr) (Ev.neg hz (Ev.pos (by omega) (Ev.pos (by omega) (Ev.pos (by omega) (Ev.bind (impl_abs (by have := hq.2; omega) (by have := hq.2; omega)) (Ev.bind (impl_abs (by have := h.2; omega) (by have := h.2; omega)) (Ev.neg h2 hb)))))))))))
            · rw [hbi, all_from (P := PlaceOk n c) hlt]
              exact ⟨fun h3 => ⟨⟨h, fun _ => by omega⟩, h3⟩, fun h3 => h3.2⟩
        · obtain ⟨b, hb, hbi⟩ := ih (i + 1) (by omega) (fun j hj => by
            rcases Nat.lt_succ_iff_lt_or_eq.mp hj with h5 | rfl
            · exact hp j h5
            · exact ⟨h, fun h6 => absurd h6 h0⟩)
          refine ⟨b, Ev.step ?_ (fun k => impl_ClauseValid.l0.eq_2 ..), ?_⟩
          · rw [hwi, hwn]
            exact Ev.pos (by omega) (Ev.pos (by omega) (Ev.pos (by omega) (Ev.bind in_dec (Ev.pos (by simpa using hr) (Ev.neg hz (Ev.neg (by omega) hb))))))
          · rw [hbi, all_from (P := PlaceOk n c) hlt]
            exact ⟨fun h3 => ⟨⟨h, fun h6 => absurd h6 h0⟩, h3⟩, fun h3 => h3.2⟩
    · refine Dec.no (Ev.step ?_ (fun k => impl_ClauseValid.l0.eq_2 ..)) (fun h3 => hr (h3 i (Nat.le_refl _) hlt).1.2)
      rw [hwn]
      exact Ev.pos (by omega) (Ev.pos (by omega) (Ev.pos (by omega) (Ev.bind in_dec (Ev.neg (by simpa using hr) (Ev.val _)))))
/-- Of any number of atoms, the reference tells something. -/
theorem spec_clause_any_loop (n : Int) (hn : ¬ (0 ≤ n ∧ n ≤ 700)) (c : List Int) (hc : c.length ≤ 1048576) : ∀ (d i : Nat), i + d = c.length → Ev (fun k => spec_ClauseValid.l0 k c n (i : Int)) false := by
  intro d
  induction d with
  | zero =>
    intro i hi
    refine Ev.step (Ev.neg (by omega) (Ev.bind sin_dec (Ev.valEq ?_))) (fun k => spec_ClauseValid.l0.eq_2 ..)
    simpa using hn
  | succ d ih =>
    intro i hi
    have hwi := wsucc i (by omega)
    have hlit : ∃ b, Ev (fun _ => spec_l11Lit.f (rd c (i : Int)) n) b := by
      unfold spec_l11Lit.f
      by_cases h : rd c (i : Int) = 0
      · exact ⟨_, Ev.pos h (Ev.val _)⟩
      · exact ⟨_, Ev.neg h (Ev.bind sin_dec (Ev.val _))⟩
    have habs : ∀ x : Int, ∃ b, Ev (fun _ => spec_l11Abs.f x) b := by
      intro x
      unfold spec_l11Abs.f
      by_cases h : x < 0
      · exact ⟨_, Ev.pos h (Ev.val _)⟩
      · exact ⟨_, Ev.neg h (Ev.val _)⟩
    obtain ⟨b, hb⟩ := hlit
    refine Ev.step ?_ (fun k => spec_ClauseValid.l0.eq_2 ..)
    rw [hwi]
    refine Ev.pos (by omega) (Ev.pos (by omega) (Ev.bind hb ?_))
    cases b with
    | false => exact Ev.neg (by decide) (Ev.val _)
    | true =>
      refine Ev.pos rfl ?_
      by_cases h0 : (i : Int) > 0
      · have hw : wrap64 ((i : Int) - 1) = ((i - 1 : Nat) : Int) := by rw [w_id (by omega) (by omega)]; omega
        rw [hw]
        obtain ⟨p, hp⟩ := habs (rd c (i : Int))
        obtain ⟨q, hq⟩ := habs (rd c ((i - 1 : Nat) : Int))
        refine Ev.pos h0 (Ev.bind hp (Ev.pos (by omega) (Ev.pos (by omega) (Ev.bind hq ?_))))
        by_cases h2 : p ≤ q
        · exact Ev.pos h2 (Ev.val _)
        · exact Ev.neg h2 (ih (i + 1) (by omega))
      · exact Ev.neg h0 (ih (i + 1) (by omega))
theorem spec_clause (n : Int) (c : List Int) (hc : c.length ≤ 1048576) : Dec (fun k => spec_ClauseValid.f k c n) (ClauseOk n c) := by
  unfold spec_ClauseValid.f
  by_cases hn : 0 ≤ n ∧ n ≤ 700
  · exact (spec_clause_loop n hn c hc c.length 0 (by omega) (fun j hj => by omega)).iff ⟨fun h => ⟨hn, fun j hj => h j (by omega) hj⟩, fun h j _ hj => h.2 j hj⟩
  · exact Dec.no (spec_clause_any_loop n hn c hc c.length 0 (by omega)) (fun h => hn h.1)
theorem impl_clause (n : Int) (c : List Int) (hc : c.length ≤ 1048576) : Dec (fun k => impl_ClauseValid.f k c n) (ClauseOk n c) := by
  unfold impl_ClauseValid.f
  by_cases hn : 0 ≤ n ∧ n ≤ 700
  · obtain ⟨b, h1, h2⟩ := impl_clause_loop n hn c hc c.length 0 (by omega) (fun j hj => by omega)
    exact ⟨b, Ev.bind in_dec (Ev.pos (by simpa using hn) h1), h2.trans ⟨fun h => ⟨hn, fun j hj => h j (by omega) hj⟩, fun h j _ hj => h.2 j hj⟩⟩
  · exact Dec.no (Ev.bind in_dec (Ev.neg (by simpa using hn) (Ev.val _))) (fun h => hn h.1)
/-- Clauses of n atoms. -/
def ClausesOk (n : Int) (l : List (List Int)) : Prop := (0 ≤ n ∧ n ≤ 700) ∧ l.length ≤ 2500 ∧ ∀ j : Nat, j < l.length → ClauseOk n (rd_L1 l (j : Int))
def Small (l : List (List Int)) : Prop := l.length ≤ 1048576 ∧ ∀ j : Nat, j < l.length → (rd_L1 l (j : Int)).length ≤ 1048576
theorem spec_clauses_loop (n : Int) (l : List (List Int)) (hl : Small l) : ∀ (d i : Nat), i + d = l.length →
    Dec (fun k => spec_ClausesValid.l0 k (i : Int) n l) (∀ j : Nat, i ≤ j → j < l.length → ClauseOk n (rd_L1 l (j : Int))) := by
  intro d
  have h1 := hl.1
  induction d with
  | zero =>
    intro i hi
    exact Dec.yes (Ev.step (Ev.neg (by omega) (Ev.val _)) (fun k => spec_ClausesValid.l0.eq_2 ..)) (all_none (by omega))
  | succ d ih =>
    intro i hi
    have hwi := wsucc i (by omega)
    have hlt : i < l.length := by omega
    obtain ⟨b, hb, hbi⟩ := spec_clause n (rd_L1 l (i : Int)) (hl.2 i hlt)
    cases b with
    | false => exact Dec.no (Ev.step (Ev.pos (by omega) (Ev.pos (by omega) (Ev.bind hb (Ev.neg (by decide) (Ev.val _))))) (fun k => spec_ClausesValid.l0.eq_2 ..)) (fun h => by simpa using hbi.mpr (h i (Nat.le_refl _) hlt))
    | true =>
      obtain ⟨b2, hb2, hbi2⟩ := ih (i + 1) (by omega)
      refine ⟨b2, Ev.step ?_ (fun k => spec_ClausesValid.l0.eq_2 ..), ?_⟩
      · rw [hwi]
        exact Ev.pos (by omega) (Ev.pos (by omega) (Ev.bind hb (Ev.pos rfl hb2)))
      · rw [hbi2, all_from (P := fun j => ClauseOk n (rd_L1 l (j : Int))) hlt]
        exact ⟨fun h => ⟨hbi.mp rfl, h⟩, fun h => h.2⟩
theorem spec_clauses (n : Int) (l : List (List Int)) (hl : Small l) : Dec (fun k => spec_ClausesValid.f k n l) (ClausesOk n l) := by
  unfold spec_ClausesValid.f
  by_cases hn : 0 ≤ n ∧ n ≤ 700
  · by_cases h2 : (l.length : Int) > 2500
    · refine Dec.no (Ev.bind sin_dec (Ev.pos (by simpa using hn) (Ev.step (Ev.pos (by simpa using h2) (Ev.val _)) (fun k => spec_ClausesValid.j0.eq_2 ..)))) (fun h => by have := h.2.1; omega)
    · obtain ⟨b, hb, hbi⟩ := spec_clauses_loop n l hl l.length 0 (by omega)
      exact ⟨b, Ev.bind sin_dec (Ev.pos (by simpa using hn) (Ev.step (Ev.neg (by simpa using h2) hb) (fun k => spec_ClausesValid.j0.eq_2 ..))), hbi.trans ⟨fun h => ⟨hn, by omega, fun j hj => h j (by omega) hj⟩, fun h j _ hj => h.2.2 j hj⟩⟩
  · exact Dec.no (Ev.bind sin_dec (Ev.neg (by simpa using hn) (Ev.step (Ev.pos rfl (Ev.val _)) (fun k => spec_ClausesValid.j0.eq_2 ..)))) (fun h => hn h.1)
theorem idx_tot (p : Nat → Int → Option Bool) (P : Nat → Prop) (m : Nat) (hp : ∀ j : Nat, j < m → Dec (fun k => p k (j : Int)) (P j)) : ∀ (d i : Nat), i + d = m →
    Tot (fun k => Copy.idxO (p k) d (i : Int)) (fun r => 0 ≤ r ↔ ∃ j : Nat, i ≤ j ∧ j < m ∧ P j) := by
  intro d
  induction d with
  | zero =>
    intro i hi
    exact Tot.val ⟨fun h => by omega, fun ⟨j, h1, h2, _⟩ => by omega⟩
  | succ d ih =>
    intro i hi
    obtain ⟨b, hb, hbi⟩ := hp i (by omega)
    cases b with
    | true => exact ⟨(i : Int), Ev.bind hb (Ev.pos rfl (Ev.val _)), fun _ => ⟨i, Nat.le_refl _, by omega, hbi.mp rfl⟩, fun _ => by omega⟩
    | false =>
      obtain ⟨r, hr, hri⟩ := ih (i + 1) (by omega)
      refine ⟨r, Ev.bind hb (Ev.neg (by decide) ?_), hri.trans ?_⟩
      · have e : ((i + 1 : Nat) : Int) = (i : Int) + 1 := by omega
        rw [← e]
        exact hr
      · constructor
        · rintro ⟨j, h1, h2, h3⟩
          exact ⟨j, by omega, h2, h3⟩
        · rintro ⟨j, h1, h2, h3⟩
          rcases Nat.lt_or_eq_of_le h1 with h4 | rfl
          · exact ⟨j, h4, h2, h3⟩
          · exact absurd (hbi.mpr h3) (by decide)
theorem impl_clauses (n : Int) (l : List (List Int)) (hl : Small l) : Dec (fun k => impl_ClausesValid.f k n l) (ClausesOk n l) := by
  unfold impl_ClausesValid.f
  by_cases hn : 0 ≤ n ∧ n ≤ 700
  · by_cases h2 : (l.length : Int) ≤ 2500
    · obtain ⟨r, hr, hri⟩ := idx_tot (fun k i => impl_ClausesValid.p k n l i) (fun j => ¬ ClauseOk n (rd_L1 l (j : Int))) l.length (fun j hj => by
        unfold impl_ClausesValid.p
        obtain ⟨b, hb, hbi⟩ := impl_clause n (rd_L1 l (j : Int)) (hl.2 j hj)
        exact ⟨!b, Ev.bind hb (Ev.val _), by rw [← hbi]; cases b <;> simp⟩) l.length 0 (by omega)
      refine ⟨!(decide (0 ≤ r)), Ev.bind in_dec (Ev.pos (by simpa using hn) (Ev.pos h2 (Ev.bind hr (Ev.val _)))), ?_⟩
      rw [Bool.not_eq_true', decide_eq_false_iff_not, hri]
      constructor
      · intro h
        refine ⟨hn, by omega, fun j hj => Classical.byContradiction fun h3 => h ⟨j, by omega, hj, h3⟩⟩
      · rintro h ⟨j, _, hj, h3⟩
        exact h3 (h.2.2 j hj)
    · exact Dec.no (Ev.bind in_dec (Ev.pos (by simpa using hn) (Ev.neg h2 (Ev.val _)))) (fun h => by have := h.2.1; omega)
  · exact Dec.no (Ev.bind in_dec (Ev.neg (by simpa using hn) (Ev.val _))) (fun h => hn h.1)
/-! #### what clauses force: the reference's signs are literals, the program's are 1 and -1 -/
theorem absN (x : Int) : AbsI x = ((x.natAbs : Nat) : Int) := by unfold AbsI; split <;> omega
def AtomAt (v s : List Int) (a : Nat) : Prop := (rd v (a : Int) = 0 ∧ rd s (a : Int) = 0) ∨ (0 < a ∧ rd v (a : Int) = (a : Int) ∧ rd s (a : Int) = 1) ∨ (0 < a ∧ rd v (a : Int) = -(a : Int) ∧ rd s (a : Int) = -1)
def SignsOk (n : Nat) (v s : List Int) : Prop := v.length = n + 1 ∧ s.length = n + 1 ∧ ∀ a : Nat, a ≤ n → AtomAt v s a
def LitsOk (n : Nat) (c : List Int) : Prop := c.length ≤ 1048576 ∧ ∀ j : Nat, j < c.length → LitOk (n : Int) (rd c (j : Int))
theorem bit_ev (b : Bool) : Ev (fun _ => impl_bit.f b) (if b = true then 1 else 0) := by
  unfold impl_bit.f
  cases b
  · exact Ev.neg (by decide) (Ev.val _)
  · exact Ev.pos rfl (Ev.val _)
theorem scan_sat (n : Nat) (hn : n ≤ 700) (l : List (List Int)) (s : List Int) (hs : s.length = n + 1) (c : List Int) (hc : LitsOk n c) (x5 : Bool) (L : List (List Int)) (x16 x17 : Int) (r : Bool × List Int)
    (hend : ∀ y8 y9 : Int, Ev (fun k => impl_forced.l2 k l s x5 y8 y9 true L x16 x17 c (c.length : Int) (c.length : Int)) r) :
    ∀ (d i : Nat) (x8 x9 : Int), i + d = c.length → Ev (fun k => impl_forced.l2 k l s x5 x8 x9 true L x16 x17 c (c.length : Int) (i : Int)) r := by
  have hcl := hc.1
  intro d
  induction d with
  | zero =>
    intro i x8 x9 hi
    have : i = c.length := by omega
    subst this
    exact hend x8 x9
  | succ d ih =>
    intro i x8 x9 hi
    have hwi := wsucc i (by omega)
    have hlt : i < c.length := by omega
    obtain ⟨_, hx1, hx2⟩ := hc.2 i hlt
    refine Ev.step ?_ (fun k => impl_forced.l2.eq_2 ..)
    rw [hwi]
    refine Ev.pos (by omega) (Ev.pos (by omega) (Ev.pos (by omega) (Ev.bind (impl_abs (by omega) (by omega)) (Ev.pos (absI_pos _) (Ev.pos (by rw [absN]; omega) ?_)))))
    by_cases h0 : rd s (AbsI (rd c (i : Int))) = 0
    · exact Ev.pos h0 (ih (i + 1) _ _ (by omega))
    · refine Ev.neg h0 ?_
      by_cases h1 : ((decide (rd s (AbsI (rd c (i : Int))) > 0)) == (decide (rd c (i : Int) > 0))) = true
      · exact Ev.pos h1 (ih (i + 1) _ _ (by omega))
      · exact Ev.neg h1 (ih (i + 1) _ _ (by omega))
theorem scan (n : Nat) (hn : n ≤ 700) (l : List (List Int)) (v s : List Int) (hv : SignsOk n v s) (c : List Int) (hc : LitsOk n c) (x5 : Bool) (L : List (List Int)) (x16 x17 : Int) :
    ∀ (d i m : Nat) (last : Int), i + d = c.length → m ≤ i → (1 ≤ m → LitOk (n : Int) last ∧ rd v (AbsI last) = 0) →
      (Ev (fun k => spec_l11Left.l0 k c v (m : Int) last (i : Int)) ((-1 : Int), (0 : Int)) ∧ ∀ r, (∀ y8 y9 : Int, Ev (fun k => impl_forced.l2 k l s x5 y8 y9 true L x16 x17 c (c.length : Int) (c.length : Int)) r) → Ev (fun k => impl_forced.l2 k l s x5 last (m : Int) false L x16 x17 c (c.length : Int) (i : Int)) r) ∨
      (∃ (m' : Nat) (last' : Int), m' ≤ c.length ∧ (1 ≤ m' → LitOk (n : Int) last' ∧ rd v (AbsI last') = 0) ∧ Ev (fun k => spec_l11Left.l0 k c v (m : Int) last (i : Int)) ((m' : Int), last') ∧
        ∀ r, Ev (fun k => impl_forced.l2 k l s x5 last' (m' : Int) false L x16 x17 c (c.length : Int) (c.length : Int)) r → Ev (fun k => impl_forced.l2 k l s x5 last (m : Int) false L x16 x17 c (c.length : Int) (i : Int)) r) := by
  have hcl := hc.1
  obtain ⟨hvl, hsl, hat⟩ := hv
  intro d
  induction d with
  | zero =>
    intro i m last hi hm hlast
    have : i = c.length := by omega
    subst this
    exact Or.inr ⟨m, last, hm, hlast, Ev.step (Ev.neg (by omega) (Ev.val _)) (fun k => spec_l11Left.l0.eq_2 ..), fun r hr => hr⟩
  | succ d ih =>
    intro i m last hi hm hlast
    have hwi := wsucc i (by omega)
    have hwm := wsucc m (by omega)
    have hlt : i < c.length := by omega
    have hlit := hc.2 i hlt
    obtain ⟨hx0, hx1, hx2⟩ := hlit
    have ha := hat (rd c (i : Int)).natAbs (by omega)
    rw [AtomAt, ← absN] at ha
    have hax : AbsI (rd c (i : Int)) = rd c (i : Int) ∨ AbsI (rd c (i : Int)) = -(rd c (i : Int)) := by unfold AbsI; split <;> omega
    have hpos := absI_pos (rd c (i : Int))
    have hlen : AbsI (rd c (i : Int)) < (v.length : Int) := by rw [absN]; omega
    have hlen2 : AbsI (rd c (i : Int)) < (s.length : Int) := by rw [absN]; omega
    have hsg : AbsI (rd c (i : Int)) = if rd c (i : Int) < 0 then -(rd c (i : Int)) else rd c (i : Int) := rfl
    have specE : ∀ q, Ev (fun k => if rd v (AbsI (rd c (i : Int))) = rd c (i : Int) then some ((-1 : Int), (0 : Int)) else if rd v (AbsI (rd c (i : Int))) = 0 then spec_l11Left.l0 k c v ((m + 1 : Nat) : Int) (rd c (i : Int)) ((i + 1 : Nat) : Int) else spec_l11Left.l0 k c v (m : Int) last ((i + 1 : Nat) : Int)) q → Ev (fun k => spec_l11Left.l0 k c v (m : Int) last (i : Int)) q := by
      intro q hq
      refine Ev.step ?_ (fun k => spec_l11Left.l0.eq_2 ..)
      rw [hwi, hwm]
      exact Ev.pos (by omega) (Ev.pos (by omega) (Ev.bind (spec_abs (by omega) (by omega)) (Ev.pos hpos (Ev.pos hlen hq))))
    have implE : ∀ q, Ev (fun k => if rd s (AbsI (rd c (i : Int))) = 0 then impl_forced.l2 k l s x5 (rd c (i : Int)) ((m + 1 : Nat) : Int) false L x16 x17 c (c.length : Int) ((i + 1 : Nat) : Int) else if ((decide (rd s (AbsI (rd c (i : Int))) > 0)) == (decide (rd c (i : Int) > 0))) = true then impl_forced.l2 k l s x5 last (m : Int) true L x16 x17 c (c.length : Int) ((i + 1 : Nat) : Int) else impl_forced.l2 k l s x5 last (m : Int) false L x16 x17 c (c.length : Int) ((i + 1 : Nat) : Int)) q → Ev (fun k => impl_forced.l2 k l s x5 last (m : Int) false L x16 x17 c (c.length : Int) (i : Int)) q := by
      intro q hq
      refine Ev.step ?_ (fun k => impl_forced.l2.eq_2 ..)
      rw [hwi, hwm]
      exact Ev.pos (by omega) (Ev.pos (by omega) (Ev.pos (by omega) (Ev.bind (impl_abs (by omega) (by omega)) (Ev.pos hpos (Ev.pos hlen2 hq)))))
    by_cases hz : rd v (AbsI (rd c (i : Int))) = 0
    · have hs0 : rd s (AbsI (rd c (i : Int))) = 0 := by
        rcases ha with h | h | h
        · exact h.2
        · omega
        · omega
      rcases ih (i + 1) (m + 1) (rd c (i : Int)) (by omega) (by omega) (fun _ => ⟨⟨hx0, hx1, hx2⟩, hz⟩) with ⟨h1, h2⟩ | ⟨m', last', h1, h2, h3, h4⟩
      · exact Or.inl ⟨specE _ (Ev.neg (by omega) (Ev.pos hz h1)), fun r hr => implE r (Ev.pos hs0 (h2 r hr))⟩
      · exact Or.inr ⟨m', last', h1, h2, specE _ (Ev.neg (by omega) (Ev.pos hz h3)), fun r hr => implE r (Ev.pos hs0 (h4 r hr))⟩
    · have hs0 : rd s (AbsI (rd c (i : Int))) ≠ 0 := by
        rcases ha with h | h | h
        · exact absurd h.1 hz
        · omega
        · omega
      by_cases he : rd v (AbsI (rd c (i : Int))) = rd c (i : Int)
      · refine Or.inl ⟨specE _ (Ev.pos he (Ev.val _)), fun r hr => implE r (Ev.neg hs0 (Ev.pos ?_ (scan_sat n hn l s hsl c hc x5 L x16 x17 r hr d (i + 1) _ _ (by omega))))⟩
        rw [beq_iff_eq, decide_eq_decide]
        split at hsg <;> rcases ha with h | h | h <;> omega
      · have hne : ¬ ((decide (rd s (AbsI (rd c (i : Int))) > 0)) == (decide (rd c (i : Int) > 0))) = true := by
          rw [beq_iff_eq, decide_eq_decide]
          split at hsg <;> rcases ha with h | h | h <;> omega
        rcases ih (i + 1) m last (by omega) (by omega) hlast with ⟨h1, h2⟩ | ⟨m', last', h1, h2, h3, h4⟩
        · exact Or.inl ⟨specE _ (Ev.neg he (Ev.neg hz h1)), fun r hr => implE r (Ev.neg hs0 (Ev.neg hne (h2 r hr)))⟩
        · exact Or.inr ⟨m', last', h1, h2, specE _ (Ev.neg he (Ev.neg hz h3)), fun r hr => implE r (Ev.neg hs0 (Ev.neg hne (h4 r hr)))⟩
/-- The sign that the program gives to a literal. -/
def sgn (x : Int) : Int := if x < 0 then -1 else 1
theorem sgn_ev (x : Int) : wrap64 (1 - wrap64 (2 * (if (decide (x < 0)) = true then (1 : Int) else 0))) = sgn x := by
  unfold sgn
  by_cases h : x < 0
  · rw [if_pos h, show decide (x < 0) = true from decide_eq_true h, if_pos rfl, show (2 : Int) * 1 = 2 from rfl, w_id (x := 2) (by omega) (by omega), w_id (by omega) (by omega)]
    rfl
  · rw [if_neg h, show decide (x < 0) = false from decide_eq_false h, if_neg (by decide), show (2 : Int) * 0 = 0 from rfl, w_id (x := 0) (by omega) (by omega), w_id (by omega) (by omega)]
    rfl
theorem signs_set {n : Nat} {v s : List Int} (h : SignsOk n v s) {x : Int} (hx : LitOk (n : Int) x) : SignsOk n (v.set x.natAbs x) (s.set x.natAbs (sgn x)) := by
  obtain ⟨h1, h2, h3⟩ := h
  obtain ⟨hx0, hx1, hx2⟩ := hx
  refine ⟨by simpa using h1, by simpa using h2, fun a ha => ?_⟩
  by_cases e : a = x.natAbs
  · subst e
    unfold AtomAt
    rw [rd_set_eq (by omega), rd_set_eq (by omega)]
    unfold sgn
    split <;> omega
  · unfold AtomAt
    rw [rd_set_ne (fun h => e h.symm), rd_set_ne (fun h => e h.symm)]
    exact h3 a ha
theorem zeros_set {v : List Int} {a : Nat} {x : Int} (ha : a < v.length) (h0 : rd v (a : Int) = 0) (hx : x ≠ 0) : (v.set a x).count 0 < v.count 0 := by
  have hv : v[a] = 0 := by rw [← rd_lt ha]; exact h0
  have hm : 0 < v.count 0 := List.count_pos_iff.mpr (by rw [← hv]; exact List.getElem_mem ha)
  rw [List.count_set ha]
  simp [hv, hx]
  omega
def AllLits (n : Nat) (l : List (List Int)) : Prop := l.length ≤ 1048576 ∧ ∀ j : Nat, j < l.length → LitsOk n (rd_L1 l (j : Int))
theorem force_pass (n : Nat) (hn : n ≤ 700) (l : List (List Int)) (hl : AllLits n l) (z : Nat)
    (IH : ∀ v s, SignsOk n v s → v.count 0 < z → ∃ b v' s', Ev (fun k => spec_l11Force.l0 k l v true) (b, v') ∧ Ev (fun k => impl_forced.l0 k l s true) (b, s') ∧ SignsOk n v' s') :
    ∀ (d i : Nat) (x5 : Bool) (v s : List Int), i + d = l.length → SignsOk n v s → v.count 0 ≤ z → (x5 = true → v.count 0 < z) →
      ∃ b v' s', Ev (fun k => spec_l11Force.l1 k l v x5 (i : Int)) (b, v') ∧ Ev (fun k => impl_forced.l1 k l s x5 l (l.length : Int) (i : Int)) (b, s') ∧ SignsOk n v' s' := by
  have hll := hl.1
  intro d
  induction d with
  | zero =>
    intro i x5 v s hi hv hz hx
    cases x5 with
    | false =>
      exact ⟨true, v, s, Ev.step (Ev.neg (by omega) (Ev.step (Ev.neg (by decide) (Ev.val _)) (fun k => spec_l11Force.l0.eq_2 ..))) (fun k => spec_l11Force.l1.eq_2 ..),
        Ev.step (Ev.neg (by omega) (Ev.step (Ev.neg (by decide) (Ev.val _)) (fun k => impl_forced.l0.eq_2 ..))) (fun k => impl_forced.l1.eq_2 ..), hv⟩
    | true =>
      obtain ⟨b, v', s', h1, h2, h3⟩ := IH v s hv (hx rfl)
      exact ⟨b, v', s', Ev.step (Ev.neg (by omega) h1) (fun k => spec_l11Force.l1.eq_2 ..), Ev.step (Ev.neg (by omega) h2) (fun k => impl_forced.l1.eq_2 ..), h3⟩
  | succ d ih =>
    intro i x5 v s hi hv hz hx
    have hwi := wsucc i (by omega)
    have hlt : i < l.length := by omega
    have hcl := hl.2 i hlt
    have specE : ∀ (p : Int × Int) q, Ev (fun k => spec_l11Left.l0 k (rd_L1 l (i : Int)) v 0 0 0) p → Ev (fun k => if p.1 = 0 then some (false, v) else if p.1 = 1 then ((spec_l11Abs.f p.2).bind fun t => if 0 ≤ t then (if t < (v.length : Int) then spec_l11Force.l1 k l (v.set (t : Int).toNat p.2) true ((i + 1 : Nat) : Int) else none) else none) else spec_l11Force.l1 k l v x5 ((i + 1 : Nat) : Int)) q → Ev (fun k => spec_l11Force.l1 k l v x5 (i : Int)) q := by
      intro p q hp hq
      refine Ev.step ?_ (fun k => spec_l11Force.l1.eq_2 ..)
      rw [hwi]
      exact Ev.pos (by omega) (Ev.pos (by omega) (Ev.bind (by unfold spec_l11Left.f; exact hp) hq))
    have implE : ∀ q, Ev (fun k => impl_forced.l2 k l s x5 0 0 false l (l.length : Int) (i : Int) (rd_L1 l (i : Int)) ((rd_L1 l (i : Int)).length : Int) 0) q → Ev (fun k => impl_forced.l1 k l s x5 l (l.length : Int) (i : Int)) q := by
      intro q hq
      refine Ev.step ?_ (fun k => impl_forced.l1.eq_2 ..)
      exact Ev.pos (by omega) (Ev.pos (by omega) (Ev.pos (by omega) hq))
    rcases scan n hn l v s hv _ hcl x5 l (l.length : Int) (i : Int) _ 0 0 0 (Nat.zero_add _) (Nat.le_refl _) (fun h => by omega) with ⟨h1, h2⟩ | ⟨m, last, hm, hlast, h1, h2⟩
    · obtain ⟨b, v', s', e1, e2, e3⟩ := ih (i + 1) x5 v s (by omega) hv hz hx
      refine ⟨b, v', s', specE _ _ h1 (Ev.neg (by decide) (Ev.neg (by decide) e1)), implE _ (h2 _ (fun y8 y9 => Ev.step ?_ (fun k => impl_forced.l2.eq_2 ..))), e3⟩
      rw [hwi]
      exact Ev.neg (by omega) (Ev.pos rfl e2)
    · by_cases m0 : m = 0
      · subst m0
        exact ⟨false, v, s, specE _ _ h1 (Ev.pos rfl (Ev.val _)), implE _ (h2 _ (Ev.step (Ev.neg (by omega) (Ev.neg (by decide) (Ev.pos rfl (Ev.val _)))) (fun k => impl_forced.l2.eq_2 ..))), hv⟩
      · by_cases m1 : m = 1
        · subst m1
          obtain ⟨hlit, h0⟩ := hlast (Nat.le_refl _)
          have hx0 := hlit.1
          have hx1 := hlit.2.1
          have hx2 := hlit.2.2
          have hvl := hv.1
          have hsl := hv.2.1
          rw [absN] at h0
          have hzs := zeros_set (x := last) (by omega) h0 hx0
          obtain ⟨b, v', s', e1, e2, e3⟩ := ih (i + 1) true (v.set last.natAbs last) (s.set last.natAbs (sgn last)) (by omega) (signs_set hv hlit) (by omega) (fun _ => by omega)
          refine ⟨b, v', s', specE _ _ h1 (Ev.neg (by simp) (Ev.pos (by simp) (Ev.bind (spec_abs (by omega) (by omega)) (Ev.pos (absI_pos _) (Ev.pos (by rw [absN]; omega) ?_))))), implE _ (h2 _ (Ev.step ?_ (fun k => impl_forced.l2.eq_2 ..))), e3⟩
          · rw [absN, Int.toNat_natCast]
            exact e1
          · rw [hwi]
            refine Ev.neg (by omega) (Ev.neg (by decide) (Ev.neg (by simp) (Ev.pos (by simp) (Ev.bind (impl_abs (by omega) (by omega)) (Ev.bind (bit_ev _) (Ev.pos (absI_pos _) (Ev.pos (by rw [absN]; omega) ?_)))))))
            rw [sgn_ev, absN, Int.toNat_natCast]
            exact e2
        · obtain ⟨b, v', s', e1, e2, e3⟩ := ih (i + 1) x5 v s (by omega) hv hz hx
          refine ⟨b, v', s', specE _ _ h1 (Ev.neg (by show ¬ ((m : Int) = 0); omega) (Ev.neg (by show ¬ ((m : Int) = 1); omega) e1)), implE _ (h2 _ (Ev.step ?_ (fun k => impl_forced.l2.eq_2 ..))), e3⟩
          rw [hwi]
          exact Ev.neg (by omega) (Ev.neg (by decide) (Ev.neg (by omega) (Ev.neg (by omega) e2)))
theorem force_run (n : Nat) (hn : n ≤ 700) (l : List (List Int)) (hl : AllLits n l) : ∀ (z : Nat) (v s : List Int), v.count 0 < z → SignsOk n v s →
    ∃ b v' s', Ev (fun k => spec_l11Force.l0 k l v true) (b, v') ∧ Ev (fun k => impl_forced.l0 k l s true) (b, s') ∧ SignsOk n v' s' := by
  intro z
  induction z with
  | zero => intro v s hz; omega
  | succ z ih =>
    intro v s hz hv
    obtain ⟨b, v', s', h1, h2, h3⟩ := force_pass n hn l hl z (fun v s hv hz => ih v s hz hv) l.length 0 false v s (by omega) hv (by omega) (by simp)
    exact ⟨b, v', s', Ev.step (Ev.pos rfl h1) (fun k => spec_l11Force.l0.eq_2 ..), Ev.step (Ev.pos rfl h2) (fun k => impl_forced.l0.eq_2 ..), h3⟩
theorem force (n : Nat) (hn : n ≤ 700) (l : List (List Int)) (hl : AllLits n l) (v s : List Int) (hv : SignsOk n v s) :
    ∃ b v' s', Ev (fun k => spec_l11Force.f k l v) (b, v') ∧ Ev (fun k => impl_forced.f k l s) (b, s') ∧ SignsOk n v' s' := by
  unfold spec_l11Force.f impl_forced.f
  exact force_run n hn l hl (v.count 0 + 1) v s (by omega) hv
/-! #### a conclusion that follows by what is forced -/
theorem Ev.uniq {α : Type} {g : Nat → Option α} {a b : α} (h : Ev g a) (h' : Ev g b) : a = b := by
  obtain ⟨K, hK⟩ := h
  obtain ⟨L, hL⟩ := h'
  have := (hK (max K L) (by omega)).symm.trans (hL (max K L) (by omega))
  exact Option.some.inj this
theorem clause_lits {n : Nat} {c : List Int} (h : ClauseOk (n : Int) c) (hc : c.length ≤ 1048576) : LitsOk n c := ⟨hc, fun j hj => (h.2 j hj).1⟩
theorem clause_mono {n : Int} {c : List Int} (h : ClauseOk n c) : ∀ (i j : Nat), j < i → i < c.length → AbsI (rd c (j : Int)) < AbsI (rd c (i : Int)) := by
  intro i
  induction i with
  | zero => intro j hj; omega
  | succ i ih =>
    intro j hj hi
    have h1 := (h.2 (i + 1) hi).2 (by omega)
    rw [Nat.add_sub_cancel] at h1
    rcases Nat.lt_succ_iff_lt_or_eq.mp hj with h2 | rfl
    · have := ih j h2 (by omega)
      omega
    · exact h1
theorem zeros_ok (n : Nat) : SignsOk n (List.replicate (n + 1) 0) (List.replicate (n + 1) 0) := by
  refine ⟨by simp, by simp, fun a ha => Or.inl ?_⟩
  rw [rd_lt (by simp; omega)]
  simp
theorem rd_zeros (n : Nat) (a : Nat) (ha : a < n) : rd (List.replicate n 0) (a : Int) = 0 := by
  rw [rd_lt (by simpa using ha)]
  simp
/-! #### what unit propagation tells of the truth of clauses (the reference's marks) -/
/-- The marks of n atoms. -/
def VOk (n : Nat) (v : List Int) : Prop := v.length = n + 1 ∧ ∀ a : Nat, a ≤ n → rd v (a : Int) = 0 ∨ (0 < a ∧ (rd v (a : Int) = a ∨ rd v (a : Int) = -(a : Int)))
/-- A literal is true by an assignment. -/
def LT (T : Nat → Bool) (x : Int) : Prop := if 0 < x then T x.natAbs = true else T x.natAbs = false
instance (T : Nat → Bool) (x : Int) : Decidable (LT T x) := by unfold LT; infer_instance
def ClT (T : Nat → Bool) (c : List Int) : Prop := ∃ j : Nat, j < c.length ∧ LT T (rd c (j : Int))
def AllT (T : Nat → Bool) (l : List (List Int)) : Prop := ∀ j : Nat, j < l.length → ClT T (rd_L1 l (j : Int))
def Cons (n : Nat) (T : Nat → Bool) (v : List Int) : Prop := ∀ a : Nat, a ≤ n → rd v (a : Int) ≠ 0 → LT T (rd v (a : Int))
theorem lt_neg {T : Nat → Bool} {x : Int} (h0 : x ≠ 0) : LT T (-x) ↔ ¬ LT T x := by
  unfold LT
  rw [Int.natAbs_neg]
  by_cases h : 0 < x
  · rw [if_pos h, if_neg (by omega)]
    simp
  · rw [if_neg h, if_pos (by omega)]
    simp
theorem vok_set {n : Nat} {v : List Int} (h : VOk n v) {x : Int} (hx : LitOk (n : Int) x) : VOk n (v.set x.natAbs x) := by
  obtain ⟨h1, h2⟩ := h
  obtain ⟨hx0, hx1, hx2⟩ := hx
  refine ⟨by simpa using h1, fun a ha => ?_⟩
  by_cases e : a = x.natAbs
  · subst e
    rw [rd_set_eq (by omega)]
    exact Or.inr ⟨by omega, by omega⟩
  · rw [rd_set_ne (fun h => e h.symm)]
    exact h2 a ha
/-- What a scan of a clause has found in the first i places: none is true, m are open, the last of these. -/
structure Scanned (n : Nat) (v c : List Int) (i m : Nat) (last : Int) : Prop where
  no : ∀ j : Nat, j < i → rd v (AbsI (rd c (j : Int))) ≠ rd c (j : Int)
  lit : 1 ≤ m → LitOk (n : Int) last ∧ rd v (AbsI last) = 0 ∧ ∃ j : Nat, j < i ∧ rd c (j : Int) = last
  none : m = 0 → ∀ j : Nat, j < i → rd v (AbsI (rd c (j : Int))) = -(rd c (j : Int))
  one : m = 1 → ∀ j : Nat, j < i → rd c (j : Int) = last ∨ rd v (AbsI (rd c (j : Int))) = -(rd c (j : Int))
theorem scan_sem (n : Nat) (hn : n ≤ 700) (v : List Int) (hv : VOk n v) (c : List Int) (hc : LitsOk n c) : ∀ (d i m : Nat) (last : Int), i + d = c.length → m ≤ i → Scanned n v c i m last →
    (Ev (fun k => spec_l11Left.l0 k c v (m : Int) last (i : Int)) ((-1 : Int), (0 : Int)) ∧ ∃ j : Nat, j < c.length ∧ rd v (AbsI (rd c (j : Int))) = rd c (j : Int)) ∨
    ∃ (m' : Nat) (last' : Int), m' ≤ c.length ∧ Ev (fun k => spec_l11Left.l0 k c v (m : Int) last (i : Int)) ((m' : Int), last') ∧ Scanned n v c c.length m' last' := by
  have hcl := hc.1
  obtain ⟨hvl, hat⟩ := hv
  intro d
  induction d with
  | zero =>
    intro i m last hi hm hs
    have : i = c.length := by omega
    subst this
    exact Or.inr ⟨m, last, hm, Ev.step (Ev.neg (by omega) (Ev.val _)) (fun k => spec_l11Left.l0.eq_2 ..), hs⟩
  | succ d ih =>
    intro i m last hi hm hs
    have hwi := wsucc i (by omega)
    have hwm := wsucc m (by omega)
    have hlt : i < c.length := by omega
    obtain ⟨hx0, hx1, hx2⟩ := hc.2 i hlt
    have ha := hat (rd c (i : Int)).natAbs (by omega)
    rw [← absN] at ha
    have hpos := absI_pos (rd c (i : Int))
    have hax : AbsI (rd c (i : Int)) = rd c (i : Int) ∨ AbsI (rd c (i : Int)) = -(rd c (i : Int)) := by unfold AbsI; split <;> omega
    have hlen : AbsI (rd c (i : Int)) < (v.length : Int) := by rw [absN]; omega
    have specE : ∀ q, Ev (fun k => if rd v (AbsI (rd c (i : Int))) = rd c (i : Int) then some ((-1 : Int), (0 : Int)) else if rd v (AbsI (rd c (i : Int))) = 0 then spec_l11Left.l0 k c v ((m + 1 : Nat) : Int) (rd c (i : Int)) ((i + 1 : Nat) : Int) else spec_l11Left.l0 k c v (m : Int) last ((i + 1 : Nat) : Int)) q → Ev (fun k => spec_l11Left.l0 k c v (m : Int) last (i : Int)) q := by
      intro q hq
      refine Ev.step ?_ (fun k => spec_l11Left.l0.eq_2 ..)
      rw [hwi, hwm]
      exact Ev.pos (by omega) (Ev.pos (by omega) (Ev.bind (spec_abs (by omega) (by omega)) (Ev.pos hpos (Ev.pos hlen hq))))
    by_cases he : rd v (AbsI (rd c (i : Int))) = rd c (i : Int)
    · exact Or.inl ⟨specE _ (Ev.pos he (Ev.val _)), i, hlt, he⟩
    · by_cases hz : rd v (AbsI (rd c (i : Int))) = 0
      · have hs' : Scanned n v c (i + 1) (m + 1) (rd c (i : Int)) := by
          refine ⟨fun j hj => ?_, fun _ => ⟨⟨hx0, hx1, hx2⟩, hz, i, by omega, rfl⟩, fun h => by omega, fun h j hj => ?_⟩
          · rcases Nat.lt_succ_iff_lt_or_eq.mp hj with h | rfl
            · exact hs.no j h
            · exact he
          · rcases Nat.lt_succ_iff_lt_or_eq.mp hj with h2 | rfl
            · exact Or.inr (hs.none (by omega) j h2)
            · exact Or.inl rfl
        rcases ih (i + 1) (m + 1) (rd c (i : Int)) (by omega) (by omega) hs' with ⟨h1, h2⟩ | ⟨m', last', h1, h2, h3⟩
        · exact Or.inl ⟨specE _ (Ev.neg he (Ev.pos hz h1)), h2⟩
        · exact Or.inr ⟨m', last', h1, specE _ (Ev.neg he (Ev.pos hz h2)), h3⟩
      · have hneg : rd v (AbsI (rd c (i : Int))) = -(rd c (i : Int)) := by
          rcases ha with h | ⟨_, h | h⟩
          · exact absurd h hz
          · rcases hax with h2 | h2 <;> omega
          · rcases hax with h2 | h2 <;> omega
        have hs' : Scanned n v c (i + 1) m last := by
          refine ⟨fun j hj => ?_, fun h => ?_, fun h j hj => ?_, fun h j hj => ?_⟩
          · rcases Nat.lt_succ_iff_lt_or_eq.mp hj with h | rfl
            · exact hs.no j h
            · exact he
          · obtain ⟨e1, e2, j, e3, e4⟩ := hs.lit h
            exact ⟨e1, e2, j, by omega, e4⟩
          · rcases Nat.lt_succ_iff_lt_or_eq.mp hj with h2 | rfl
            · exact hs.none h j h2
            · exact hneg
          · rcases Nat.lt_succ_iff_lt_or_eq.mp hj with h2 | rfl
            · exact hs.one h j h2
            · exact Or.inr hneg
        rcases ih (i + 1) m last (by omega) (by omega) hs' with ⟨h1, h2⟩ | ⟨m', last', h1, h2, h3⟩
        · exact Or.inl ⟨specE _ (Ev.neg he (Ev.neg hz h1)), h2⟩
        · exact Or.inr ⟨m', last', h1, specE _ (Ev.neg he (Ev.neg hz h2)), h3⟩
/-- A clause that is true, or has an open literal. -/
def Fine (v c : List Int) : Prop := ∃ j : Nat, j < c.length ∧ (rd v (AbsI (rd c (j : Int))) = rd c (j : Int) ∨ rd v (AbsI (rd c (j : Int))) = 0)
/-- What is left of the truth when marks are made. -/
structure Forces (n : Nat) (l : List (List Int)) (v : List Int) (b : Bool) (v' : List Int) : Prop where
  ok : VOk n v'
  ext : ∀ a : Nat, a ≤ n → rd v (a : Int) ≠ 0 → rd v' (a : Int) = rd v (a : Int)
  sound : ∀ T, AllT T l → Cons n T v → b = true ∧ Cons n T v'
  fine : b = true → ∀ j : Nat, j < l.length → Fine v' (rd_L1 l (j : Int))
theorem lit_false {n : Nat} {T : Nat → Bool} {v : List Int} (hT : Cons n T v) {x : Int} (hx : LitOk (n : Int) x) (h : rd v (AbsI x) = -x) : ¬ LT T x := by
  obtain ⟨h0, h1, h2⟩ := hx
  have := hT x.natAbs (by omega) (by rw [← absN, h]; omega)
  rw [← absN, h] at this
  exact (lt_neg h0).mp this
theorem force_pass_sem (n : Nat) (hn : n ≤ 700) (l : List (List Int)) (hl : AllLits n l) (z : Nat)
    (IH : ∀ v, VOk n v → v.count 0 < z → ∃ b v', Ev (fun k => spec_l11Force.l0 k l v true) (b, v') ∧ Forces n l v b v') :
    ∀ (d i : Nat) (x5 : Bool) (v : List Int), i + d = l.length → VOk n v → v.count 0 ≤ z → (x5 = true → v.count 0 < z) → (x5 = false → ∀ j : Nat, j < i → Fine v (rd_L1 l (j : Int))) →
      ∃ b v', Ev (fun k => spec_l11Force.l1 k l v x5 (i : Int)) (b, v') ∧ Forces n l v b v' := by
  have hll := hl.1
  intro d
  induction d with
  | zero =>
    intro i x5 v hi hv hz hx hf
    cases x5 with
    | false =>
      exact ⟨true, v, Ev.step (Ev.neg (by omega) (Ev.step (Ev.neg (by decide) (Ev.val _)) (fun k => spec_l11Force.l0.eq_2 ..))) (fun k => spec_l11Force.l1.eq_2 ..), hv, fun _ _ _ => rfl, fun T _ h => ⟨rfl, h⟩, fun _ j hj => hf rfl j (by omega)⟩
    | true =>
      obtain ⟨b, v', h1, h2⟩ := IH v hv (hx rfl)
      exact ⟨b, v', Ev.step (Ev.neg (by omega) h1) (fun k => spec_l11Force.l1.eq_2 ..), h2⟩
  | succ d ih =>
    intro i x5 v hi hv hz hx hf
    have hwi := wsucc i (by omega)
    have hlt : i < l.length := by omega
    have hcl := hl.2 i hlt
    have specE : ∀ (p : Int × Int) q, Ev (fun k => spec_l11Left.l0 k (rd_L1 l (i : Int)) v 0 0 0) p → Ev (fun k => if p.1 = 0 then some (false, v) else if p.1 = 1 then ((spec_l11Abs.f p.2).bind fun t => if 0 ≤ t then (if t < (v.length : Int) then spec_l11Force.l1 k l (v.set (t : Int).toNat p.2) true ((i + 1 : Nat) : Int) else none) else none) else spec_l11Force.l1 k l v x5 ((i + 1 : Nat) : Int)) q → Ev (fun k => spec_l11Force.l1 k l v x5 (i : Int)) q := by
      intro p q hp hq
      refine Ev.step ?_ (fun k => spec_l11Force.l1.eq_2 ..)
      rw [hwi]
      exact Ev.pos (by omega) (Ev.pos (by omega) (Ev.bind (by unfold spec_l11Left.f; exact hp) hq))
    rcases scan_sem n hn v hv _ hcl _ 0 0 0 (Nat.zero_add _) (Nat.le_refl _) ⟨fun j hj => by omega, fun h => by omega, fun _ j hj => by omega, fun _ j hj => by omega⟩ with ⟨h1, h2⟩ | ⟨m, last, hm, h1, hs⟩
    · obtain ⟨b, v', e1, e2⟩ := ih (i + 1) x5 v (by omega) hv hz hx (fun h j hj => by
        rcases Nat.lt_succ_iff_lt_or_eq.mp hj with h3 | rfl
        · exact hf h j h3
        · obtain ⟨q, q1, q2⟩ := h2
          exact ⟨q, q1, Or.inl q2⟩)
      exact ⟨b, v', specE _ _ h1 (Ev.neg (by decide) (Ev.neg (by decide) e1)), e2⟩
    · by_cases m0 : m = 0
      · subst m0
        refine ⟨false, v, specE _ _ h1 (Ev.pos rfl (Ev.val _)), hv, fun _ _ _ => rfl, fun T hT hC => ?_, fun h => by cases h⟩
        obtain ⟨j, j1, j2⟩ := hT i hlt
        exact absurd j2 (lit_false hC (hcl.2 j j1) (hs.none rfl j j1))
      · by_cases m1 : m = 1
        · subst m1
          obtain ⟨hlit, h0, _⟩ := hs.lit (Nat.le_refl _)
          have hx0 := hlit.1
          have hx1 := hlit.2.1
          have hx2 := hlit.2.2
          have hvl := hv.1
          rw [absN] at h0
          have hzs := zeros_set (x := last) (by omega) h0 hx0
          obtain ⟨b, v', e1, e2⟩ := ih (i + 1) true (v.set last.natAbs last) (by omega) (vok_set hv hlit) (by omega) (fun _ => by omega) (fun h => by cases h)
          refine ⟨b, v', specE _ _ h1 (Ev.neg (by simp) (Ev.pos (by simp) (Ev.bind (spec_abs (by omega) (by omega)) (Ev.pos (absI_pos _) (Ev.pos (by rw [absN]; omega) ?_))))), e2.ok, fun a ha hz2 => ?_, fun T hT hC => ?_, e2.fine⟩
          · rw [absN, Int.toNat_natCast]
            exact e1
          · have hne : last.natAbs ≠ a := fun e => by subst e; exact hz2 h0
            rw [← rd_set_ne (l := v) (v := last) hne]
            exact e2.ext a ha (by rw [rd_set_ne hne]; exact hz2)
          · refine e2.sound T hT (fun a ha hz2 => ?_)
            by_cases e : last.natAbs = a
            · subst e
              rw [rd_set_eq (by omega)]
              obtain ⟨j, j1, j2⟩ := hT i hlt
              rcases hs.one rfl j j1 with h | h
              · rw [← h]
                exact j2
              · exact absurd j2 (lit_false hC (hcl.2 j j1) h)
            · rw [rd_set_ne e] at hz2 ⊢
              exact hC a ha hz2
        · obtain ⟨b, v', e1, e2⟩ := ih (i + 1) x5 v (by omega) hv hz hx (fun h j hj => by
            rcases Nat.lt_succ_iff_lt_or_eq.mp hj with h3 | rfl
            · exact hf h j h3
            · obtain ⟨_, q0, q, q1, q2⟩ := hs.lit (by omega)
              exact ⟨q, q1, Or.inr (by rw [q2]; exact q0)⟩)
          exact ⟨b, v', specE _ _ h1 (Ev.neg (by show ¬ ((m : Int) = 0); omega) (Ev.neg (by show ¬ ((m : Int) = 1); omega) e1)), e2⟩
theorem force_run_sem (n : Nat) (hn : n ≤ 700) (l : List (List Int)) (hl : AllLits n l) : ∀ (z : Nat) (v : List Int), v.count 0 < z → VOk n v →
    ∃ b v', Ev (fun k => spec_l11Force.l0 k l v true) (b, v') ∧ Forces n l v b v' := by
  intro z
  induction z with
  | zero => intro v hz; omega
  | succ z ih =>
    intro v hz hv
    obtain ⟨b, v', h1, h2⟩ := force_pass_sem n hn l hl z (fun v hv hz => ih v hz hv) l.length 0 false v (by omega) hv (by omega) (by simp) (fun _ j hj => by omega)
    exact ⟨b, v', Ev.step (Ev.pos rfl h1) (fun k => spec_l11Force.l0.eq_2 ..), h2⟩
theorem force_sem (n : Nat) (hn : n ≤ 700) (l : List (List Int)) (hl : AllLits n l) (v : List Int) (hv : VOk n v) :
    ∃ b v', Ev (fun k => spec_l11Force.f k l v) (b, v') ∧ Forces n l v b v' := by
  unfold spec_l11Force.f
  exact force_run_sem n hn l hl (v.count 0 + 1) v (by omega) hv
/-! #### what follows from clauses -/
theorem all_lits (n : Nat) (L : List (List Int)) (hL : Small L) (h : ClausesOk (n : Int) L) : AllLits n L := ⟨hL.1, fun i hi => clause_lits (h.2.2 i hi) (hL.2 i hi)⟩
/-- The reference's marks of a list of literals that has each atom at most once. -/
theorem marks_loop (n : Nat) (hn : n ≤ 700) (c : List Int) (hcl : c.length ≤ 1048576) (hc : ∀ j : Nat, j < c.length → LitOk (n : Int) (rd c (j : Int))) (hd : ∀ i j : Nat, j < i → i < c.length → (rd c (j : Int)).natAbs ≠ (rd c (i : Int)).natAbs) :
    ∀ (d i : Nat) (v : List Int), i + d = c.length → VOk n v → (∀ a : Nat, a ≤ n → (rd v (a : Int) ≠ 0 ↔ ∃ j : Nat, j < i ∧ (rd c (j : Int)).natAbs = a)) → (∀ j : Nat, j < i → rd v (((rd c (j : Int)).natAbs : Nat) : Int) = rd c (j : Int)) →
      ∃ v', Ev (fun k => spec_l11Given.l0 k c v (i : Int)) v' ∧ VOk n v' ∧ (∀ a : Nat, a ≤ n → (rd v' (a : Int) ≠ 0 ↔ ∃ j : Nat, j < c.length ∧ (rd c (j : Int)).natAbs = a)) ∧ (∀ j : Nat, j < c.length → rd v' (((rd c (j : Int)).natAbs : Nat) : Int) = rd c (j : Int)) := by
  intro d
  induction d with
  | zero =>
    intro i v hi hv h1 h2
    have : i = c.length := by omega
    subst this
    exact ⟨v, Ev.step (Ev.neg (by omega) (Ev.val _)) (fun k => spec_l11Given.l0.eq_2 ..), hv, h1, h2⟩
  | succ d ih =>
    intro i v hi hv h1 h2
    have hwi := wsucc i (by omega)
    have hvl := hv.1
    obtain ⟨hx0, hx1, hx2⟩ := hc i (by omega)
    obtain ⟨v', e1, e2⟩ := ih (i + 1) (v.set (rd c (i : Int)).natAbs (rd c (i : Int))) (by omega) (vok_set hv ⟨hx0, hx1, hx2⟩) (fun a ha => by
      by_cases e : (rd c (i : Int)).natAbs = a
      · subst e
        rw [rd_set_eq (by omega)]
        exact ⟨fun _ => ⟨i, by omega, rfl⟩, fun _ => hx0⟩
      · rw [rd_set_ne e, h1 a ha]
        constructor
        · rintro ⟨j, j1, j2⟩
          exact ⟨j, by omega, j2⟩
        · rintro ⟨j, j1, j2⟩
          rcases Nat.lt_succ_iff_lt_or_eq.mp j1 with h | rfl
          · exact ⟨j, h, j2⟩
          · exact absurd j2 e) (fun j hj => by
      rcases Nat.lt_succ_iff_lt_or_eq.mp hj with h | rfl
      · rw [rd_set_ne (fun e => hd i j h (by omega) e.symm)]
        exact h2 j h
      · rw [rd_set_eq (by omega)])
    refine ⟨v', Ev.step ?_ (fun k => spec_l11Given.l0.eq_2 ..), e2⟩
    rw [hwi]
    refine Ev.pos (by omega) (Ev.pos (by omega) (Ev.bind (spec_abs (by omega) (by omega)) (Ev.pos (absI_pos _) (Ev.pos (by rw [absN]; omega) ?_))))
    rw [absN, Int.toNat_natCast]
    exact e1
theorem vok_zeros (n : Nat) : VOk n (List.replicate (n + 1) 0) := ⟨by simp, fun a ha => Or.inl (rd_zeros (n + 1) a (by omega))⟩
/-- The marks of a list of literals, each atom once: consistent just with what makes them all true. -/
theorem given_sem (n : Nat) (hn : n ≤ 700) (c : List Int) (hcl : c.length ≤ 1048576) (hc : ∀ j : Nat, j < c.length → LitOk (n : Int) (rd c (j : Int))) (hd : ∀ i j : Nat, j < i → i < c.length → (rd c (j : Int)).natAbs ≠ (rd c (i : Int)).natAbs) :
    ∃ v, Ev (fun k => spec_l11Given.f k c (n : Int)) v ∧ VOk n v ∧ ∀ T, Cons n T v ↔ ∀ j : Nat, j < c.length → LT T (rd c (j : Int)) := by
  have hwn : wrap64 ((n : Int) + 1) = ((n + 1 : Nat) : Int) := wsucc n (by omega)
  obtain ⟨v, e1, e2, e3, e4⟩ := marks_loop n hn c hcl hc hd c.length 0 (List.replicate (n + 1) 0) (by omega) (vok_zeros n) (fun a ha => by
    rw [rd_zeros (n + 1) a (by omega)]
    simp) (fun j hj => by omega)
  refine ⟨v, ?_, e2, fun T => ⟨fun h j hj => ?_, fun h a ha hz => ?_⟩⟩
  · unfold spec_l11Given.f
    rw [hwn, Int.toNat_natCast]
    exact Ev.pos (by omega) (Ev.pos (by omega) e1)
  · obtain ⟨hx0, hx1, hx2⟩ := hc j hj
    have := h (rd c (j : Int)).natAbs (by omega) (by rw [e4 j hj]; exact hx0)
    rwa [e4 j hj] at this
  · obtain ⟨j, j1, j2⟩ := (e3 a ha).mp hz
    rw [← j2, e4 j j1]
    exact h j j1
theorem clause_apart {n : Int} {c : List Int} (h : ClauseOk n c) : ∀ i j : Nat, j < i → i < c.length → (rd c (j : Int)).natAbs ≠ (rd c (i : Int)).natAbs := by
  intro i j h1 h2
  have := clause_mono h i j h1 h2
  rw [absN, absN] at this
  omega
/-! #### both programs force the same literals, and these are true wherever the clauses and what is given are -/
theorem given_signs (n : Nat) (hn : n ≤ 700) (c : List Int) (hcl : c.length ≤ 1048576) (hc : ∀ j : Nat, j < c.length → LitOk (n : Int) (rd c (j : Int))) : ∀ (d i : Nat) (v s : List Int), i + d = c.length → SignsOk n v s →
    ∃ v' s', Ev (fun k => spec_l11Given.l0 k c v (i : Int)) v' ∧ Ev (fun k => impl_signs.l0 k s c (c.length : Int) (i : Int)) s' ∧ SignsOk n v' s' := by
  intro d
  induction d with
  | zero =>
    intro i v s hi hv
    exact ⟨v, s, Ev.step (Ev.neg (by omega) (Ev.val _)) (fun k => spec_l11Given.l0.eq_2 ..), Ev.step (Ev.neg (by omega) (Ev.val _)) (fun k => impl_signs.l0.eq_2 ..), hv⟩
  | succ d ih =>
    intro i v s hi hv
    have hwi := wsucc i (by omega)
    have hvl := hv.1
    have hsl := hv.2.1
    obtain ⟨hx0, hx1, hx2⟩ := hc i (by omega)
    obtain ⟨v', s', e1, e2, e3⟩ := ih (i + 1) _ _ (by omega) (signs_set hv (hc i (by omega)))
    refine ⟨v', s', Ev.step ?_ (fun k => spec_l11Given.l0.eq_2 ..), Ev.step ?_ (fun k => impl_signs.l0.eq_2 ..), e3⟩
    · rw [hwi]
      refine Ev.pos (by omega) (Ev.pos (by omega) (Ev.bind (spec_abs (by omega) (by omega)) (Ev.pos (absI_pos _) (Ev.pos (by rw [absN]; omega) ?_))))
      rw [absN, Int.toNat_natCast]
      exact e1
    · rw [hwi]
      refine Ev.pos (by omega) (Ev.pos (by omega) (Ev.pos (by omega) (Ev.bind (impl_abs (by omega) (by omega)) (Ev.bind (bit_ev _) (Ev.pos (absI_pos _) (Ev.pos (by rw [absN]; omega) ?_))))))
      rw [sgn_ev, absN, Int.toNat_natCast]
      exact e2
theorem given_both (n : Nat) (hn : n ≤ 700) (c : List Int) (hcl : c.length ≤ 1048576) (hc : ∀ j : Nat, j < c.length → LitOk (n : Int) (rd c (j : Int))) :
    ∃ v s, Ev (fun k => spec_l11Given.f k c (n : Int)) v ∧ Ev (fun k => impl_signs.f k (n : Int) c) s ∧ SignsOk n v s := by
  have hwn : wrap64 ((n : Int) + 1) = ((n + 1 : Nat) : Int) := wsucc n (by omega)
  obtain ⟨v, s, e1, e2, e3⟩ := given_signs n hn c hcl hc c.length 0 _ _ (by omega) (zeros_ok n)
  refine ⟨v, s, ?_, ?_, e3⟩
  · unfold spec_l11Given.f
    rw [hwn, Int.toNat_natCast]
    exact Ev.pos (by omega) (Ev.pos (by omega) e1)
  · unfold impl_signs.f
    rw [hwn, Int.toNat_natCast]
    exact Ev.pos (by omega) (Ev.pos (by omega) e2)
theorem told_loop (n : Nat) (hn : n ≤ 700) (v s : List Int) (hv : SignsOk n v s) : ∀ (d a : Nat) (out : List Int), a + d = n + 1 → 1 ≤ a → out.length ≤ a → (∀ j : Nat, j < out.length → LitOk (n : Int) (rd out (j : Int)) ∧ rd v (((rd out (j : Int)).natAbs : Nat) : Int) = rd out (j : Int)) →
    ∃ out', Ev (fun k => spec_l11Marked.l0 k v out (a : Int)) out' ∧ Ev (fun k => impl_Forced.l0 k out s ((n + 1 : Nat) : Int) (a : Int)) (out', true) ∧ out'.length ≤ n + 1 ∧ ∀ j : Nat, j < out'.length → LitOk (n : Int) (rd out' (j : Int)) ∧ rd v (((rd out' (j : Int)).natAbs : Nat) : Int) = rd out' (j : Int) := by
  obtain ⟨hvl, hsl, hat⟩ := hv
  intro d
  induction d with
  | zero =>
    intro a out ha h1 hl ho
    refine ⟨out, Ev.step (Ev.neg (by omega) (Ev.val _)) (fun k => spec_l11Marked.l0.eq_2 ..), Ev.step (Ev.neg (by omega) ?_) (fun k => impl_Forced.l0.eq_2 ..), by omega, ho⟩
    refine Ev.bind (a := out) ?_ (Ev.val _)
    unfold impl_clone_int.f
    exact Ev.pos (by omega) (Ev.val _)
  | succ d ih =>
    intro a out ha h1 hl ho
    have hwi := wsucc a (by omega)
    have hx := hat a (by omega)
    by_cases hz : rd v (a : Int) = 0
    · have hz2 : rd s (a : Int) = 0 := by
        rcases hx with h | h | h
        · exact h.2
        · omega
        · omega
      obtain ⟨out', e1, e2, e3⟩ := ih (a + 1) out (by omega) (by omega) (by omega) ho
      refine ⟨out', Ev.step ?_ (fun k => spec_l11Marked.l0.eq_2 ..), Ev.step ?_ (fun k => impl_Forced.l0.eq_2 ..), e3⟩
      · rw [hwi]
        exact Ev.pos (by omega) (Ev.pos (by omega) (Ev.pos hz e1))
      · rw [hwi]
        exact Ev.pos (by omega) (Ev.pos (by omega) (Ev.pos (by omega) (Ev.pos hz2 e2)))
    · have hz2 : rd s (a : Int) ≠ 0 ∧ wrap64 ((a : Int) * rd s (a : Int)) = rd v (a : Int) ∧ (rd v (a : Int)).natAbs = a := by
        rcases hx with h | ⟨h, h2, h3⟩ | ⟨h, h2, h3⟩
        · exact absurd h.1 hz
        · rw [h3, h2, Int.mul_one, w_id (by omega) (by omega)]
          exact ⟨by omega, rfl, by omega⟩
        · rw [h3, h2, show (a : Int) * (-1) = -(a : Int) by omega, w_id (by omega) (by omega)]
          exact ⟨by omega, rfl, by omega⟩
      obtain ⟨hz3, hz4, hz5⟩ := hz2
      obtain ⟨out', e1, e2, e3⟩ := ih (a + 1) (out ++ [rd v (a : Int)]) (by omega) (by omega) (by simp; omega) (fun j hj => by
        simp at hj
        by_cases e : j = out.length
        · subst e
          rw [rd_app_eq, hz5]
          exact ⟨⟨hz, by omega, by omega⟩, rfl⟩
        · rw [rd_app_lt (by omega)]
          exact ho j (by omega))
      refine ⟨out', Ev.step ?_ (fun k => spec_l11Marked.l0.eq_2 ..), Ev.step ?_ (fun k => impl_Forced.l0.eq_2 ..), e3⟩
      · rw [hwi]
        exact Ev.pos (by omega) (Ev.pos (by omega) (Ev.neg hz (Ev.pos (by omega) e1)))
      · rw [hwi, hz4]
        exact Ev.pos (by omega) (Ev.pos (by omega) (Ev.pos (by omega) (Ev.neg hz3 (Ev.pos (by omega) e2))))
theorem told_both (n : Nat) (hn : n ≤ 700) (v s : List Int) (hv : SignsOk n v s) :
    ∃ out, Ev (fun k => spec_l11Marked.f k v) out ∧ Ev (fun k => impl_Forced.l0 k [] s ((n + 1 : Nat) : Int) 0) (out, true) ∧ out.length ≤ n + 1 ∧ ∀ j : Nat, j < out.length → LitOk (n : Int) (rd out (j : Int)) ∧ rd v (((rd out (j : Int)).natAbs : Nat) : Int) = rd out (j : Int) := by
  obtain ⟨out, e1, e2, e3⟩ := told_loop n hn v s hv n 1 [] (by omega) (Nat.le_refl _) (by simp) (fun j hj => by simp at hj)
  have hsl := hv.2.1
  have h0 : rd s ((0 : Nat) : Int) = 0 := by
    rcases hv.2.2 0 (by omega) with h | h | h
    · exact h.2
    · omega
    · omega
  refine ⟨out, ?_, Ev.step ?_ (fun k => impl_Forced.l0.eq_2 ..), e3⟩
  · unfold spec_l11Marked.f
    exact e1
  · have hw : wrap64 (0 + 1) = ((1 : Nat) : Int) := wsucc 0 (by omega)
    rw [hw]
    exact Ev.pos (by omega) (Ev.pos (by omega) (Ev.pos (by omega) (Ev.pos h0 e2)))
/-- Clauses and literals that are ones. -/
def AskOk (n : Int) (L : List (List Int)) (g : List Int) : Prop := ClausesOk n L ∧ ClauseOk n g
theorem forced_yes (n : Nat) (L : List (List Int)) (g : List Int) (hL : Small L) (hg : g.length ≤ 1048576) (h : AskOk (n : Int) L g) :
    ∃ (out : List Int) (b : Bool), Ev (fun k => spec_Forced.f k (n : Int) L g) (out, b) ∧ Ev (fun k => impl_Forced.f k (n : Int) L g) (out, b) ∧ out.length ≤ n + 1 ∧ (∀ j : Nat, j < out.length → LitOk (n : Int) (rd out (j : Int))) ∧
      ∀ T, AllT T L → (∀ j : Nat, j < g.length → LT T (rd g (j : Int))) → b = true ∧ ∀ j : Nat, j < out.length → LT T (rd out (j : Int)) := by
  obtain ⟨h1, h2⟩ := h
  have hn : n ≤ 700 := by have := h1.1.2; omega
  have hlits : ∀ j : Nat, j < g.length → LitOk (n : Int) (rd g (j : Int)) := fun j hj => (h2.2 j hj).1
  obtain ⟨bs, hs1, hs2⟩ := spec_clauses (n : Int) L hL
  obtain rfl : bs = true := hs2.mpr h1
  obtain ⟨bi, hi1, hi2⟩ := impl_clauses (n : Int) L hL
  obtain rfl : bi = true := hi2.mpr h1
  obtain ⟨bt, ht1, ht2⟩ := spec_clause (n : Int) g hg
  obtain rfl : bt = true := ht2.mpr h2
  obtain ⟨bu, hu1, hu2⟩ := impl_clause (n : Int) g hg
  obtain rfl : bu = true := hu2.mpr h2
  obtain ⟨v, s, g1, g2, g3⟩ := given_both n hn g hg hlits
  obtain ⟨w, w1, w2, w3⟩ := given_sem n hn g hg hlits (clause_apart h2)
  obtain rfl := Ev.uniq g1 w1
  have hAL := all_lits n L hL h1
  obtain ⟨b, v', s', f1, f2, f3⟩ := force n hn L hAL v s g3
  obtain ⟨c, u, q1, q2⟩ := force_sem n hn L hAL v w2
  have e := Ev.uniq f1 q1
  injection e with e1 e2
  subst e1 e2
  obtain ⟨out, o1, o2, o3, o4⟩ := told_both n hn v' s' f3
  have hsl := g3.2.1
  have stS : ∀ r, Ev (fun k => (spec_l11Given.f k g (n : Int)).bind fun t141 => (spec_l11Force.f k L t141).bind fun bt144 => if bt144.1 = true then ((spec_l11Marked.f k bt144.2).bind fun t146 => some (t146, true)) else some (([] : List Int), false)) r → Ev (fun k => spec_Forced.f k (n : Int) L g) r := by
    intro r hr
    unfold spec_Forced.f
    exact Ev.bind hs1 (Ev.pos rfl (Ev.bind ht1 (Ev.step (Ev.neg (c := (!true) = true) (by decide) hr) (fun k => spec_Forced.j0.eq_2 ..))))
  have stI : ∀ r, Ev (fun k => (impl_signs.f k (n : Int) g).bind fun t172 => (impl_forced.f k L t172).bind fun bt175 => if bt175.1 = true then impl_Forced.l0 k ([] : List Int) bt175.2 (t172.length : Int) 0 else some (([] : List Int), false)) r → Ev (fun k => impl_Forced.f k (n : Int) L g) r := by
    intro r hr
    unfold impl_Forced.f
    exact Ev.bind hi1 (Ev.pos rfl (Ev.bind hu1 (Ev.step (Ev.neg (c := (!true) = true) (by decide) hr) (fun k => impl_Forced.j0.eq_2 ..))))
  cases b with
  | false =>
    refine ⟨[], false, stS _ (Ev.bind g1 (Ev.bind f1 (Ev.neg (by simp) (Ev.val _)))), stI _ (Ev.bind g2 (Ev.bind f2 (Ev.neg (by simp) (Ev.val _)))), by simp, fun j hj => by simp at hj, fun T hT hg => ?_⟩
    have := (q2.sound T hT ((w3 T).mpr hg)).1
    cases this
  | true =>
    refine ⟨out, true, stS _ (Ev.bind g1 (Ev.bind f1 (Ev.pos rfl (Ev.bind o1 (Ev.val _))))), stI _ (Ev.bind g2 (Ev.bind f2 (Ev.pos rfl ?_))), o3, fun j hj => (o4 j hj).1, fun T hT hg => ⟨rfl, fun j hj => ?_⟩⟩
    · rw [show (s.length : Int) = ((n + 1 : Nat) : Int) by omega]
      exact o2
    · have hC := (q2.sound T hT ((w3 T).mpr hg)).2
      obtain ⟨⟨x0, x1, x2⟩, x3⟩ := o4 j hj
      have := hC (rd out (j : Int)).natAbs (by omega) (by rw [x3]; exact x0)
      rwa [x3] at this
theorem forced_no (n : Int) (L : List (List Int)) (g : List Int) (hL : Small L) (hg : g.length ≤ 1048576) (h : ¬ AskOk n L g) :
    Ev (fun k => spec_Forced.f k n L g) (([] : List Int), false) ∧ Ev (fun k => impl_Forced.f k n L g) (([] : List Int), false) := by
  obtain ⟨bs, hs1, hs2⟩ := spec_clauses n L hL
  obtain ⟨bi, hi1, hi2⟩ := impl_clauses n L hL
  obtain ⟨bt, ht1, ht2⟩ := spec_clause n g hg
  obtain ⟨bu, hu1, hu2⟩ := impl_clause n g hg
  have e1 : bs = bi := by rw [Bool.eq_iff_iff, hs2, hi2]
  have e2 : bt = bu := by rw [Bool.eq_iff_iff, ht2, hu2]
  subst e1 e2
  have sE : ∀ x : Bool, x = true → Ev (fun k => spec_Forced.j0 k g x n L) (([] : List Int), false) := fun x hx => Ev.step (Ev.pos hx (Ev.val _)) (fun k => spec_Forced.j0.eq_2 ..)
  have iE : ∀ x : Bool, x = true → Ev (fun k => impl_Forced.j0 k g x n L) (([] : List Int), false) := fun x hx => Ev.step (Ev.pos hx (Ev.val _)) (fun k => impl_Forced.j0.eq_2 ..)
  unfold spec_Forced.f impl_Forced.f
  cases bs with
  | false => exact ⟨Ev.bind hs1 (Ev.neg (by decide) (sE _ rfl)), Ev.bind hi1 (Ev.neg (by decide) (iE _ rfl))⟩
  | true =>
    have : bt = false := by
      cases bt with
      | false => rfl
      | true => exact absurd ⟨hs2.mp rfl, ht2.mp rfl⟩ h
    subst this
    exact ⟨Ev.bind hs1 (Ev.pos rfl (Ev.bind ht1 (sE _ rfl))), Ev.bind hi1 (Ev.pos rfl (Ev.bind hu1 (iE _ rfl)))⟩
/-! #### marks: what is written into lists of numbers, and that it is held -/
theorem mark_ints_loop (n : Nat) (hn : n ≤ 1048576) : ∀ (d i : Nat) (ys : List Int), i + d = n → ys.length = n → (∀ j : Nat, j < i → rd ys (j : Int) = 1 + (j : Int)) →
    ∃ zs : List Int, zs.length = n ∧ (∀ j : Nat, j < n → rd zs (j : Int) = 1 + (j : Int)) ∧ Ev (fun k => laws_markIntS.l0 k ys (1 + (i : Int)) (i : Int)) (1 + (n : Int), zs) := by
  intro d
  induction d with
  | zero =>
    intro i ys hi hy h
    have : i = n := by omega
    subst this
    exact ⟨ys, hy, h, Ev.step (Ev.neg (by omega) (Ev.val _)) (fun k => laws_markIntS.l0.eq_2 ..)⟩
  | succ d ih =>
    intro i ys hi hy h
    have hwi := wsucc i (by omega)
    have hw : wrap64 (1 + (i : Int) + 1) = 1 + ((i + 1 : Nat) : Int) := by
      rw [w_id (by omega) (by omega)]
      omega
    obtain ⟨zs, h1, h2, h3⟩ := ih (i + 1) (ys.set i (1 + (i : Int))) (by omega) (by simpa using hy) (by
      intro j hj
      by_cases e : j = i
      · subst e
        rw [rd_set_eq (by omega)]
      · rw [rd_set_ne (by omega)]
        exact h j (by omega))
    refine ⟨zs, h1, h2, Ev.step ?_ (fun k => laws_markIntS.l0.eq_2 ..)⟩
    rw [hwi, hw, Int.toNat_natCast]
    exact Ev.pos (by omega) (Ev.pos (by omega) h3)
theorem held_ints_loop (n : Nat) (hn : n ≤ 1048576) (zs : List Int) (hz : zs.length = n) (h : ∀ j : Nat, j < n → rd zs (j : Int) = 1 + (j : Int)) : ∀ (d i : Nat), i + d = n →
    Ev (fun k => laws_heldIntS.l0 k zs (1 + (i : Int)) (i : Int)) (1 + (n : Int)) := by
  intro d
  induction d with
  | zero =>
    intro i hi
    have : i = n := by omega
    subst this
    exact Ev.step (Ev.neg (by omega) (Ev.val _)) (fun k => laws_heldIntS.l0.eq_2 ..)
  | succ d ih =>
    intro i hi
    have hwi := wsucc i (by omega)
    have hw : wrap64 (1 + (i : Int) + 1) = 1 + ((i + 1 : Nat) : Int) := by
      rw [w_id (by omega) (by omega)]
      omega
    refine Ev.step ?_ (fun k => laws_heldIntS.l0.eq_2 ..)
    rw [hwi, hw]
    exact Ev.pos (by omega) (Ev.pos (by omega) (Ev.pos (h i (by omega)) (ih (i + 1) (by omega))))
/-- What is marked is held. -/
theorem mark_held_ints (l : List Int) (hl : l.length ≤ 1048576) : ∃ zs : List Int, Ev (fun k => laws_markIntS.f k l 1) (1 + (l.length : Int), zs) ∧ Ev (fun k => laws_heldIntS.f k zs 1) (1 + (l.length : Int)) := by
  obtain ⟨zs, h1, h2, h3⟩ := mark_ints_loop l.length hl l.length 0 l (by omega) rfl (fun j hj => by omega)
  exact ⟨zs, h3, held_ints_loop l.length hl zs h1 h2 l.length 0 (by omega)⟩
theorem mark_any_loop (n : Nat) (hn : n ≤ 1048576) (a : Int) (ha : 0 ≤ a) (ha2 : a ≤ 4611686018427387904) : ∀ (d i : Nat) (ys : List Int), i + d = n → ys.length = n →
    ∃ zs : List Int, zs.length = n ∧ Ev (fun k => laws_markIntS.l0 k ys (a + (i : Int)) (i : Int)) (a + (n : Int), zs) := by
  intro d
  induction d with
  | zero =>
    intro i ys hi hy
    have : i = n := by omega
    subst this
    exact ⟨ys, hy, Ev.step (Ev.neg (by omega) (Ev.val _)) (fun k => laws_markIntS.l0.eq_2 ..)⟩
  | succ d ih =>
    intro i ys hi hy
    have hwi := wsucc i (by omega)
    have hw : wrap64 (a + (i : Int) + 1) = a + ((i + 1 : Nat) : Int) := by
      rw [w_id (by omega) (by omega)]
      omega
    obtain ⟨zs, h1, h3⟩ := ih (i + 1) (ys.set i (a + (i : Int))) (by omega) (by simpa using hy)
    refine ⟨zs, h1, Ev.step ?_ (fun k => laws_markIntS.l0.eq_2 ..)⟩
    rw [hwi, hw, Int.toNat_natCast]
    exact Ev.pos (by omega) (Ev.pos (by omega) h3)
theorem mark_any (l : List Int) (hl : l.length ≤ 1048576) (a : Int) (ha : 0 ≤ a) (ha2 : a ≤ 4611686018427387904) : ∃ zs : List Int, zs.length = l.length ∧ Ev (fun k => laws_markIntS.f k l a) (a + (l.length : Int), zs) := by
  obtain ⟨zs, h1, h2⟩ := mark_any_loop l.length hl a ha ha2 l.length 0 l (by omega) rfl
  refine ⟨zs, h1, ?_⟩
  have e : a + ((0 : Nat) : Int) = a := by omega
  rw [e] at h2
  exact h2
theorem mark_rows_loop (n : Nat) (hn : n ≤ 1048576) : ∀ (d i : Nat) (M : List (List Int)) (a : Int), i + d = n → M.length = n → (∀ j : Nat, j < n → (rd_L1 M (j : Int)).length ≤ 1048576) → 0 ≤ a → a ≤ 1 + (i : Int) * 1048576 →
    ∃ (z : Int) (zs : List (List Int)), Ev (fun k => laws_markIntSS.l0 k M a (i : Int)) (z, zs) ∧ 0 ≤ z ∧ z ≤ 1 + (n : Int) * 1048576 := by
  intro d
  induction d with
  | zero =>
    intro i M a hi hM hr h0 h1
    have : i = n := by omega
    subst this
    exact ⟨a, M, Ev.step (Ev.neg (by omega) (Ev.val _)) (fun k => laws_markIntSS.l0.eq_2 ..), h0, h1⟩
  | succ d ih =>
    intro i M a hi hM hr h0 h1
    have hwi := wsucc i (by omega)
    have hri := hr i (by omega)
    obtain ⟨zs, e1, e2⟩ := mark_any (rd_L1 M (i : Int)) hri a h0 (by omega)
    obtain ⟨z, Z, k1, k2, k3⟩ := ih (i + 1) (M.set i zs) (a + ((rd_L1 M (i : Int)).length : Int)) (by omega) (by rw [List.length_set]; exact hM) (fun j hj => by
      by_cases e : j = i
      · subst e
        rw [rows_lt (by rw [List.length_set]; omega), List.getElem_set_self]
        omega
      · rw [rows_lt (by rw [List.length_set]; omega), List.getElem_set_ne (by omega), ← rows_lt (by omega)]
        exact hr j hj) (by omega) (by omega)
    refine ⟨z, Z, Ev.step ?_ (fun k => laws_markIntSS.l0.eq_2 ..), k2, k3⟩
    rw [hwi, Int.toNat_natCast]
    exact Ev.pos (by omega) (Ev.pos (by omega) (Ev.bind e2 k1))
theorem mark_clauses (n : Int) (L : List (List Int)) (hL : Small L) : ∃ z : Int, Ev (fun k => laws_markClauses.f k n L 1) z ∧ 0 ≤ z ∧ z ≤ 1099511627777 := by
  obtain ⟨z, Z, k1, k2, k3⟩ := mark_rows_loop L.length hL.1 L.length 0 L 1 (by omega) rfl hL.2 (by omega) (by omega)
  have := hL.1
  refine ⟨z, ?_, k2, by omega⟩
  unfold laws_markClauses.f
  exact Ev.bind (a := (z, Z)) k1 (Ev.val _)

theorem both_forced (n : Int) (L : List (List Int)) (g : List Int) (hL : Small L) (hg : g.length ≤ 1048576) : ∃ (out : List Int) (b : Bool), Ev (fun k => spec_Forced.f k n L g) (out, b) ∧ Ev (fun k => impl_Forced.f k n L g) (out, b) ∧ out.length ≤ 1048576 := by
  by_cases h : AskOk n L g
  · obtain ⟨m, rfl⟩ := Int.eq_ofNat_of_zero_le h.1.1.1
    have hm : m ≤ 700 := by have := h.1.1.2; omega
    obtain ⟨out, b, h1, h2, h3, _⟩ := forced_yes m L g hL hg h
    exact ⟨out, b, h1, h2, by omega⟩
  · obtain ⟨h1, h2⟩ := forced_no n L g hL hg h
    exact ⟨[], false, h1, h2, by simp⟩
theorem FnExactForced : laws_FnExactForced.Pure := by
  intro n L c _ hL hc
  have hL1 : ∀ x ∈ L, x.length ≤ 9223372036854775807 := fun x hx => by have := (hL.2 x hx).1; rw [maxLen_val] at this; exact this
  apply Ev.get
  unfold laws_FnExactForced.f
  by_cases hb : (c.length : Int) > 1048576
  · exact Ev.pos hb (Ev.val _)
  refine Ev.neg hb ?_
  obtain ⟨z, hz, hz1, hz2⟩ := sz_rows L 1048576 (by have := hL.1; rw [maxLen_val] at this; exact this) hL1 (by omega) (by omega)
  have hsz : Ev (fun k => laws_szClauses.f k n L 1048576) (if z < 0 then -1 else z) := by
    unfold laws_szClauses.f
    by_cases h : z < 0
    · rw [if_pos h]
      exact Ev.bind hz (Ev.pos h (Ev.val _))
    · rw [if_neg h]
      exact Ev.bind hz (Ev.neg h (Ev.val _))
  refine Ev.bind hsz ?_
  by_cases h0 : z < 0
  · rw [if_pos h0]
    exact Ev.pos (by omega) (Ev.val _)
  rw [if_neg h0]
  refine Ev.neg h0 ?_
  have sL : Small L := hz2 (by omega)
  have sc : c.length ≤ 1048576 := by omega
  have tL : Ev (fun k => laws_toClauses.f k n L) (n, L) := by
    unfold laws_toClauses.f
    exact Ev.bind (to_rows L sL.1 sL.2) (Ev.val _)
  have tc := to_ints c sc
  obtain ⟨out, b, h1, h2, h3⟩ := both_forced n L c sL sc
  have eL : Ev (fun k => laws_eqClauses.f k n L n L) true := by
    unfold laws_eqClauses.f
    exact Ev.pos rfl (Ev.bind (eq_rows L sL.1 sL.2) (Ev.pos rfl (Ev.val _)))
  have eo := eq_ints out h3
  obtain ⟨m, m1, m2, m3⟩ := mark_clauses n L sL
  obtain ⟨ys, _, y2⟩ := mark_any c sc m m2 (by omega)
  obtain ⟨zs, z1, z2⟩ := mark_held_ints out h3
  refine Ev.bind tL (Ev.bind tc (Ev.bind h1 (Ev.bind tL (Ev.bind tc (Ev.bind h2 (Ev.bind eo (Ev.pos rfl (Ev.step ?_ (fun k => laws_FnExactForced.j0.eq_2 ..)))))))))
  refine Ev.neg (by simp) (Ev.bind tL (Ev.bind eL (Ev.pos rfl (Ev.bind tc (Ev.bind (eq_ints c sc) (Ev.pos rfl (Ev.bind m1 (Ev.bind y2 (Ev.neg (by show ¬ m + (c.length : Int) < 0; omega) (Ev.bind eo (Ev.pos rfl (Ev.step ?_ (fun k => laws_FnExactForced.j1.eq_2 ..)))))))))))))
  refine Ev.neg (by simp) (Ev.bind z1 (Ev.bind z2 (Ev.neg (by show ¬ 1 + (out.length : Int) < 0; omega) (Ev.pos rfl (Ev.bind tL (Ev.bind tc (Ev.bind h2 (Ev.bind eo (Ev.pos rfl (Ev.step ?_ (fun k => laws_FnExactForced.j2.eq_2 ..)))))))))))
  exact Ev.neg (by simp) (Ev.bind z2 (Ev.neg (by show ¬ 1 + (out.length : Int) < 0; omega) (Ev.pos rfl (Ev.val _))))

end Go.Proofs.Ytkfmgfdbdgjfiaa.Pure
