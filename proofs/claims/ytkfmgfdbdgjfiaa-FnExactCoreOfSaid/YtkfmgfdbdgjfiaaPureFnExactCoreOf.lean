/- FnExactCoreOf: the program and the reference tell the same core, whatever is handed in; what was handed in is as before, and what is handed back shares no memory with it. -/
import Derived.Test.YtkfmgfdbdgjfiaaQFnExactCoreOfx9
namespace Go.Proofs.Ytkfmgfdbdgjfiaa.Pure
open Go.RowKit Go.Proofs.Ytkfmgfdbdgjfiaa.QFnExactCoreOf Go.Proofs.YtkfmgfdbdgjfiaaW.PrintWords Go.Proofs.YtkfmgfdbdgjfiaaW.PrintLast Go.Proofs.YtkfmgfdbdgjfiaaW.PrintMore
set_option linter.unusedVariables false
set_option linter.unusedSimpArgs false

/-! #### rounds -/
/-- From some number of rounds on, g tells r. -/
def Ev {α : Type} (g : Nat → Option α) (r : α) : Prop := ∃ K, ∀ k, K ≤ k → g k = some r
theorem Ev.val {α : Type} (r : α) : Ev (fun _ => some r) r := ⟨0, fun _ _ => rfl⟩
theorem Ev.valEq {α : Type} {r r' : α} (h : r = r') : Ev (fun _ => some r) r' := ⟨0, fun _ _ => by rw [h]⟩
theorem Ev.const {α : Type} {g : Option α} {r : α} (h : g = some r) : Ev (fun _ => g) r := ⟨0, fun _ _ => h⟩
theorem Ev.bind {α β : Type} {g : Nat → Option α} {f : Nat → α → Option β} {a : α} {b : β} (h : Ev g a) (h2 : Ev (fun k => f k a) b) : Ev (fun k => (g k).bind (f k)) b := by
  obtain ⟨K, hK⟩ := h
  obtain ⟨L, hL⟩ := h2
  exact ⟨max K L, fun k hk => by show (g k).bind (f k) = _; rw [hK k (by omega)]; exact hL k (by omega)⟩
theorem Ev.step {α : Type} {g g' : Nat → Option α} {r : α} (h : Ev g' r) (e : ∀ k, g (k + 1) = g' k) : Ev g r := by
  obtain ⟨K, hK⟩ := h
  exact ⟨K + 1, fun k hk => by
    obtain ⟨m, rfl⟩ : ∃ m, k = m + 1 := ⟨k - 1, by omega⟩
    rw [e]
    exact hK m (by omega)⟩
theorem Ev.eq {α : Type} {g g' : Nat → Option α} {r : α} (h : Ev g' r) (e : ∀ k, g k = g' k) : Ev g r := by
  obtain ⟨K, hK⟩ := h
  exact ⟨K, fun k hk => by rw [e]; exact hK k hk⟩
theorem Ev.pos {α : Type} {c : Prop} [Decidable c] {g g' : Nat → Option α} {r : α} (hc : c) (h : Ev g r) : Ev (fun k => if c then g k else g' k) r := by
  obtain ⟨K, hK⟩ := h
  exact ⟨K, fun k hk => by simp only [if_pos hc]; exact hK k hk⟩
theorem Ev.neg {α : Type} {c : Prop} [Decidable c] {g g' : Nat → Option α} {r : α} (hc : ¬ c) (h : Ev g' r) : Ev (fun k => if c then g k else g' k) r := by
  obtain ⟨K, hK⟩ := h
  exact ⟨K, fun k hk => by simp only [if_neg hc]; exact hK k hk⟩
theorem Ev.get {α : Type} {g : Nat → Option α} {r : α} (h : Ev g r) : ∃ k, g k = some r := by
  obtain ⟨K, hK⟩ := h
  exact ⟨K, hK K (Nat.le_refl _)⟩
theorem Ev.to {α : Type} {g : Nat → Option α} {r r' : α} (h : Ev g r) (e : r = r') : Ev g r' := e ▸ h
/-! #### numbers -/
theorem w_id {x : Int} (h0 : -9223372036854775808 ≤ x) (h1 : x ≤ 9223372036854775807) : wrap64 x = x := by
  unfold wrap64
  omega
/-! #### lists -/
theorem rd_nat (l : List Int) (i : Nat) : rd l (i : Int) = l.getD i 0 := by
  unfold rd
  rw [Int.toNat_natCast]
theorem getD_lt {α : Type} {l : List α} {i : Nat} (h : i < l.length) (d : α) : l.getD i d = l[i] := by
  rw [List.getD_eq_getElem?_getD, List.getElem?_eq_getElem h]
  rfl
theorem rd_lt {l : List Int} {i : Nat} (h : i < l.length) : rd l (i : Int) = l[i] := by rw [rd_nat, getD_lt h]
theorem rd_set_eq {l : List Int} {i : Nat} {v : Int} (h : i < l.length) : rd (l.set i v) (i : Int) = v := by
  rw [rd_lt (by simpa using h)]
  simp
theorem rd_set_ne {l : List Int} {i j : Nat} {v : Int} (h : i ≠ j) : rd (l.set i v) (j : Int) = rd l (j : Int) := by
  rw [rd_nat, rd_nat, List.getD_eq_getElem?_getD, List.getD_eq_getElem?_getD, List.getElem?_set_ne h]
theorem rd_app_lt {l m : List Int} {j : Nat} (h : j < l.length) : rd (l ++ m) (j : Int) = rd l (j : Int) := by
  rw [rd_nat, rd_nat, List.getD_eq_getElem?_getD, List.getD_eq_getElem?_getD, List.getElem?_append_left h]
theorem rd_app_eq {l : List Int} {v : Int} : rd (l ++ [v]) (l.length : Int) = v := by
  rw [rd_nat, List.getD_eq_getElem?_getD, List.getElem?_append_right (Nat.le_refl _)]
  simp
theorem list_eq_rd {l m : List Int} (hl : l.length = m.length) (h : ∀ j : Nat, j < l.length → rd l (j : Int) = rd m (j : Int)) : l = m := by
  apply List.ext_getElem hl
  intro i h1 h2
  rw [← rd_lt h1, ← rd_lt h2]
  exact h i h1
theorem wsucc (i : Nat) (h : i ≤ 4611686018427387904) : wrap64 ((i : Int) + 1) = ((i + 1 : Nat) : Int) := by
  unfold wrap64
  omega
/-- g tells in the end whether p is so. -/
def Dec (g : Nat → Option Bool) (p : Prop) : Prop := ∃ b, Ev g b ∧ (b = true ↔ p)
theorem Dec.yes {g : Nat → Option Bool} {p : Prop} (h : Ev g true) (hp : p) : Dec g p := ⟨true, h, by simp [hp]⟩
theorem Dec.no {g : Nat → Option Bool} {p : Prop} (h : Ev g false) (hp : ¬ p) : Dec g p := ⟨false, h, by simp [hp]⟩
theorem Dec.iff {g : Nat → Option Bool} {p q : Prop} (h : Dec g p) (e : p ↔ q) : Dec g q := by
  obtain ⟨b, h1, h2⟩ := h
  exact ⟨b, h1, h2.trans e⟩
theorem all_from {P : Nat → Prop} {i n : Nat} (hi : i < n) : (∀ j, i ≤ j → j < n → P j) ↔ P i ∧ ∀ j, i + 1 ≤ j → j < n → P j := by
  constructor
  · intro h
    exact ⟨h i (Nat.le_refl _) hi, fun j h1 h2 => h j (by omega) h2⟩
  · rintro ⟨h1, h2⟩ j h3 h4
    rcases Nat.lt_or_eq_of_le h3 with h | rfl
    · exact h2 j h h4
    · exact h1
theorem all_none {P : Nat → Prop} {i n : Nat} (hi : n ≤ i) : ∀ j, i ≤ j → j < n → P j := fun j h1 h2 => by omega
/-! #### it tells something, of which P holds -/
def Tot {α : Type} (g : Nat → Option α) (P : α → Prop) : Prop := ∃ r, Ev g r ∧ P r
theorem Tot.val {α : Type} {P : α → Prop} {r : α} (h : P r) : Tot (fun _ => some r) P := ⟨r, Ev.val r, h⟩
theorem Tot.mono {α : Type} {g : Nat → Option α} {P Q : α → Prop} (h : Tot g P) (hq : ∀ r, P r → Q r) : Tot g Q := by
  obtain ⟨r, h1, h2⟩ := h
  exact ⟨r, h1, hq r h2⟩
theorem Tot.step {α : Type} {g g' : Nat → Option α} {P : α → Prop} (h : Tot g' P) (e : ∀ k, g (k + 1) = g' k) : Tot g P := by
  obtain ⟨r, h1, h2⟩ := h
  exact ⟨r, Ev.step h1 e, h2⟩
theorem Tot.bind {α β : Type} {g : Nat → Option α} {f : Nat → α → Option β} {Q : α → Prop} {P : β → Prop} (h : Tot g Q) (h2 : ∀ a, Q a → Tot (fun k => f k a) P) : Tot (fun k => (g k).bind (f k)) P := by
  obtain ⟨a, ha, hq⟩ := h
  obtain ⟨r, h1, h3⟩ := h2 a hq
  exact ⟨r, Ev.bind ha h1, h3⟩
theorem Tot.pos {α : Type} {c : Prop} [Decidable c] {g g' : Nat → Option α} {P : α → Prop} (hc : c) (h : Tot g P) : Tot (fun k => if c then g k else g' k) P := by
  obtain ⟨r, h1, h2⟩ := h
  exact ⟨r, Ev.pos hc h1, h2⟩
theorem Tot.neg {α : Type} {c : Prop} [Decidable c] {g g' : Nat → Option α} {P : α → Prop} (hc : ¬ c) (h : Tot g' P) : Tot (fun k => if c then g k else g' k) P := by
  obtain ⟨r, h1, h2⟩ := h
  exact ⟨r, Ev.neg hc h1, h2⟩
theorem Tot.ite {α : Type} {c : Prop} [Decidable c] {g g' : Nat → Option α} {P : α → Prop} (h1 : c → Tot g P) (h2 : ¬ c → Tot g' P) : Tot (fun k => if c then g k else g' k) P := by
  by_cases hc : c
  · exact Tot.pos hc (h1 hc)
  · exact Tot.neg hc (h2 hc)
/-! #### rows of whole numbers: sizes, copies, comparisons -/
theorem maxLen_val : maxLen = 9223372036854775807 := by decide
theorem rows_nat (l : List (List Int)) (i : Nat) : rd_L1 l (i : Int) = l.getD i [] := by
  unfold rd_L1
  rw [Int.toNat_natCast]
theorem rows_lt {l : List (List Int)} {i : Nat} (h : i < l.length) : rd_L1 l (i : Int) = l[i] := by rw [rows_nat, getD_lt h]
theorem rows_mem {l : List (List Int)} {i : Nat} (h : i < l.length) : rd_L1 l (i : Int) ∈ l := by
  rw [rows_lt h]
  exact List.getElem_mem h
theorem sz_ints (l : List Int) (a : Int) (hl : l.length ≤ 9223372036854775807) (ha0 : 0 ≤ a) (ha : a ≤ 1048576) :
    Tot (fun _ => laws_szIntS.f l a) (fun r => r ≤ a ∧ (0 ≤ r → (l.length : Int) ≤ a)) := by
  have w1 : wrap64 (a - (l.length : Int)) = a - (l.length : Int) := w_id (by omega) (by omega)
  unfold laws_szIntS.f
  rw [w1]
  exact Tot.ite (fun h => Tot.val ⟨by omega, by omega⟩) (fun h => Tot.val ⟨by omega, by omega⟩)
theorem sz_rows_loop (l : List (List Int)) (hl : l.length ≤ 1048576) (hr : ∀ x ∈ l, x.length ≤ 9223372036854775807) : ∀ (d i : Nat) (a : Int), i + d = l.length → 0 ≤ a → a ≤ 1048576 →
    Tot (fun k => laws_szIntSS.l0 k l a (i : Int)) (fun r => r ≤ a ∧ (0 ≤ r → ∀ j : Nat, i ≤ j → j < l.length → ((rd_L1 l (j : Int)).length : Int) ≤ a)) := by
  intro d
  induction d with
  | zero =>
    intro i a hi h0 h1
    exact Tot.step (Tot.neg (by omega) (Tot.val ⟨by omega, fun _ j h1 h2 => by omega⟩)) (fun k => laws_szIntSS.l0.eq_2 ..)
  | succ d ih =>
    intro i a hi h0 h1
    have hwi := wsucc i (by omega)
    refine Tot.step (Tot.pos (by omega) (Tot.pos (by omega) (Tot.bind (sz_ints (rd_L1 l (i : Int)) a (hr _ (rows_mem (by omega))) h0 h1) ?_))) (fun k => laws_szIntSS.l0.eq_2 ..)
    rintro t ⟨t1, t2⟩
    refine Tot.ite (fun h => Tot.val ⟨by omega, by omega⟩) (fun h => ?_)
    rw [hwi]
    refine (ih (i + 1) t (by omega) (by omega) (by omega)).mono ?_
    rintro r ⟨r1, r2⟩
    refine ⟨by omega, fun hr0 j j1 j2 => ?_⟩
    rcases Nat.lt_or_eq_of_le j1 with j3 | rfl
    · have := r2 hr0 j j3 j2
      omega
    · exact t2 (by omega)
theorem sz_rows (l : List (List Int)) (a : Int) (hl : l.length ≤ 9223372036854775807) (hr : ∀ x ∈ l, x.length ≤ 9223372036854775807) (ha0 : 0 ≤ a) (ha : a ≤ 1048576) :
    Tot (fun k => laws_szIntSS.f k l a) (fun r => r ≤ a ∧ (0 ≤ r → l.length ≤ 1048576 ∧ ∀ j : Nat, j < l.length → (rd_L1 l (j : Int)).length ≤ 1048576)) := by
  have w1 : wrap64 (a - (l.length : Int)) = a - (l.length : Int) := w_id (by omega) (by omega)
  unfold laws_szIntSS.f
  rw [w1]
  refine Tot.ite (fun h => Tot.val ⟨by omega, by omega⟩) (fun h => ?_)
  refine (sz_rows_loop l (by omega) hr l.length 0 (a - (l.length : Int)) (by omega) (by omega) (by omega)).mono ?_
  rintro r ⟨r1, r2⟩
  exact ⟨by omega, fun h0 => ⟨by omega, fun j hj => by have := r2 h0 j (by omega) hj; omega⟩⟩
/-- The copy up to i. -/
theorem to_ints_loop (l : List Int) (hl : l.length ≤ 1048576) : ∀ (d i : Nat) (ys : List Int), i + d = l.length → ys.length = l.length → (∀ j : Nat, j < i → rd ys (j : Int) = rd l (j : Int)) →
    Ev (fun k => laws_toIntS.l0 k l ys (i : Int)) l := by
  intro d
  induction d with
  | zero =>
    intro i ys hi hy h
    refine Ev.step (Ev.neg (by omega) (Ev.valEq ?_)) (fun k => laws_toIntS.l0.eq_2 ..)
    exact list_eq_rd hy (fun j hj => h j (by omega))
  | succ d ih =>
    intro i ys hi hy h
    have hwi := wsucc i (by omega)
    refine Ev.step (Ev.pos (by omega) (Ev.pos (by omega) (Ev.pos (by omega) ?_))) (fun k => laws_toIntS.l0.eq_2 ..)
    rw [hwi, Int.toNat_natCast]
    refine ih (i + 1) _ (by omega) (by simpa using hy) ?_
    intro j hj
    by_cases e : j = i
    · subst e
      rw [rd_set_eq (by omega)]
    · rw [rd_set_ne (by omega)]
      exact h j (by omega)
theorem to_ints (l : List Int) (hl : l.length ≤ 1048576) : Ev (fun k => laws_toIntS.f k l) l := by
  unfold laws_toIntS.f
  rw [Int.toNat_natCast]
  exact Ev.pos (by omega) (Ev.pos (by omega) (to_ints_loop l hl l.length 0 _ (by omega) (by simp) (fun j hj => by omega)))
theorem to_rows_loop (l : List (List Int)) (hl : l.length ≤ 1048576) (hr : ∀ j : Nat, j < l.length → (rd_L1 l (j : Int)).length ≤ 1048576) : ∀ (d i : Nat) (ys : List (List Int)), i + d = l.length → ys.length = l.length → (∀ j : Nat, j < i → rd_L1 ys (j : Int) = rd_L1 l (j : Int)) →
    Ev (fun k => laws_toIntSS.l0 k l ys (i : Int)) l := by
  intro d
  induction d with
  | zero =>
    intro i ys hi hy h
    refine Ev.step (Ev.neg (by omega) (Ev.valEq ?_)) (fun k => laws_toIntSS.l0.eq_2 ..)
    apply List.ext_getElem hy
    intro j h1 h2
    rw [← rows_lt h1, ← rows_lt h2]
    exact h j (by omega)
  | succ d ih =>
    intro i ys hi hy h
    have hwi := wsucc i (by omega)
    refine Ev.step (Ev.pos (by omega) (Ev.pos (by omega) (Ev.bind (to_ints _ (hr i (by omega))) (Ev.pos (by omega) ?_)))) (fun k => laws_toIntSS.l0.eq_2 ..)
    rw [hwi, Int.toNat_natCast]
    refine ih (i + 1) _ (by omega) (by simpa using hy) ?_
    intro j hj
    by_cases e : j = i
    · subst e
      rw [rows_lt (by simp; omega)]
      simp
    · rw [rows_nat, List.getD_eq_getElem?_getD, List.getElem?_set_ne (by omega), ← List.getD_eq_getElem?_getD, ← rows_nat]
      exact h j (by omega)
theorem to_rows (l : List (List Int)) (hl : l.length ≤ 1048576) (hr : ∀ j : Nat, j < l.length → (rd_L1 l (j : Int)).length ≤ 1048576) : Ev (fun k => laws_toIntSS.f k l) l := by
  unfold laws_toIntSS.f
  rw [Int.toNat_natCast]
  exact Ev.pos (by omega) (Ev.pos (by omega) (to_rows_loop l hl hr l.length 0 _ (by omega) (by simp) (fun j hj => by omega)))
theorem eq_ints_loop (l : List Int) (hl : l.length ≤ 1048576) : ∀ (d i : Nat), i + d = l.length → Ev (fun k => laws_eqIntS.l0 k l l (i : Int)) true := by
  intro d
  induction d with
  | zero =>
    intro i hi
    exact Ev.step (Ev.neg (by omega) (Ev.val _)) (fun k => laws_eqIntS.l0.eq_2 ..)
  | succ d ih =>
    intro i hi
    have hwi := wsucc i (by omega)
    refine Ev.step ?_ (fun k => laws_eqIntS.l0.eq_2 ..)
    rw [hwi]
    exact Ev.pos (by omega) (Ev.pos (by omega) (Ev.pos (by omega) (Ev.pos rfl (ih (i + 1) (by omega)))))
theorem eq_ints (l : List Int) (hl : l.length ≤ 1048576) : Ev (fun k => laws_eqIntS.f k l l) true := by
  unfold laws_eqIntS.f
  exact Ev.pos rfl (eq_ints_loop l hl l.length 0 (by omega))
theorem eq_rows_loop (l : List (List Int)) (hl : l.length ≤ 1048576) (hr : ∀ j : Nat, j < l.length → (rd_L1 l (j : Int)).length ≤ 1048576) : ∀ (d i : Nat), i + d = l.length → Ev (fun k => laws_eqIntSS.l0 k l l (i : Int)) true := by
  intro d
  induction d with
  | zero =>
    intro i hi
    exact Ev.step (Ev.neg (by omega) (Ev.val _)) (fun k => laws_eqIntSS.l0.eq_2 ..)
  | succ d ih =>
    intro i hi
    have hwi := wsucc i (by omega)
    refine Ev.step ?_ (fun k => laws_eqIntSS.l0.eq_2 ..)
    rw [hwi]
    exact Ev.pos (by omega) (Ev.pos (by omega) (Ev.pos (by omega) (Ev.bind (eq_ints _ (hr i (by omega))) (Ev.pos rfl (ih (i + 1) (by omega))))))
theorem eq_rows (l : List (List Int)) (hl : l.length ≤ 1048576) (hr : ∀ j : Nat, j < l.length → (rd_L1 l (j : Int)).length ≤ 1048576) : Ev (fun k => laws_eqIntSS.f k l l) true := by
  unfold laws_eqIntSS.f
  exact Ev.pos rfl (eq_rows_loop l hl hr l.length 0 (by omega))
/-! #### clauses -/
theorem wneg {x : Int} (h0 : -9223372036854775807 ≤ x) (h1 : x ≤ 9223372036854775807) : wrap64 (-x) = -x := w_id (by omega) (by omega)
/-- The atom of a literal. -/
def AbsI (x : Int) : Int := if x < 0 then -x else x
theorem absI_pos (x : Int) : 0 ≤ AbsI x := by unfold AbsI; split <;> omega
theorem spec_abs {x : Int} (h0 : -9223372036854775807 ≤ x) (h1 : x ≤ 9223372036854775807) : Ev (fun _ => spec_l11Abs.f x) (AbsI x) := by
  unfold spec_l11Abs.f AbsI
  by_cases h : x < 0
  · exact Ev.pos h (Ev.valEq (by rw [wneg h0 h1, if_pos h]))
  · exact Ev.neg h (Ev.valEq (by rw [if_neg h]))
theorem impl_abs {x : Int} (h0 : -9223372036854775807 ≤ x) (h1 : x ≤ 9223372036854775807) : Ev (fun _ => impl_atomOf.f x) (AbsI x) := by
  unfold impl_atomOf.f
  rw [wneg h0 h1]
  refine Ev.valEq ?_
  unfold mx AbsI
  split <;> split <;> omega
theorem in_dec {x a b : Int} : Ev (fun _ => impl_in.f x a b) (decide (a ≤ x ∧ x ≤ b)) := by
  unfold impl_in.f
  by_cases h : x ≥ a
  · refine Ev.pos h (Ev.valEq ?_)
    simp only [decide_eq_decide]
    omega
  · refine Ev.neg h (Ev.valEq ?_)
    symm
    rw [decide_eq_false_iff_not]
    omega
theorem sin_dec {x a b : Int} : Ev (fun _ => spec_l1In.f x a b) (decide (a ≤ x ∧ x ≤ b)) := by
  unfold spec_l1In.f
  by_cases h : x ≥ a
  · refine Ev.pos h (Ev.valEq ?_)
    simp only [decide_eq_decide]
    omega
  · refine Ev.neg h (Ev.valEq ?_)
    symm
    rw [decide_eq_false_iff_not]
    omega
/-- A literal of n atoms. -/
def LitOk (n x : Int) : Prop := x ≠ 0 ∧ -n ≤ x ∧ x ≤ n
instance (n x : Int) : Decidable (LitOk n x) := by unfold LitOk; infer_instance
theorem spec_lit {n x : Int} (hn : -9223372036854775807 ≤ n) (hn2 : n ≤ 9223372036854775807) : Ev (fun _ => spec_l11Lit.f x n) (decide (LitOk n x)) := by
  unfold spec_l11Lit.f
  by_cases h : x = 0
  · exact Ev.pos h (Ev.valEq (by symm; rw [decide_eq_false_iff_not]; exact fun h1 => h1.1 h))
  · rw [wneg hn hn2]
    refine Ev.neg h (Ev.bind sin_dec (Ev.valEq ?_))
    simp only [decide_eq_decide]
    unfold LitOk
    omega
/-- Place j of a clause of n atoms. -/
def PlaceOk (n : Int) (c : List Int) (j : Nat) : Prop := LitOk n (rd c (j : Int)) ∧ (0 < j → AbsI (rd c ((j - 1 : Nat) : Int)) < AbsI (rd c (j : Int)))
def ClauseOk (n : Int) (c : List Int) : Prop := (0 ≤ n ∧ n ≤ 700) ∧ ∀ j : Nat, j < c.length → PlaceOk n c j
theorem spec_clause_loop (n : Int) (hn : 0 ≤ n ∧ n ≤ 700) (c : List Int) (hc : c.length ≤ 1048576) : ∀ (d i : Nat), i + d = c.length → (∀ j : Nat, j < i → PlaceOk n c j) →
    Dec (fun k => spec_ClauseValid.l0 k c n (i : Int)) (∀ j : Nat, i ≤ j → j < c.length → PlaceOk n c j) := by
  intro d
  induction d with
  | zero =>
    intro i hi hp
    refine Dec.yes (Ev.step (Ev.neg (by omega) (Ev.bind sin_dec (Ev.valEq ?_))) (fun k => spec_ClauseValid.l0.eq_2 ..)) (all_none (by omega))
    simp [hn]
  | succ d ih =>
    intro i hi hp
    have hwi := wsucc i (by omega)
    have hlt : i < c.length := by omega
    by_cases h : LitOk n (rd c (i : Int))
    · by_cases h0 : 0 < i
      · have hw : wrap64 ((i : Int) - 1) = ((i - 1 : Nat) : Int) := by rw [w_id (by omega) (by omega)]; omega
        have hq := (hp (i - 1) (by omega)).1
        by_cases h2 : AbsI (rd c (i : Int)) ≤ AbsI (rd c ((i - 1 : Nat) : Int))
        · refine Dec.no (Ev.step ?_ (fun k => spec_ClauseValid.l0.eq_2 ..)) (fun h3 => ?_)
          · rw [hwi, hw]
            refine Ev.pos (by omega) (Ev.pos (by omega) (Ev.bind (spec_lit (by omega) (by omega)) (Ev.pos (by simpa using h) (Ev.pos (by omega) (Ev.bind (spec_abs (by have := h.2; omega) (by have := h.2; omega)) (Ev.pos (by omega) (Ev.pos (by omega) (Ev.bind (spec_abs (by have := hq.2; omega) (by have := hq.2; omega)) (Ev.pos h2 (Ev.val _))))))))))
          · have := (h3 i (Nat.le_refl _) hlt).2 h0
            omega
        · obtain ⟨b, hb, hbi⟩ := ih (i + 1) (by omega) (fun j hj => by
            rcases Nat.lt_succ_iff_lt_or_eq.mp hj with h5 | rfl
            · exact hp j h5
            · exact ⟨h, fun _ => by omega⟩)
          refine ⟨b, Ev.step ?_ (fun k => spec_ClauseValid.l0.eq_2 ..), ?_⟩
          · rw [hwi, hw]
            refine Ev.pos (by omega) (Ev.pos (by omega) (Ev.bind (spec_lit (by omega) (by omega)) (Ev.pos (by simpa using h) (Ev.pos (by omega) (Ev.bind (spec_abs (by have := h.2; omega) (by have := h.2; omega)) (Ev.pos (by omega) (Ev.pos (by omega) (Ev.bind (spec_abs (by have := hq.2; omega) (by have := hq.2; omega)) (Ev.neg h2 hb)))))))))
          · rw [hbi, all_from (P := PlaceOk n c) hlt]
            exact ⟨fun h3 => ⟨⟨h, fun _ => by omega⟩, h3⟩, fun h3 => h3.2⟩
      · obtain ⟨b, hb, hbi⟩ := ih (i + 1) (by omega) (fun j hj => by
          rcases Nat.lt_succ_iff_lt_or_eq.mp hj with h5 | rfl
          · exact hp j h5
          · exact ⟨h, fun h6 => absurd h6 h0⟩)
        refine ⟨b, Ev.step ?_ (fun k => spec_ClauseValid.l0.eq_2 ..), ?_⟩
        · rw [hwi]
          exact Ev.pos (by omega) (Ev.pos (by omega) (Ev.bind (spec_lit (by omega) (by omega)) (Ev.pos (by simpa using h) (Ev.neg (by omega) hb))))
        · rw [hbi, all_from (P := PlaceOk n c) hlt]
          exact ⟨fun h3 => ⟨⟨h, fun h6 => absurd h6 h0⟩, h3⟩, fun h3 => h3.2⟩
    · refine Dec.no (Ev.step (Ev.pos (by omega) (Ev.pos (by omega) (Ev.bind (spec_lit (by omega) (by omega)) (Ev.neg (by simpa using h) (Ev.val _))))) (fun k => spec_ClauseValid.l0.eq_2 ..)) (fun h3 => h (h3 i (Nat.le_refl _) hlt).1)
theorem impl_clause_loop (n : Int) (hn : 0 ≤ n ∧ n ≤ 700) (c : List Int) (hc : c.length ≤ 1048576) : ∀ (d i : Nat), i + d = c.length → (∀ j : Nat, j < i → PlaceOk n c j) →
    Dec (fun k => impl_ClauseValid.l0 k c n c (c.length : Int) (i : Int)) (∀ j : Nat, i ≤ j → j < c.length → PlaceOk n c j) := by
  intro d
  have hwn := wneg (x := n) (by omega) (by omega)
  induction d with
  | zero =>
    intro i hi hp
    exact Dec.yes (Ev.step (Ev.neg (by omega) (Ev.val _)) (fun k => impl_ClauseValid.l0.eq_2 ..)) (all_none (by omega))
  | succ d ih =>
    intro i hi hp
    have hwi := wsucc i (by omega)
    have hlt : i < c.length := by omega
    by_cases hr : -n ≤ rd c (i : Int) ∧ rd c (i : Int) ≤ n
    · by_cases hz : rd c (i : Int) = 0
      · refine Dec.no (Ev.step ?_ (fun k => impl_ClauseValid.l0.eq_2 ..)) (fun h3 => (h3 i (Nat.le_refl _) hlt).1.1 hz)
        rw [hwn]
        exact Ev.pos (by omega) (Ev.pos (by omega) (Ev.pos (by omega) (Ev.bind in_dec (Ev.pos (by simpa using hr) (Ev.pos hz (Ev.val _))))))
      · have h : LitOk n (rd c (i : Int)) := ⟨hz, hr⟩
        by_cases h0 : 0 < i
        · have hw : wrap64 ((i : Int) - 1) = ((i - 1 : Nat) : Int) := by rw [w_id (by omega) (by omega)]; omega
          have hq := (hp (i - 1) (by omega)).1
          by_cases h2 : AbsI (rd c ((i - 1 : Nat) : Int)) ≥ AbsI (rd c (i : Int))
          · refine Dec.no (Ev.step ?_ (fun k => impl_ClauseValid.l0.eq_2 ..)) (fun h3 => ?_)
            · rw [hwi, hw, hwn]
              exact Ev.pos (by omega) (Ev.pos (by omega) (Ev.pos (by omega) (Ev.bind in_dec (Ev.pos (by simpa using hr) (Ev.neg hz (Ev.pos (by omega) (Ev.pos (by omega) (Ev.pos (by omega) (Ev.bind (impl_abs (by have := hq.2; omega) (by have := hq.2; omega)) (Ev.bind (impl_abs (by have := h.2; omega) (by have := h.2; omega)) (Ev.pos h2 (Ev.val _))))))))))))
            · have := (h3 i (Nat.le_refl _) hlt).2 h0
              omega
          · obtain ⟨b, hb, hbi⟩ := ih (i + 1) (by omega) (fun j hj => by
              rcases Nat.lt_succ_iff_lt_or_eq.mp hj with h5 | rfl
              · exact hp j h5
              · exact ⟨h, fun _ => by omega⟩)
            refine ⟨b, Ev.step ?_ (fun k => impl_ClauseValid.l0.eq_2 ..), ?_⟩
            · rw [hwi, hw, hwn]
              exact Ev.pos (by omega) (Ev.pos (by omega) (Ev.pos (by omega) (Ev.bind in_dec (Ev.pos (by simpa using hr) (Ev.neg hz (Ev.pos (by omega) (Ev.pos (by omega) (Ev.pos (by omega) (Ev.bind (impl_abs (by have := hq.2; omega) (by have := hq.2; omega)) (Ev.bind (impl_abs (by have := h.2; omega) (by have := h.2; omega)) (Ev.neg h2 hb)))))))))))
            · rw [hbi, all_from (P := PlaceOk n c) hlt]
              exact ⟨fun h3 => ⟨⟨h, fun _ => by omega⟩, h3⟩, fun h3 => h3.2⟩
        · obtain ⟨b, hb, hbi⟩ := ih (i + 1) (by omega) (fun j hj => by
            rcases Nat.lt_succ_iff_lt_or_eq.mp hj with h5 | rfl
            · exact hp j h5
            · exact ⟨h, fun h6 => absurd h6 h0⟩)
          refine ⟨b, Ev.step ?_ (fun k => impl_ClauseValid.l0.eq_2 ..), ?_⟩
          · rw [hwi, hwn]
            exact Ev.pos (by omega) (Ev.pos (by omega) (Ev.pos (by omega) (Ev.bind in_dec (Ev.pos (by simpa using hr) (Ev.neg hz (Ev.neg (by omega) hb))))))
          · rw [hbi, all_from (P := PlaceOk n c) hlt]
            exact ⟨fun h3 => ⟨⟨h, fun h6 => absurd h6 h0⟩, h3⟩, fun h3 => h3.2⟩
    · refine Dec.no (Ev.step ?_ (fun k => impl_ClauseValid.l0.eq_2 ..)) (fun h3 => hr (h3 i (Nat.le_refl _) hlt).1.2)
      rw [hwn]
      exact Ev.pos (by omega) (Ev.pos (by omega) (Ev.pos (by omega) (Ev.bind in_dec (Ev.neg (by simpa using hr) (Ev.val _)))))
/-- Of any number of atoms, the reference tells something. -/
theorem spec_clause_any_loop (n : Int) (hn : ¬ (0 ≤ n ∧ n ≤ 700)) (c : List Int) (hc : c.length ≤ 1048576) : ∀ (d i : Nat), i + d = c.length → Ev (fun k => spec_ClauseValid.l0 k c n (i : Int)) false := by
  intro d
  induction d with
  | zero =>
    intro i hi
    refine Ev.step (Ev.neg (by omega) (Ev.bind sin_dec (Ev.valEq ?_))) (fun k => spec_ClauseValid.l0.eq_2 ..)
    simpa using hn
  | succ d ih =>
    intro i hi
    have hwi := wsucc i (by omega)
    have hlit : ∃ b, Ev (fun _ => spec_l11Lit.f (rd c (i : Int)) n) b := by
      unfold spec_l11Lit.f
      by_cases h : rd c (i : Int) = 0
      · exact ⟨_, Ev.pos h (Ev.val _)⟩
      · exact ⟨_, Ev.neg h (Ev.bind sin_dec (Ev.val _))⟩
    have habs : ∀ x : Int, ∃ b, Ev (fun _ => spec_l11Abs.f x) b := by
      intro x
      unfold spec_l11Abs.f
      by_cases h : x < 0
      · exact ⟨_, Ev.pos h (Ev.val _)⟩
      · exact ⟨_, Ev.neg h (Ev.val _)⟩
    obtain ⟨b, hb⟩ := hlit
    refine Ev.step ?_ (fun k => spec_ClauseValid.l0.eq_2 ..)
    rw [hwi]
    refine Ev.pos (by omega) (Ev.pos (by omega) (Ev.bind hb ?_))
    cases b with
    | false => exact Ev.neg (by decide) (Ev.val _)
    | true =>
      refine Ev.pos rfl ?_
      by_cases h0 : (i : Int) > 0
      · have hw : wrap64 ((i : Int) - 1) = ((i - 1 : Nat) : Int) := by rw [w_id (by omega) (by omega)]; omega
        rw [hw]
        obtain ⟨p, hp⟩ := habs (rd c (i : Int))
        obtain ⟨q, hq⟩ := habs (rd c ((i - 1 : Nat) : Int))
        refine Ev.pos h0 (Ev.bind hp (Ev.pos (by omega) (Ev.pos (by omega) (Ev.bind hq ?_))))
        by_cases h2 : p ≤ q
        · exact Ev.pos h2 (Ev.val _)
        · exact Ev.neg h2 (ih (i + 1) (by omega))
      · exact Ev.neg h0 (ih (i + 1) (by omega))
theorem spec_clause (n : Int) (c : List Int) (hc : c.length ≤ 1048576) : Dec (fun k => spec_ClauseValid.f k c n) (ClauseOk n c) := by
  unfold spec_ClauseValid.f
  by_cases hn : 0 ≤ n ∧ n ≤ 700
  · exact (spec_clause_loop n hn c hc c.length 0 (by omega) (fun j hj => by omega)).iff ⟨fun h => ⟨hn, fun j hj => h j (by omega) hj⟩, fun h j _ hj => h.2 j hj⟩
  · exact Dec.no (spec_clause_any_loop n hn c hc c.length 0 (by omega)) (fun h => hn h.1)
theorem impl_clause (n : Int) (c : List Int) (hc : c.length ≤ 1048576) : Dec (fun k => impl_ClauseValid.f k c n) (ClauseOk n c) := by
  unfold impl_ClauseValid.f
  by_cases hn : 0 ≤ n ∧ n ≤ 700
  · obtain ⟨b, h1, h2⟩ := impl_clause_loop n hn c hc c.length 0 (by omega) (fun j hj => by omega)
    exact ⟨b, Ev.bind in_dec (Ev.pos (by simpa using hn) h1), h2.trans ⟨fun h => ⟨hn, fun j hj => h j (by omega) hj⟩, fun h j _ hj => h.2 j hj⟩⟩
  · exact Dec.no (Ev.bind in_dec (Ev.neg (by simpa using hn) (Ev.val _))) (fun h => hn h.1)
/-- Clauses of n atoms. -/
def ClausesOk (n : Int) (l : List (List Int)) : Prop := (0 ≤ n ∧ n ≤ 700) ∧ l.length ≤ 2500 ∧ ∀ j : Nat, j < l.length → ClauseOk n (rd_L1 l (j : Int))
def Small (l : List (List Int)) : Prop := l.length ≤ 1048576 ∧ ∀ j : Nat, j < l.length → (rd_L1 l (j : Int)).length ≤ 1048576
theorem spec_clauses_loop (n : Int) (l : List (List Int)) (hl : Small l) : ∀ (d i : Nat), i + d = l.length →
    Dec (fun k => spec_ClausesValid.l0 k (i : Int) n l) (∀ j : Nat, i ≤ j → j < l.length → ClauseOk n (rd_L1 l (j : Int))) := by
  intro d
  have h1 := hl.1
  induction d with
  | zero =>
    intro i hi
    exact Dec.yes (Ev.step (Ev.neg (by omega) (Ev.val _)) (fun k => spec_ClausesValid.l0.eq_2 ..)) (all_none (by omega))
  | succ d ih =>
    intro i hi
    have hwi := wsucc i (by omega)
    have hlt : i < l.length := by omega
    obtain ⟨b, hb, hbi⟩ := spec_clause n (rd_L1 l (i : Int)) (hl.2 i hlt)
    cases b with
    | false => exact Dec.no (Ev.step (Ev.pos (by omega) (Ev.pos (by omega) (Ev.bind hb (Ev.neg (by decide) (Ev.val _))))) (fun k => spec_ClausesValid.l0.eq_2 ..)) (fun h => by simpa using hbi.mpr (h i (Nat.le_refl _) hlt))
    | true =>
      obtain ⟨b2, hb2, hbi2⟩ := ih (i + 1) (by omega)
      refine ⟨b2, Ev.step ?_ (fun k => spec_ClausesValid.l0.eq_2 ..), ?_⟩
      · rw [hwi]
        exact Ev.pos (by omega) (Ev.pos (by omega) (Ev.bind hb (Ev.pos rfl hb2)))
      · rw [hbi2, all_from (P := fun j => ClauseOk n (rd_L1 l (j : Int))) hlt]
        exact ⟨fun h => ⟨hbi.mp rfl, h⟩, fun h => h.2⟩
theorem spec_clauses (n : Int) (l : List (List Int)) (hl : Small l) : Dec (fun k => spec_ClausesValid.f k n l) (ClausesOk n l) := by
  unfold spec_ClausesValid.f
  by_cases hn : 0 ≤ n ∧ n ≤ 700
  · by_cases h2 : (l.length : Int) > 2500
    · refine Dec.no (Ev.bind sin_dec (Ev.pos (by simpa using hn) (Ev.step (Ev.pos (by simpa using h2) (Ev.val _)) (fun k => spec_ClausesValid.j0.eq_2 ..)))) (fun h => by have := h.2.1; omega)
    · obtain ⟨b, hb, hbi⟩ := spec_clauses_loop n l hl l.length 0 (by omega)
      exact ⟨b, Ev.bind sin_dec (Ev.pos (by simpa using hn) (Ev.step (Ev.neg (by simpa using h2) hb) (fun k => spec_ClausesValid.j0.eq_2 ..))), hbi.trans ⟨fun h => ⟨hn, by omega, fun j hj => h j (by omega) hj⟩, fun h j _ hj => h.2.2 j hj⟩⟩
  · exact Dec.no (Ev.bind sin_dec (Ev.neg (by simpa using hn) (Ev.step (Ev.pos rfl (Ev.val _)) (fun k => spec_ClausesValid.j0.eq_2 ..)))) (fun h => hn h.1)
theorem idx_tot (p : Nat → Int → Option Bool) (P : Nat → Prop) (m : Nat) (hp : ∀ j : Nat, j < m → Dec (fun k => p k (j : Int)) (P j)) : ∀ (d i : Nat), i + d = m →
    Tot (fun k => Copy.idxO (p k) d (i : Int)) (fun r => 0 ≤ r ↔ ∃ j : Nat, i ≤ j ∧ j < m ∧ P j) := by
  intro d
  induction d with
  | zero =>
    intro i hi
    exact Tot.val ⟨fun h => by omega, fun ⟨j, h1, h2, _⟩ => by omega⟩
  | succ d ih =>
    intro i hi
    obtain ⟨b, hb, hbi⟩ := hp i (by omega)
    cases b with
    | true => exact ⟨(i : Int), Ev.bind hb (Ev.pos rfl (Ev.val _)), fun _ => ⟨i, Nat.le_refl _, by omega, hbi.mp rfl⟩, fun _ => by omega⟩
    | false =>
      obtain ⟨r, hr, hri⟩ := ih (i + 1) (by omega)
      refine ⟨r, Ev.bind hb (Ev.neg (by decide) ?_), hri.trans ?_⟩
      · have e : ((i + 1 : Nat) : Int) = (i : Int) + 1 := by omega
        rw [← e]
        exact hr
      · constructor
        · rintro ⟨j, h1, h2, h3⟩
          exact ⟨j, by omega, h2, h3⟩
        · rintro ⟨j, h1, h2, h3⟩
          rcases Nat.lt_or_eq_of_le h1 with h4 | rfl
          · exact ⟨j, h4, h2, h3⟩
          · exact absurd (hbi.mpr h3) (by decide)
theorem impl_clauses (n : Int) (l : List (List Int)) (hl : Small l) : Dec (fun k => impl_ClausesValid.f k n l) (ClausesOk n l) := by
  unfold impl_ClausesValid.f
  by_cases hn : 0 ≤ n ∧ n ≤ 700
  · by_cases h2 : (l.length : Int) ≤ 2500
    · obtain ⟨r, hr, hri⟩ := idx_tot (fun k i => impl_ClausesValid.p k n l i) (fun j => ¬ ClauseOk n (rd_L1 l (j : Int))) l.length (fun j hj => by
        unfold impl_ClausesValid.p
        obtain ⟨b, hb, hbi⟩ := impl_clause n (rd_L1 l (j : Int)) (hl.2 j hj)
        exact ⟨!b, Ev.bind hb (Ev.val _), by rw [← hbi]; cases b <;> simp⟩) l.length 0 (by omega)
      refine ⟨!(decide (0 ≤ r)), Ev.bind in_dec (Ev.pos (by simpa using hn) (Ev.pos h2 (Ev.bind hr (Ev.val _)))), ?_⟩
      rw [Bool.not_eq_true', decide_eq_false_iff_not, hri]
      constructor
      · intro h
        refine ⟨hn, by omega, fun j hj => Classical.byContradiction fun h3 => h ⟨j, by omega, hj, h3⟩⟩
      · rintro h ⟨j, _, hj, h3⟩
        exact h3 (h.2.2 j hj)
    · exact Dec.no (Ev.bind in_dec (Ev.pos (by simpa using hn) (Ev.neg h2 (Ev.val _)))) (fun h => by have := h.2.1; omega)
  · exact Dec.no (Ev.bind in_dec (Ev.neg (by simpa using hn) (Ev.val _))) (fun h => hn h.1)
/-! #### what clauses force: the reference's signs are literals, the program's are 1 and -1 -/
theorem absN (x : Int) : AbsI x = ((x.natAbs : Nat) : Int) := by unfold AbsI; split <;> omega
def LitsOk (n : Nat) (c : List Int) : Prop := c.length ≤ 1048576 ∧ ∀ j : Nat, j < c.length → LitOk (n : Int) (rd c (j : Int))
theorem zeros_set {v : List Int} {a : Nat} {x : Int} (ha : a < v.length) (h0 : rd v (a : Int) = 0) (hx : x ≠ 0) : (v.set a x).count 0 < v.count 0 := by
  have hv : v[a] = 0 := by rw [← rd_lt ha]; exact h0
  have hm : 0 < v.count 0 := List.count_pos_iff.mpr (by rw [← hv]; exact List.getElem_mem ha)
  rw [List.count_set ha]
  simp [hv, hx]
  omega
def AllLits (n : Nat) (l : List (List Int)) : Prop := l.length ≤ 1048576 ∧ ∀ j : Nat, j < l.length → LitsOk n (rd_L1 l (j : Int))
theorem clause_lits {n : Nat} {c : List Int} (h : ClauseOk (n : Int) c) (hc : c.length ≤ 1048576) : LitsOk n c := ⟨hc, fun j hj => (h.2 j hj).1⟩
theorem rd_zeros (n : Nat) (a : Nat) (ha : a < n) : rd (List.replicate n 0) (a : Int) = 0 := by
  rw [rd_lt (by simpa using ha)]
  simp
/-! #### what unit propagation tells of the truth of clauses (the reference's marks) -/
/-- The marks of n atoms. -/
def VOk (n : Nat) (v : List Int) : Prop := v.length = n + 1 ∧ ∀ a : Nat, a ≤ n → rd v (a : Int) = 0 ∨ (0 < a ∧ (rd v (a : Int) = a ∨ rd v (a : Int) = -(a : Int)))
/-- A literal is true by an assignment. -/
def LT (T : Nat → Bool) (x : Int) : Prop := if 0 < x then T x.natAbs = true else T x.natAbs = false
instance (T : Nat → Bool) (x : Int) : Decidable (LT T x) := by unfold LT; infer_instance
def ClT (T : Nat → Bool) (c : List Int) : Prop := ∃ j : Nat, j < c.length ∧ LT T (rd c (j : Int))
def AllT (T : Nat → Bool) (l : List (List Int)) : Prop := ∀ j : Nat, j < l.length → ClT T (rd_L1 l (j : Int))
def Cons (n : Nat) (T : Nat → Bool) (v : List Int) : Prop := ∀ a : Nat, a ≤ n → rd v (a : Int) ≠ 0 → LT T (rd v (a : Int))
theorem lt_neg {T : Nat → Bool} {x : Int} (h0 : x ≠ 0) : LT T (-x) ↔ ¬ LT T x := by
  unfold LT
  rw [Int.natAbs_neg]
  by_cases h : 0 < x
  · rw [if_pos h, if_neg (by omega)]
    simp
  · rw [if_neg h, if_pos (by omega)]
    simp
theorem vok_set {n : Nat} {v : List Int} (h : VOk n v) {x : Int} (hx : LitOk (n : Int) x) : VOk n (v.set x.natAbs x) := by
  obtain ⟨h1, h2⟩ := h
  obtain ⟨hx0, hx1, hx2⟩ := hx
  refine ⟨by simpa using h1, fun a ha => ?_⟩
  by_cases e : a = x.natAbs
  · subst e
    rw [rd_set_eq (by omega)]
    exact Or.inr ⟨by omega, by omega⟩
  · rw [rd_set_ne (fun h => e h.symm)]
    exact h2 a ha
/-- What a scan of a clause has found in the first i places: none is true, m are open, the last of these. -/
structure Scanned (n : Nat) (v c : List Int) (i m : Nat) (last : Int) : Prop where
  no : ∀ j : Nat, j < i → rd v (AbsI (rd c (j : Int))) ≠ rd c (j : Int)
  lit : 1 ≤ m → LitOk (n : Int) last ∧ rd v (AbsI last) = 0 ∧ ∃ j : Nat, j < i ∧ rd c (j : Int) = last
  none : m = 0 → ∀ j : Nat, j < i → rd v (AbsI (rd c (j : Int))) = -(rd c (j : Int))
  one : m = 1 → ∀ j : Nat, j < i → rd c (j : Int) = last ∨ rd v (AbsI (rd c (j : Int))) = -(rd c (j : Int))
theorem scan_sem (n : Nat) (hn : n ≤ 700) (v : List Int) (hv : VOk n v) (c : List Int) (hc : LitsOk n c) : ∀ (d i m : Nat) (last : Int), i + d = c.length → m ≤ i → Scanned n v c i m last →
    (Ev (fun k => spec_l11Left.l0 k c v (m : Int) last (i : Int)) ((-1 : Int), (0 : Int)) ∧ ∃ j : Nat, j < c.length ∧ rd v (AbsI (rd c (j : Int))) = rd c (j : Int)) ∨
    ∃ (m' : Nat) (last' : Int), m' ≤ c.length ∧ Ev (fun k => spec_l11Left.l0 k c v (m : Int) last (i : Int)) ((m' : Int), last') ∧ Scanned n v c c.length m' last' := by
  have hcl := hc.1
  obtain ⟨hvl, hat⟩ := hv
  intro d
  induction d with
  | zero =>
    intro i m last hi hm hs
    have : i = c.length := by omega
    subst this
    exact Or.inr ⟨m, last, hm, Ev.step (Ev.neg (by omega) (Ev.val _)) (fun k => spec_l11Left.l0.eq_2 ..), hs⟩
  | succ d ih =>
    intro i m last hi hm hs
    have hwi := wsucc i (by omega)
    have hwm := wsucc m (by omega)
    have hlt : i < c.length := by omega
    obtain ⟨hx0, hx1, hx2⟩ := hc.2 i hlt
    have ha := hat (rd c (i : Int)).natAbs (by omega)
    rw [← absN] at ha
    have hpos := absI_pos (rd c (i : Int))
    have hax : AbsI (rd c (i : Int)) = rd c (i : Int) ∨ AbsI (rd c (i : Int)) = -(rd c (i : Int)) := by unfold AbsI; split <;> omega
    have hlen : AbsI (rd c (i : Int)) < (v.length : Int) := by rw [absN]; omega
    have specE : ∀ q, Ev (fun k => if rd v (AbsI (rd c (i : Int))) = rd c (i : Int) then some ((-1 : Int), (0 : Int)) else if rd v (AbsI (rd c (i : Int))) = 0 then spec_l11Left.l0 k c v ((m + 1 : Nat) : Int) (rd c (i : Int)) ((i + 1 : Nat) : Int) else spec_l11Left.l0 k c v (m : Int) last ((i + 1 : Nat) : Int)) q → Ev (fun k => spec_l11Left.l0 k c v (m : Int) last (i : Int)) q := by
      intro q hq
      refine Ev.step ?_ (fun k => spec_l11Left.l0.eq_2 ..)
      rw [hwi, hwm]
      exact Ev.pos (by omega) (Ev.pos (by omega) (Ev.bind (spec_abs (by omega) (by omega)) (Ev.pos hpos (Ev.pos hlen hq))))
    by_cases he : rd v (AbsI (rd c (i : Int))) = rd c (i : Int)
    · exact Or.inl ⟨specE _ (Ev.pos he (Ev.val _)), i, hlt, he⟩
    · by_cases hz : rd v (AbsI (rd c (i : Int))) = 0
      · have hs' : Scanned n v c (i + 1) (m + 1) (rd c (i : Int)) := by
          refine ⟨fun j hj => ?_, fun _ => ⟨⟨hx0, hx1, hx2⟩, hz, i, by omega, rfl⟩, fun h => by omega, fun h j hj => ?_⟩
          · rcases Nat.lt_succ_iff_lt_or_eq.mp hj with h | rfl
            · exact hs.no j h
            · exact he
          · rcases Nat.lt_succ_iff_lt_or_eq.mp hj with h2 | rfl
            · exact Or.inr (hs.none (by omega) j h2)
            · exact Or.inl rfl
        rcases ih (i + 1) (m + 1) (rd c (i : Int)) (by omega) (by omega) hs' with ⟨h1, h2⟩ | ⟨m', last', h1, h2, h3⟩
        · exact Or.inl ⟨specE _ (Ev.neg he (Ev.pos hz h1)), h2⟩
        · exact Or.inr ⟨m', last', h1, specE _ (Ev.neg he (Ev.pos hz h2)), h3⟩
      · have hneg : rd v (AbsI (rd c (i : Int))) = -(rd c (i : Int)) := by
          rcases ha with h | ⟨_, h | h⟩
          · exact absurd h hz
          · rcases hax with h2 | h2 <;> omega
          · rcases hax with h2 | h2 <;> omega
        have hs' : Scanned n v c (i + 1) m last := by
          refine ⟨fun j hj => ?_, fun h => ?_, fun h j hj => ?_, fun h j hj => ?_⟩
          · rcases Nat.lt_succ_iff_lt_or_eq.mp hj with h | rfl
            · exact hs.no j h
            · exact he
          · obtain ⟨e1, e2, j, e3, e4⟩ := hs.lit h
            exact ⟨e1, e2, j, by omega, e4⟩
          · rcases Nat.lt_succ_iff_lt_or_eq.mp hj with h2 | rfl
            · exact hs.none h j h2
            · exact hneg
          · rcases Nat.lt_succ_iff_lt_or_eq.mp hj with h2 | rfl
            · exact hs.one h j h2
            · exact Or.inr hneg
        rcases ih (i + 1) m last (by omega) (by omega) hs' with ⟨h1, h2⟩ | ⟨m', last', h1, h2, h3⟩
        · exact Or.inl ⟨specE _ (Ev.neg he (Ev.neg hz h1)), h2⟩
        · exact Or.inr ⟨m', last', h1, specE _ (Ev.neg he (Ev.neg hz h2)), h3⟩
/-- A clause that is true, or has an open literal. -/
def Fine (v c : List Int) : Prop := ∃ j : Nat, j < c.length ∧ (rd v (AbsI (rd c (j : Int))) = rd c (j : Int) ∨ rd v (AbsI (rd c (j : Int))) = 0)
/-- What is left of the truth when marks are made. -/
structure Forces (n : Nat) (l : List (List Int)) (v : List Int) (b : Bool) (v' : List Int) : Prop where
  ok : VOk n v'
  ext : ∀ a : Nat, a ≤ n → rd v (a : Int) ≠ 0 → rd v' (a : Int) = rd v (a : Int)
  sound : ∀ T, AllT T l → Cons n T v → b = true ∧ Cons n T v'
  fine : b = true → ∀ j : Nat, j < l.length → Fine v' (rd_L1 l (j : Int))
theorem lit_false {n : Nat} {T : Nat → Bool} {v : List Int} (hT : Cons n T v) {x : Int} (hx : LitOk (n : Int) x) (h : rd v (AbsI x) = -x) : ¬ LT T x := by
  obtain ⟨h0, h1, h2⟩ := hx
  have := hT x.natAbs (by omega) (by rw [← absN, h]; omega)
  rw [← absN, h] at this
  exact (lt_neg h0).mp this
theorem force_pass_sem (n : Nat) (hn : n ≤ 700) (l : List (List Int)) (hl : AllLits n l) (z : Nat)
    (IH : ∀ v, VOk n v → v.count 0 < z → ∃ b v', Ev (fun k => spec_l11Force.l0 k l v true) (b, v') ∧ Forces n l v b v') :
    ∀ (d i : Nat) (x5 : Bool) (v : List Int), i + d = l.length → VOk n v → v.count 0 ≤ z → (x5 = true → v.count 0 < z) → (x5 = false → ∀ j : Nat, j < i → Fine v (rd_L1 l (j : Int))) →
      ∃ b v', Ev (fun k => spec_l11Force.l1 k l v x5 (i : Int)) (b, v') ∧ Forces n l v b v' := by
  have hll := hl.1
  intro d
  induction d with
  | zero =>
    intro i x5 v hi hv hz hx hf
    cases x5 with
    | false =>
      exact ⟨true, v, Ev.step (Ev.neg (by omega) (Ev.step (Ev.neg (by decide) (Ev.val _)) (fun k => spec_l11Force.l0.eq_2 ..))) (fun k => spec_l11Force.l1.eq_2 ..), hv, fun _ _ _ => rfl, fun T _ h => ⟨rfl, h⟩, fun _ j hj => hf rfl j (by omega)⟩
    | true =>
      obtain ⟨b, v', h1, h2⟩ := IH v hv (hx rfl)
      exact ⟨b, v', Ev.step (Ev.neg (by omega) h1) (fun k => spec_l11Force.l1.eq_2 ..), h2⟩
  | succ d ih =>
    intro i x5 v hi hv hz hx hf
    have hwi := wsucc i (by omega)
    have hlt : i < l.length := by omega
    have hcl := hl.2 i hlt
    have specE : ∀ (p : Int × Int) q, Ev (fun k => spec_l11Left.l0 k (rd_L1 l (i : Int)) v 0 0 0) p → Ev (fun k => if p.1 = 0 then some (false, v) else if p.1 = 1 then ((spec_l11Abs.f p.2).bind fun t => if 0 ≤ t then (if t < (v.length : Int) then spec_l11Force.l1 k l (v.set (t : Int).toNat p.2) true ((i + 1 : Nat) : Int) else none) else none) else spec_l11Force.l1 k l v x5 ((i + 1 : Nat) : Int)) q → Ev (fun k => spec_l11Force.l1 k l v x5 (i : Int)) q := by
      intro p q hp hq
      refine Ev.step ?_ (fun k => spec_l11Force.l1.eq_2 ..)
      rw [hwi]
      exact Ev.pos (by omega) (Ev.pos (by omega) (Ev.bind (by unfold spec_l11Left.f; exact hp) hq))
    rcases scan_sem n hn v hv _ hcl _ 0 0 0 (Nat.zero_add _) (Nat.le_refl _) ⟨fun j hj => by omega, fun h => by omega, fun _ j hj => by omega, fun _ j hj => by omega⟩ with ⟨h1, h2⟩ | ⟨m, last, hm, h1, hs⟩
    · obtain ⟨b, v', e1, e2⟩ := ih (i + 1) x5 v (by omega) hv hz hx (fun h j hj => by
        rcases Nat.lt_succ_iff_lt_or_eq.mp hj with h3 | rfl
        · exact hf h j h3
        · obtain ⟨q, q1, q2⟩ := h2
          exact ⟨q, q1, Or.inl q2⟩)
      exact ⟨b, v', specE _ _ h1 (Ev.neg (by decide) (Ev.neg (by decide) e1)), e2⟩
    · by_cases m0 : m = 0
      · subst m0
        refine ⟨false, v, specE _ _ h1 (Ev.pos rfl (Ev.val _)), hv, fun _ _ _ => rfl, fun T hT hC => ?_, fun h => by cases h⟩
        obtain ⟨j, j1, j2⟩ := hT i hlt
        exact absurd j2 (lit_false hC (hcl.2 j j1) (hs.none rfl j j1))
      · by_cases m1 : m = 1
        · subst m1
          obtain ⟨hlit, h0, _⟩ := hs.lit (Nat.le_refl _)
          have hx0 := hlit.1
          have hx1 := hlit.2.1
          have hx2 := hlit.2.2
          have hvl := hv.1
          rw [absN] at h0
          have hzs := zeros_set (x := last) (by omega) h0 hx0
          obtain ⟨b, v', e1, e2⟩ := ih (i + 1) true (v.set last.natAbs last) (by omega) (vok_set hv hlit) (by omega) (fun _ => by omega) (fun h => by cases h)
          refine ⟨b, v', specE _ _ h1 (Ev.neg (by simp) (Ev.pos (by simp) (Ev.bind (spec_abs (by omega) (by omega)) (Ev.pos (absI_pos _) (Ev.pos (by rw [absN]; omega) ?_))))), e2.ok, fun a ha hz2 => ?_, fun T hT hC => ?_, e2.fine⟩
          · rw [absN, Int.toNat_natCast]
            exact e1
          · have hne : last.natAbs ≠ a := fun e => by subst e; exact hz2 h0
            rw [← rd_set_ne (l := v) (v := last) hne]
            exact e2.ext a ha (by rw [rd_set_ne hne]; exact hz2)
          · refine e2.sound T hT (fun a ha hz2 => ?_)
            by_cases e : last.natAbs = a
            · subst e
              rw [rd_set_eq (by omega)]
              obtain ⟨j, j1, j2⟩ := hT i hlt
              rcases hs.one rfl j j1 with h | h
              · rw [← h]
                exact j2
              · exact absurd j2 (lit_false hC (hcl.2 j j1) h)
            · rw [rd_set_ne e] at hz2 ⊢
              exact hC a ha hz2
        · obtain ⟨b, v', e1, e2⟩ := ih (i + 1) x5 v (by omega) hv hz hx (fun h j hj => by
            rcases Nat.lt_succ_iff_lt_or_eq.mp hj with h3 | rfl
            · exact hf h j h3
            · obtain ⟨_, q0, q, q1, q2⟩ := hs.lit (by omega)
              exact ⟨q, q1, Or.inr (by rw [q2]; exact q0)⟩)
          exact ⟨b, v', specE _ _ h1 (Ev.neg (by show ¬ ((m : Int) = 0); omega) (Ev.neg (by show ¬ ((m : Int) = 1); omega) e1)), e2⟩
theorem force_run_sem (n : Nat) (hn : n ≤ 700) (l : List (List Int)) (hl : AllLits n l) : ∀ (z : Nat) (v : List Int), v.count 0 < z → VOk n v →
    ∃ b v', Ev (fun k => spec_l11Force.l0 k l v true) (b, v') ∧ Forces n l v b v' := by
  intro z
  induction z with
  | zero => intro v hz; omega
  | succ z ih =>
    intro v hz hv
    obtain ⟨b, v', h1, h2⟩ := force_pass_sem n hn l hl z (fun v hv hz => ih v hz hv) l.length 0 false v (by omega) hv (by omega) (by simp) (fun _ j hj => by omega)
    exact ⟨b, v', Ev.step (Ev.pos rfl h1) (fun k => spec_l11Force.l0.eq_2 ..), h2⟩
theorem force_sem (n : Nat) (hn : n ≤ 700) (l : List (List Int)) (hl : AllLits n l) (v : List Int) (hv : VOk n v) :
    ∃ b v', Ev (fun k => spec_l11Force.f k l v) (b, v') ∧ Forces n l v b v' := by
  unfold spec_l11Force.f
  exact force_run_sem n hn l hl (v.count 0 + 1) v (by omega) hv
/-! #### the reference's search: clauses can be true when marked literals are -/
theorem copy_ints_loop (l : List Int) (hl : l.length ≤ 1048576) : ∀ (d i : Nat) (ys : List Int), i + d = l.length → ys.length = i → (∀ j : Nat, j < i → rd ys (j : Int) = rd l (j : Int)) →
    Ev (fun k => spec_l3Copy.l0 k l ys (i : Int)) l := by
  intro d
  induction d with
  | zero =>
    intro i ys hi hy h
    refine Ev.step (Ev.neg (by omega) (Ev.valEq ?_)) (fun k => spec_l3Copy.l0.eq_2 ..)
    exact list_eq_rd (by omega) (fun j hj => h j (by omega))
  | succ d ih =>
    intro i ys hi hy h
    have hwi := wsucc i (by omega)
    refine Ev.step (Ev.pos (by omega) (Ev.pos (by omega) (Ev.pos (by omega) ?_))) (fun k => spec_l3Copy.l0.eq_2 ..)
    rw [hwi]
    refine ih (i + 1) _ (by omega) (by simp [hy]) ?_
    intro j hj
    by_cases e : j = i
    · subst e
      subst hy
      exact rd_app_eq
    · rw [rd_app_lt (by omega)]
      exact h j (by omega)
theorem copy_ints (l : List Int) (hl : l.length ≤ 1048576) : Ev (fun k => spec_l3Copy.f k l) l := by
  unfold spec_l3Copy.f
  exact copy_ints_loop l hl l.length 0 [] (by omega) rfl (fun j hj => by omega)
theorem next_loop (n : Nat) (hn : n ≤ 700) (v : List Int) (hv : v.length = n + 1) : ∀ (d i : Nat), i + d = n + 1 → 1 ≤ i → (∀ b : Nat, 1 ≤ b → b < i → rd v (b : Int) ≠ 0) →
    (Ev (fun k => spec_l12Next.l0 k v (i : Int)) 0 ∧ ∀ b : Nat, 1 ≤ b → b ≤ n → rd v (b : Int) ≠ 0) ∨ ∃ m : Nat, 1 ≤ m ∧ m ≤ n ∧ rd v (m : Int) = 0 ∧ Ev (fun k => spec_l12Next.l0 k v (i : Int)) (m : Int) := by
  intro d
  induction d with
  | zero =>
    intro i hi h1 h
    exact Or.inl ⟨Ev.step (Ev.neg (by omega) (Ev.val _)) (fun k => spec_l12Next.l0.eq_2 ..), fun b hb hb2 => h b hb (by omega)⟩
  | succ d ih =>
    intro i hi h1 h
    have hwi := wsucc i (by omega)
    by_cases hz : rd v (i : Int) = 0
    · exact Or.inr ⟨i, h1, by omega, hz, Ev.step (Ev.pos (by omega) (Ev.pos (by omega) (Ev.pos hz (Ev.val _)))) (fun k => spec_l12Next.l0.eq_2 ..)⟩
    · have st : ∀ q, Ev (fun k => spec_l12Next.l0 k v ((i + 1 : Nat) : Int)) q → Ev (fun k => spec_l12Next.l0 k v (i : Int)) q := by
        intro q hq
        refine Ev.step ?_ (fun k => spec_l12Next.l0.eq_2 ..)
        rw [hwi]
        exact Ev.pos (by omega) (Ev.pos (by omega) (Ev.neg hz hq))
      rcases ih (i + 1) (by omega) (by omega) (fun b hb hb2 => by
        rcases Nat.lt_succ_iff_lt_or_eq.mp hb2 with h3 | rfl
        · exact h b hb h3
        · exact hz) with ⟨e1, e2⟩ | ⟨m, m1, m2, m3, e1⟩
      · exact Or.inl ⟨st _ e1, e2⟩
      · exact Or.inr ⟨m, m1, m2, m3, st _ e1⟩
theorem next_sem (n : Nat) (hn : n ≤ 700) (v : List Int) (hv : v.length = n + 1) :
    (Ev (fun k => spec_l12Next.f k v) 0 ∧ ∀ b : Nat, 1 ≤ b → b ≤ n → rd v (b : Int) ≠ 0) ∨ ∃ m : Nat, 1 ≤ m ∧ m ≤ n ∧ rd v (m : Int) = 0 ∧ Ev (fun k => spec_l12Next.f k v) (m : Int) := by
  unfold spec_l12Next.f
  exact next_loop n hn v hv n 1 (by omega) (Nat.le_refl _) (fun b h1 h2 => by omega)
/-- Clauses can be true when marked literals are. -/
def Can (n : Nat) (l : List (List Int)) (v : List Int) : Prop := ∃ T, AllT T l ∧ Cons n T v
theorem lt_marks (v : List Int) (x : Int) : LT (fun a => decide (0 < rd v (a : Int))) x ↔ (0 < x ↔ 0 < rd v ((x.natAbs : Nat) : Int)) := by
  unfold LT
  by_cases h : 0 < x
  · simp [h]
  · simp [h]
theorem full_can {n : Nat} {l : List (List Int)} (hl : AllLits n l) {v : List Int} (hv : VOk n v) (hf : ∀ j : Nat, j < l.length → Fine v (rd_L1 l (j : Int))) (hz : ∀ b : Nat, 1 ≤ b → b ≤ n → rd v (b : Int) ≠ 0) : Can n l v := by
  refine ⟨fun a => decide (0 < rd v (a : Int)), fun j hj => ?_, fun a ha h0 => ?_⟩
  · obtain ⟨i, i1, i2⟩ := hf j hj
    obtain ⟨hx0, hx1, hx2⟩ := (hl.2 j hj).2 i i1
    refine ⟨i, i1, ?_⟩
    rw [absN] at i2
    have := hz (rd (rd_L1 l (j : Int)) (i : Int)).natAbs (by omega) (by omega)
    rcases i2 with h | h
    · rw [lt_marks, h]
    · exact absurd h this
  · rw [lt_marks]
    rcases hv.2 a ha with h | ⟨h1, h | h⟩
    · exact absurd h h0
    · have e : (rd v (a : Int)).natAbs = a := by omega
      rw [e]
    · have e : (rd v (a : Int)).natAbs = a := by omega
      rw [e]
theorem cons_set {n : Nat} {T : Nat → Bool} {v : List Int} (hvl : v.length = n + 1) {x : Int} (hx : LitOk (n : Int) x) (h0 : rd v ((x.natAbs : Nat) : Int) = 0) : Cons n T (v.set x.natAbs x) ↔ Cons n T v ∧ LT T x := by
  obtain ⟨hx0, hx1, hx2⟩ := hx
  constructor
  · intro h
    refine ⟨fun a ha hz => ?_, ?_⟩
    · have hne : x.natAbs ≠ a := fun e => by subst e; exact hz h0
      have := h a ha (by rw [rd_set_ne hne]; exact hz)
      rwa [rd_set_ne hne] at this
    · have := h x.natAbs (by omega) (by rw [rd_set_eq (by omega)]; exact hx0)
      rwa [rd_set_eq (by omega)] at this
  · rintro ⟨h, hx⟩ a ha hz
    by_cases e : x.natAbs = a
    · subst e
      rw [rd_set_eq (by omega)]
      exact hx
    · rw [rd_set_ne e] at hz ⊢
      exact h a ha hz
theorem forces_can {n : Nat} {l : List (List Int)} {v v' : List Int} {b : Bool} (h : Forces n l v b v') : Can n l v ↔ b = true ∧ Can n l v' := by
  constructor
  · rintro ⟨T, h1, h2⟩
    obtain ⟨e, h3⟩ := h.sound T h1 h2
    exact ⟨e, T, h1, h3⟩
  · rintro ⟨_, T, h1, h2⟩
    refine ⟨T, h1, fun a ha hz => ?_⟩
    have e := h.ext a ha hz
    rw [← e]
    exact h2 a ha (by rw [e]; exact hz)
theorem forces_count {n : Nat} {l : List (List Int)} {v v' : List Int} {b : Bool} (hv : VOk n v) (h : Forces n l v b v') : v'.count 0 ≤ v.count 0 := by
  have h1 := hv.1
  have h2 := h.ok.1
  have key : ∀ (xs ys : List Int), ys.length = xs.length → (∀ j : Nat, j < xs.length → rd xs (j : Int) ≠ 0 → rd ys (j : Int) = rd xs (j : Int)) → ys.count 0 ≤ xs.count 0 := by
    intro xs
    induction xs with
    | nil =>
      intro ys hy _
      rw [List.eq_nil_of_length_eq_zero hy]
      exact Nat.le_refl _
    | cons x xs ih =>
      intro ys hy hh
      cases ys with
      | nil => simp
      | cons y ys =>
        have h0 := hh 0 (by simp)
        have hi := ih ys (by simpa using hy) (fun j hj hz => by
          have := hh (j + 1) (by simp; omega)
          simp only [rd_nat, List.getD_cons_succ] at this hz ⊢
          exact this hz)
        rw [rd_nat, rd_nat] at h0
        simp only [List.getD_cons_zero] at h0
        rw [List.count_cons, List.count_cons]
        by_cases hx : x = 0
        · subst hx
          split <;> simp <;> omega
        · have := h0 hx
          subst this
          split <;> omega
  exact key v v' (by omega) (fun j hj hz => h.ext j (by omega) hz)
theorem open_sem (n : Nat) (hn : n ≤ 700) (l : List (List Int)) (hl : AllLits n l) : ∀ (z : Nat) (v : List Int), v.count 0 < z → VOk n v → Dec (fun k => spec_l12Open.f k l v) (Can n l v) := by
  intro z
  induction z with
  | zero => intro v hz; omega
  | succ z ih =>
    intro v hz hv
    have hvl := hv.1
    obtain ⟨b, v', e1, hF⟩ := force_sem n hn l hl v hv
    have hv' := hF.ok
    have hvl' := hv'.1
    have hcnt := forces_count hv hF
    have hcan := forces_can hF
    have st : ∀ q, Ev (fun k => if b = true then ((spec_l12Next.f k v').bind fun t176 => if t176 = 0 then some true else ((spec_l3Copy.f k v').bind fun t177 => if 0 ≤ t176 then (if t176 < (t177.length : Int) then ((spec_l12Open.f k l (t177.set (t176 : Int).toNat (wrap64 (-t176)))).bind fun t181 => if t181 = true then some true else (if t176 < (v.length : Int) then ((spec_l12Open.f k l (v'.set (t176 : Int).toNat t176)).bind fun t183 => some t183) else none)) else none) else none)) else some false) q → Ev (fun k => spec_l12Open.f k l v) q := by
      intro q hq
      refine Ev.step ?_ (fun k => spec_l12Open.f.eq_2 ..)
      exact Ev.bind (copy_ints v (by omega)) (Ev.bind e1 hq)
    cases b with
    | false => exact Dec.no (st _ (Ev.neg (by decide) (Ev.val _))) (fun h => by simpa using (hcan.mp h).1)
    | true =>
      rcases next_sem n hn v' hvl' with ⟨a1, a2⟩ | ⟨m, m1, m2, m3, a1⟩
      · exact Dec.yes (st _ (Ev.pos rfl (Ev.bind a1 (Ev.pos rfl (Ev.val _))))) (hcan.mpr ⟨rfl, full_can hl hv' (hF.fine rfl) a2⟩)
      · have hlow : LitOk (n : Int) (-(m : Int)) := ⟨by omega, by omega, by omega⟩
        have hhigh : LitOk (n : Int) (m : Int) := ⟨by omega, by omega, by omega⟩
        have nl : (-(m : Int)).natAbs = m := by omega
        have nh : ((m : Int)).natAbs = m := by omega
        have vl := vok_set hv' hlow
        have vh := vok_set hv' hhigh
        have cl := fun T => cons_set (T := T) hvl' hlow (by rw [nl]; exact m3)
        have ch := fun T => cons_set (T := T) hvl' hhigh (by rw [nh]; exact m3)
        rw [nl] at vl
        rw [nh] at vh
        simp only [nl] at cl
        simp only [nh] at ch
        have z1 := zeros_set (x := -(m : Int)) (a := m) (v := v') (by omega) m3 (by omega)
        have z2 := zeros_set (x := (m : Int)) (a := m) (v := v') (by omega) m3 (by omega)
        obtain ⟨b1, f1, f2⟩ := ih (v'.set m (-(m : Int))) (by omega) vl
        obtain ⟨b2, g1, g2⟩ := ih (v'.set m (m : Int)) (by omega) vh
        have hsplit : Can n l v ↔ Can n l (v'.set m (-(m : Int))) ∨ Can n l (v'.set m (m : Int)) := by
          rw [hcan]
          constructor
          · rintro ⟨_, T, h1, h2⟩
            by_cases hm : LT T (m : Int)
            · exact Or.inr ⟨T, h1, (ch T).mpr ⟨h2, hm⟩⟩
            · exact Or.inl ⟨T, h1, (cl T).mpr ⟨h2, (lt_neg (by omega)).mpr hm⟩⟩
          · rintro (⟨T, h1, h2⟩ | ⟨T, h1, h2⟩)
            · exact ⟨rfl, T, h1, ((cl T).mp h2).1⟩
            · exact ⟨rfl, T, h1, ((ch T).mp h2).1⟩
        have hw : wrap64 (-(m : Int)) = -(m : Int) := wneg (by omega) (by omega)
        have run : ∀ q, Ev (fun k => (spec_l12Open.f k l (v'.set m (-(m : Int)))).bind fun t181 => if t181 = true then some true else (if (m : Int) < (v.length : Int) then ((spec_l12Open.f k l (v'.set m (m : Int))).bind fun t183 => some t183) else none)) q → Ev (fun k => spec_l12Open.f k l v) q := by
          intro q hq
          refine st q (Ev.pos rfl (Ev.bind a1 (Ev.neg (by omega) (Ev.bind (copy_ints v' (by omega)) (Ev.pos (by omega) (Ev.pos (by omega) ?_))))))
          rw [hw, Int.toNat_natCast]
          exact hq
        cases b1 with
        | true => exact Dec.yes (run _ (Ev.bind f1 (Ev.pos rfl (Ev.val _)))) (hsplit.mpr (Or.inl (f2.mp rfl)))
        | false =>
          refine ⟨b2, run _ (Ev.bind f1 (Ev.neg (by decide) (Ev.pos (by omega) (Ev.bind g1 (Ev.val _))))), g2.trans ?_⟩
          rw [hsplit]
          exact ⟨Or.inr, fun h => h.elim (fun h2 => by simpa using f2.mpr h2) id⟩
/-! #### bits of whole numbers -/
theorem wrap_pos62 (n : Int) (h0 : 0 ≤ n) (h1 : n < 2 ^ 62) : IntKind.i64.wrap n = n := by
  rw [IntKind.wrap_i64]
  have : (2 : Int) ^ 62 = 4611686018427387904 := by decide
  omega
theorem band_nat (a b : Nat) (ha : a < 2 ^ 62) (hb : b < 2 ^ 62) : Go.bits .and .i64 (a : Int) (b : Int) = ((a &&& b : Nat) : Int) := (bits_nat .i64 62 (by decide) wrap_pos62 a b ha hb).1
theorem bor_nat (a b : Nat) (ha : a < 2 ^ 62) (hb : b < 2 ^ 62) : Go.bits .or .i64 (a : Int) (b : Int) = ((a ||| b : Nat) : Int) := (bits_nat .i64 62 (by decide) wrap_pos62 a b ha hb).2
theorem wrap_zero (n : Nat) (h : n < 2 ^ 64) : IntKind.i64.wrap (n : Int) = 0 ↔ n = 0 := by
  rw [IntKind.wrap_i64]
  have : (2 : Nat) ^ 64 = 18446744073709551616 := by decide
  omega
theorem ofInt_wrap (x : BitVec 64) : BitVec.ofInt 64 (IntKind.i64.wrap (x.toNat : Int)) = x := by
  apply BitVec.eq_of_toNat_eq
  rw [IntKind.wrap_i64, BitVec.toNat_ofInt]
  have := x.isLt
  generalize x.toNat = n at this ⊢
  have e : (2 : Nat) ^ 64 = 18446744073709551616 := by decide
  rw [e] at *
  omega
theorem and_zero (a b : Nat) : a &&& b = 0 ↔ ∀ i, b.testBit i = true → a.testBit i = false := by
  constructor
  · intro h i hi
    have := congrArg (fun n => n.testBit i) h
    simp only [Nat.testBit_and, Nat.zero_testBit, Bool.and_eq_false_iff] at this
    rcases this with h | h
    · exact h
    · rw [hi] at h; cases h
  · intro h
    apply Nat.eq_of_testBit_eq
    intro i
    rw [Nat.testBit_and, Nat.zero_testBit]
    cases hb : b.testBit i with
    | false => simp
    | true => simp [h i hb]
theorem bnot_zero (r y : Nat) (hr : r < 2 ^ 62) (hy : y < 2 ^ 62) : Go.bits .and .i64 (Go.bits .xor .i64 (-1) (r : Int)) (y : Int) = 0 ↔ ∀ i, y.testBit i = true → r.testBit i = true := by
  have e62 : (2 : Nat) ^ 62 = 4611686018427387904 := by decide
  have e64 : (2 : Nat) ^ 64 = 18446744073709551616 := by decide
  have h1 : Go.bits .xor .i64 (-1) (r : Int) = IntKind.i64.wrap (((BitVec.ofInt 64 (-1)) ^^^ (BitVec.ofInt 64 (r : Int))).toNat : Int) := rfl
  have h2 : Go.bits .and .i64 (Go.bits .xor .i64 (-1) (r : Int)) (y : Int) = IntKind.i64.wrap (((BitVec.ofInt 64 (Go.bits .xor .i64 (-1) (r : Int))) &&& (BitVec.ofInt 64 (y : Int))).toNat : Int) := rfl
  rw [h2, h1, ofInt_wrap, wrap_zero _ (BitVec.isLt _), BitVec.toNat_and, BitVec.ofInt_natCast, BitVec.ofInt_natCast, BitVec.toNat_ofNat, Nat.mod_eq_of_lt (by omega), and_zero]
  have key : ∀ i, i < 64 → ((BitVec.ofInt 64 (-1)) ^^^ (BitVec.ofNat 64 r)).toNat.testBit i = !(r.testBit i) := by
    intro i hi
    rw [BitVec.testBit_toNat, BitVec.getLsbD_xor]
    have : (BitVec.ofInt 64 (-1)) = BitVec.allOnes 64 := by decide
    rw [this, BitVec.getLsbD_allOnes, BitVec.getLsbD_ofNat]
    simp [hi]
  constructor
  · intro h i hi
    have hi64 : i < 64 := by
      rcases Nat.lt_or_ge i 64 with h3 | h3
      · exact h3
      · have := Nat.testBit_lt_two_pow (Nat.lt_of_lt_of_le (by omega : y < 2 ^ 64) (Nat.pow_le_pow_right (by decide) h3))
        rw [this] at hi; cases hi
    have := h i hi
    rw [key i hi64] at this
    simpa using this
  · intro h i hi
    have hi64 : i < 64 := by
      rcases Nat.lt_or_ge i 64 with h3 | h3
      · exact h3
      · have := Nat.testBit_lt_two_pow (Nat.lt_of_lt_of_le (by omega : y < 2 ^ 64) (Nat.pow_le_pow_right (by decide) h3))
        rw [this] at hi; cases hi
    rw [key i hi64, h i hi]
    rfl
theorem shl_one (j : Nat) (hj : j ≤ 40) : shl .i64 1 (j : Int) = ((2 ^ j : Nat) : Int) := by
  unfold shl
  rw [Int.toNat_natCast, show min j IntKind.i64.bits = j from Nat.min_eq_left (by show j ≤ 64; omega), Int.one_mul]
  have h1 : (2 : Nat) ^ j ≤ 2 ^ 40 := Nat.pow_le_pow_right (by decide) hj
  have e40 : (2 : Nat) ^ 40 = 1099511627776 := by decide
  have e : (2 : Int) ^ j = ((2 ^ j : Nat) : Int) := by simp
  rw [e]
  generalize (2 : Nat) ^ j = p at h1 ⊢
  apply wrap_pos62
  · exact Int.natCast_nonneg _
  · have : (2 : Int) ^ 62 = 4611686018427387904 := by decide
    omega
theorem bits_of (n : Nat) (T : Nat → Bool) : ∃ r : Nat, r < 2 ^ n ∧ ∀ i, i < n → r.testBit i = T i := by
  induction n with
  | zero => exact ⟨0, by decide, fun i hi => by omega⟩
  | succ n ih =>
    obtain ⟨r, h1, h2⟩ := ih
    refine ⟨r ||| (if T n = true then 2 ^ n else 0), ?_, fun i hi => ?_⟩
    · apply Nat.or_lt_two_pow
      · exact Nat.lt_of_lt_of_le h1 (Nat.pow_le_pow_right (by decide) (Nat.le_succ n))
      · split
        · exact Nat.pow_lt_pow_right (by decide) (Nat.lt_succ_self n)
        · exact Nat.two_pow_pos _
    · rw [Nat.testBit_or]
      rcases Nat.lt_succ_iff_lt_or_eq.mp hi with h | rfl
      · rw [h2 i h]
        split
        · rw [Nat.testBit_two_pow]
          simp; omega
        · simp
      · rw [Nat.testBit_lt_two_pow h1]
        split
        · rename_i h; simp [h]
        · rename_i h; simpa using h
/-! #### the rows of bits that make clauses true, one after the other -/
/-- The assignment of a row of bits. -/
def TR (r : Nat) : Nat → Bool := fun a => r.testBit (a - 1)
structure PosOk (n : Nat) (c : List Int) (p : Nat) (y : Int) (Y : Nat) : Prop where
  eq : y = (Y : Int)
  lt : Y < 2 ^ n
  bit : ∀ b, Y.testBit b = true ↔ ∃ j : Nat, j < p ∧ rd c (j : Int) = (b : Int) + 1
structure NegOk (n : Nat) (c : List Int) (p : Nat) (y : Int) (Y : Nat) : Prop where
  eq : y = (Y : Int)
  lt : Y < 2 ^ n
  bit : ∀ b, Y.testBit b = true ↔ ∃ j : Nat, j < p ∧ rd c (j : Int) = -((b : Int) + 1)
theorem two20 {n : Nat} (hn : n ≤ 20) : 2 ^ n ≤ 1048576 := Nat.le_trans (Nat.pow_le_pow_right (by decide) hn) (by decide)
theorem two62 : (2 : Nat) ^ 62 = 4611686018427387904 := by decide
theorem pos_set {n : Nat} (hn : n ≤ 20) {c : List Int} {p Y : Nat} {y : Int} (h : PosOk n c p y Y) {b : Nat} (hb : b < n) (hx : rd c (p : Int) = (b : Int) + 1) : PosOk n c (p + 1) (Go.bits .or .i64 y (shl .i64 1 (b : Int))) (Y ||| 2 ^ b) := by
  obtain ⟨h1, h2, h3⟩ := h
  have h20 := two20 hn
  have hb2 : 2 ^ b < 2 ^ n := Nat.pow_lt_pow_right (by decide) hb
  have e := two62
  refine ⟨?_, Nat.or_lt_two_pow h2 hb2, fun i => ?_⟩
  · rw [h1, shl_one b (by omega), bor_nat Y (2 ^ b) (by omega) (by omega)]
  · rw [Nat.testBit_or, Nat.testBit_two_pow, Bool.or_eq_true, h3, decide_eq_true_eq]
    constructor
    · rintro (⟨j, j1, j2⟩ | rfl)
      · exact ⟨j, by omega, j2⟩
      · exact ⟨p, by omega, hx⟩
    · rintro ⟨j, j1, j2⟩
      rcases Nat.lt_succ_iff_lt_or_eq.mp j1 with h4 | rfl
      · exact Or.inl ⟨j, h4, j2⟩
      · exact Or.inr (by omega)
theorem neg_set {n : Nat} (hn : n ≤ 20) {c : List Int} {p Y : Nat} {y : Int} (h : NegOk n c p y Y) {b : Nat} (hb : b < n) (hx : rd c (p : Int) = -((b : Int) + 1)) : NegOk n c (p + 1) (Go.bits .or .i64 y (shl .i64 1 (b : Int))) (Y ||| 2 ^ b) := by
  obtain ⟨h1, h2, h3⟩ := h
  have h20 := two20 hn
  have hb2 : 2 ^ b < 2 ^ n := Nat.pow_lt_pow_right (by decide) hb
  have e := two62
  refine ⟨?_, Nat.or_lt_two_pow h2 hb2, fun i => ?_⟩
  · rw [h1, shl_one b (by omega), bor_nat Y (2 ^ b) (by omega) (by omega)]
  · rw [Nat.testBit_or, Nat.testBit_two_pow, Bool.or_eq_true, h3, decide_eq_true_eq]
    constructor
    · rintro (⟨j, j1, j2⟩ | rfl)
      · exact ⟨j, by omega, j2⟩
      · exact ⟨p, by omega, hx⟩
    · rintro ⟨j, j1, j2⟩
      rcases Nat.lt_succ_iff_lt_or_eq.mp j1 with h4 | rfl
      · exact Or.inl ⟨j, h4, j2⟩
      · exact Or.inr (by omega)
theorem pos_skip {n : Nat} {c : List Int} {p Y : Nat} {y : Int} (h : PosOk n c p y Y) (hx : rd c (p : Int) < 0) : PosOk n c (p + 1) y Y := by
  obtain ⟨h1, h2, h3⟩ := h
  refine ⟨h1, h2, fun b => ?_⟩
  rw [h3]
  constructor
  · rintro ⟨j, j1, j2⟩
    exact ⟨j, by omega, j2⟩
  · rintro ⟨j, j1, j2⟩
    rcases Nat.lt_succ_iff_lt_or_eq.mp j1 with h4 | rfl
    · exact ⟨j, h4, j2⟩
    · omega
theorem neg_skip {n : Nat} {c : List Int} {p Y : Nat} {y : Int} (h : NegOk n c p y Y) (hx : 0 < rd c (p : Int)) : NegOk n c (p + 1) y Y := by
  obtain ⟨h1, h2, h3⟩ := h
  refine ⟨h1, h2, fun b => ?_⟩
  rw [h3]
  constructor
  · rintro ⟨j, j1, j2⟩
    exact ⟨j, by omega, j2⟩
  · rintro ⟨j, j1, j2⟩
    rcases Nat.lt_succ_iff_lt_or_eq.mp j1 with h4 | rfl
    · exact ⟨j, h4, j2⟩
    · omega
theorem models_inner {σ : Type} (step : σ → Int → Bool × σ) (n : Nat) (hn : n ≤ 20) (s : σ) (l : List (List Int)) (i : Nat) (c : List Int) (hc : LitsOk n c) : ∀ (d p : Nat) (x6 x7 : List Int) (Y Z : Nat), p + d = c.length → i < x6.length → i < x7.length → PosOk n c p (rd x6 (i : Int)) Y → NegOk n c p (rd x7 (i : Int)) Z →
    ∃ (x6' x7' : List Int) (Y' Z' : Nat), x6'.length = x6.length ∧ x7'.length = x7.length ∧ PosOk n c c.length (rd x6' (i : Int)) Y' ∧ NegOk n c c.length (rd x7' (i : Int)) Z' ∧ (∀ j : Nat, j ≠ i → rd x6' (j : Int) = rd x6 (j : Int) ∧ rd x7' (j : Int) = rd x7 (j : Int)) ∧
      ∀ q, Ev (fun k => impl_models.l0 step k s (n : Int) l x6' x7' l (l.length : Int) (wrap64 ((i : Int) + 1))) q → Ev (fun k => impl_models.l1 step k s (n : Int) l x6 x7 (i : Int) l (l.length : Int) (i : Int) c (c.length : Int) (p : Int)) q := by
  have hcl := hc.1
  intro d
  induction d with
  | zero =>
    intro p x6 x7 Y Z hp h6 h7 hY hZ
    have : p = c.length := by omega
    subst this
    exact ⟨x6, x7, Y, Z, rfl, rfl, hY, hZ, fun j _ => ⟨rfl, rfl⟩, fun q hq => Ev.step (Ev.neg (by omega) hq) (fun k => impl_models.l1.eq_2 ..)⟩
  | succ d ih =>
    intro p x6 x7 Y Z hp h6 h7 hY hZ
    have hwp := wsucc p (by omega)
    have hlt : p < c.length := by omega
    obtain ⟨hx0, hx1, hx2⟩ := hc.2 p hlt
    by_cases hpos : rd c (p : Int) > 0
    · obtain ⟨b, hb⟩ : ∃ b : Nat, rd c (p : Int) = (b : Int) + 1 := ⟨(rd c (p : Int)).toNat - 1, by omega⟩
      have hw : wrap64 (rd c (p : Int) - 1) = (b : Int) := by rw [w_id (by omega) (by omega)]; omega
      have hset : rd (x6.set i (Go.bits .or .i64 (rd x6 (i : Int)) (shl .i64 1 (b : Int)))) (i : Int) = Go.bits .or .i64 (rd x6 (i : Int)) (shl .i64 1 (b : Int)) := rd_set_eq h6
      obtain ⟨x6', x7', Y', Z', e1, e2, e3, e4, e5, e6⟩ := ih (p + 1) (x6.set i (Go.bits .or .i64 (rd x6 (i : Int)) (shl .i64 1 (b : Int)))) x7 (Y ||| 2 ^ b) Z (by omega) (by simpa using h6) h7 (by rw [hset]; exact pos_set hn hY (by omega) hb) (neg_skip hZ hpos)
      refine ⟨x6', x7', Y', Z', by simpa using e1, e2, e3, e4, fun j hj => ⟨by rw [(e5 j hj).1, rd_set_ne (fun h => hj h.symm)], (e5 j hj).2⟩, fun q hq => Ev.step ?_ (fun k => impl_models.l1.eq_2 ..)⟩
      rw [hw, hwp, Int.toNat_natCast]
      exact Ev.pos (by omega) (Ev.pos (by omega) (Ev.pos (by omega) (Ev.pos hpos (Ev.pos (by omega) (Ev.pos (by omega) (Ev.pos (by omega) (e6 q hq)))))))
    · obtain ⟨b, hb⟩ : ∃ b : Nat, rd c (p : Int) = -((b : Int) + 1) := ⟨(-(rd c (p : Int))).toNat - 1, by omega⟩
      have hw : wrap64 (wrap64 (-(rd c (p : Int))) - 1) = (b : Int) := by rw [wneg (by omega) (by omega), w_id (by omega) (by omega)]; omega
      have hset : rd (x7.set i (Go.bits .or .i64 (rd x7 (i : Int)) (shl .i64 1 (b : Int)))) (i : Int) = Go.bits .or .i64 (rd x7 (i : Int)) (shl .i64 1 (b : Int)) := rd_set_eq h7
      obtain ⟨x6', x7', Y', Z', e1, e2, e3, e4, e5, e6⟩ := ih (p + 1) x6 (x7.set i (Go.bits .or .i64 (rd x7 (i : Int)) (shl .i64 1 (b : Int)))) Y (Z ||| 2 ^ b) (by omega) h6 (by simpa using h7) (pos_skip hY (by omega)) (by rw [hset]; exact neg_set hn hZ (by omega) hb)
      refine ⟨x6', x7', Y', Z', e1, by simpa using e2, e3, e4, fun j hj => ⟨(e5 j hj).1, by rw [(e5 j hj).2, rd_set_ne (fun h => hj h.symm)]⟩, fun q hq => Ev.step ?_ (fun k => impl_models.l1.eq_2 ..)⟩
      rw [hw, hwp, Int.toNat_natCast]
      exact Ev.pos (by omega) (Ev.pos (by omega) (Ev.pos (by omega) (Ev.neg hpos (Ev.pos (by omega) (Ev.pos (by omega) (Ev.pos (by omega) (e6 q hq)))))))
theorem zero_pos (n : Nat) (c : List Int) : PosOk n c 0 0 0 := ⟨rfl, Nat.two_pow_pos n, fun b => by simp⟩
theorem zero_neg (n : Nat) (c : List Int) : NegOk n c 0 0 0 := ⟨rfl, Nat.two_pow_pos n, fun b => by simp⟩
theorem models_outer {σ : Type} (step : σ → Int → Bool × σ) (n : Nat) (hn : n ≤ 20) (s : σ) (l : List (List Int)) (hl : AllLits n l) : ∀ (d i : Nat) (x6 x7 : List Int), i + d = l.length → x6.length = l.length → x7.length = l.length →
    (∀ j : Nat, j < i → (∃ Y, PosOk n (rd_L1 l (j : Int)) (rd_L1 l (j : Int)).length (rd x6 (j : Int)) Y) ∧ ∃ Z, NegOk n (rd_L1 l (j : Int)) (rd_L1 l (j : Int)).length (rd x7 (j : Int)) Z) → (∀ j : Nat, i ≤ j → j < l.length → rd x6 (j : Int) = 0 ∧ rd x7 (j : Int) = 0) →
    ∃ x6' x7' : List Int, x6'.length = l.length ∧ x7'.length = l.length ∧ (∀ j : Nat, j < l.length → (∃ Y, PosOk n (rd_L1 l (j : Int)) (rd_L1 l (j : Int)).length (rd x6' (j : Int)) Y) ∧ ∃ Z, NegOk n (rd_L1 l (j : Int)) (rd_L1 l (j : Int)).length (rd x7' (j : Int)) Z) ∧
      ∀ q, Ev (fun k => impl_models.l2 step k s l x6' x7' ((2 ^ n : Nat) : Int) ((0 : Nat) : Int)) q → Ev (fun k => impl_models.l0 step k s (n : Int) l x6 x7 l (l.length : Int) (i : Int)) q := by
  have hll := hl.1
  intro d
  induction d with
  | zero =>
    intro i x6 x7 hi h6 h7 hd hz
    refine ⟨x6, x7, h6, h7, fun j hj => hd j (by omega), fun q hq => Ev.step (Ev.neg (by omega) (Ev.pos (by omega) ?_)) (fun k => impl_models.l0.eq_2 ..)⟩
    rw [shl_one n (by omega)]
    exact hq
  | succ d ih =>
    intro i x6 x7 hi h6 h7 hd hz
    have hwi := wsucc i (by omega)
    have hlt : i < l.length := by omega
    obtain ⟨z6, z7⟩ := hz i (Nat.le_refl _) hlt
    obtain ⟨y6, y7, Y, Z, e1, e2, e3, e4, e5, e6⟩ := models_inner step n hn s l i (rd_L1 l (i : Int)) (hl.2 i hlt) (rd_L1 l (i : Int)).length 0 x6 x7 0 0 (by omega) (by omega) (by omega) (by rw [z6]; exact zero_pos _ _) (by rw [z7]; exact zero_neg _ _)
    obtain ⟨x6', x7', f1, f2, f3, f4⟩ := ih (i + 1) y6 y7 (by omega) (by omega) (by omega) (fun j hj => by
      rcases Nat.lt_succ_iff_lt_or_eq.mp hj with h | rfl
      · rw [(e5 j (by omega)).1, (e5 j (by omega)).2]
        exact hd j h
      · exact ⟨⟨Y, e3⟩, ⟨Z, e4⟩⟩) (fun j h1 h2 => by
      rw [(e5 j (by omega)).1, (e5 j (by omega)).2]
      exact hz j (by omega) h2)
    refine ⟨x6', x7', f1, f2, f3, fun q hq => Ev.step (Ev.pos (by omega) (Ev.pos (by omega) (Ev.pos (by omega) (e6 q ?_)))) (fun k => impl_models.l0.eq_2 ..)⟩
    rw [hwi]
    exact f4 q hq
theorem clause_false {n : Nat} (hn : n ≤ 20) {c : List Int} (hc : LitsOk n c) {y z : Int} {Y Z : Nat} (hY : PosOk n c c.length y Y) (hZ : NegOk n c c.length z Z) {r : Nat} (hr : r < 2 ^ n) :
    (Go.bits .and .i64 (r : Int) y = 0 ∧ Go.bits .and .i64 (Go.bits .xor .i64 (-1) (r : Int)) z = 0) ↔ ¬ ClT (TR r) c := by
  have h20 := two20 hn
  have e := two62
  have hy := hY.lt
  have hz := hZ.lt
  rw [hY.eq, hZ.eq, band_nat r Y (by omega) (by omega), bnot_zero r Z (by omega) (by omega)]
  have e0 : ((r &&& Y : Nat) : Int) = 0 ↔ r &&& Y = 0 := by omega
  rw [e0, and_zero]
  constructor
  · rintro ⟨h1, h2⟩ ⟨j, j1, j2⟩
    obtain ⟨hx0, hx1, hx2⟩ := hc.2 j j1
    unfold LT TR at j2
    by_cases hp : 0 < rd c (j : Int)
    · rw [if_pos hp] at j2
      have := h1 ((rd c (j : Int)).natAbs - 1) ((hY.bit _).mpr ⟨j, j1, by omega⟩)
      rw [this] at j2
      cases j2
    · rw [if_neg hp] at j2
      have := h2 ((rd c (j : Int)).natAbs - 1) ((hZ.bit _).mpr ⟨j, j1, by omega⟩)
      rw [this] at j2
      cases j2
  · intro h
    refine ⟨fun i hi => ?_, fun i hi => ?_⟩
    · obtain ⟨j, j1, j2⟩ := (hY.bit i).mp hi
      cases hb : r.testBit i with
      | false => rfl
      | true =>
        refine absurd ⟨j, j1, ?_⟩ h
        unfold LT TR
        rw [j2, if_pos (by omega)]
        have : ((i : Int) + 1).natAbs - 1 = i := by omega
        rw [this]
        exact hb
    · obtain ⟨j, j1, j2⟩ := (hZ.bit i).mp hi
      cases hb : r.testBit i with
      | true => rfl
      | false =>
        refine absurd ⟨j, j1, ?_⟩ h
        unfold LT TR
        rw [j2, if_neg (by omega)]
        have : (-((i : Int) + 1)).natAbs - 1 = i := by omega
        rw [this]
        exact hb
def allB (T : Nat → Bool) (l : List (List Int)) : Bool := l.all fun c => c.any fun x => decide (LT T x)
theorem any_iff (T : Nat → Bool) (c : List Int) : (c.any fun x => decide (LT T x)) = true ↔ ClT T c := by
  rw [List.any_eq_true]
  constructor
  · rintro ⟨x, hx, h⟩
    obtain ⟨j, hj, rfl⟩ := List.getElem_of_mem hx
    exact ⟨j, hj, by rw [rd_lt hj]; simpa using h⟩
  · rintro ⟨j, hj, h⟩
    exact ⟨c[j], List.getElem_mem hj, by rw [rd_lt hj] at h; simpa using h⟩
theorem allB_iff (T : Nat → Bool) (l : List (List Int)) : allB T l = true ↔ AllT T l := by
  unfold allB
  rw [List.all_eq_true]
  constructor
  · intro h j hj
    exact (any_iff T _).mp (h _ (rows_mem hj))
  · intro h c hc
    obtain ⟨j, hj, rfl⟩ := List.getElem_of_mem hc
    have := h j hj
    rw [rows_lt hj] at this
    exact (any_iff T _).mpr this
def visit {σ : Type} (step : σ → Int → Bool × σ) : List Nat → σ → σ
  | [], s => s
  | r :: rs, s => if (step s (r : Int)).1 = true then visit step rs (step s (r : Int)).2 else (step s (r : Int)).2
def rowsOf (l : List (List Int)) : Nat → Nat → List Nat
  | 0, _ => []
  | d + 1, r => if allB (TR r) l = true then r :: rowsOf l d (r + 1) else rowsOf l d (r + 1)
theorem mem_rowsOf (l : List (List Int)) : ∀ (d a r : Nat), r ∈ rowsOf l d a ↔ (a ≤ r ∧ r < a + d) ∧ AllT (TR r) l := by
  intro d
  induction d with
  | zero => intro a r; simp [rowsOf]; omega
  | succ d ih =>
    intro a r
    unfold rowsOf
    by_cases h : allB (TR a) l = true
    · rw [if_pos h, List.mem_cons, ih]
      constructor
      · rintro (rfl | ⟨h1, h2⟩)
        · exact ⟨by omega, (allB_iff _ _).mp h⟩
        · exact ⟨by omega, h2⟩
      · rintro ⟨h1, h2⟩
        by_cases e : r = a
        · exact Or.inl e
        · exact Or.inr ⟨by omega, h2⟩
    · rw [if_neg h, ih]
      constructor
      · rintro ⟨h1, h2⟩
        exact ⟨by omega, h2⟩
      · rintro ⟨h1, h2⟩
        have : r ≠ a := fun e => by subst e; exact h ((allB_iff _ _).mpr h2)
        exact ⟨by omega, h2⟩
theorem models_row {σ : Type} (step : σ → Int → Bool × σ) (n : Nat) (hn : n ≤ 20) (s : σ) (l : List (List Int)) (hl : AllLits n l) (x6 x7 : List Int) (h6 : x6.length = l.length) (h7 : x7.length = l.length)
    (hx : ∀ j : Nat, j < l.length → (∃ Y, PosOk n (rd_L1 l (j : Int)) (rd_L1 l (j : Int)).length (rd x6 (j : Int)) Y) ∧ ∃ Z, NegOk n (rd_L1 l (j : Int)) (rd_L1 l (j : Int)).length (rd x7 (j : Int)) Z) (N : Int) (r : Nat) (hr : r < 2 ^ n) :
    ∀ (d i : Nat), i + d = l.length → (∀ j : Nat, j < i → ClT (TR r) (rd_L1 l (j : Int))) →
      (allB (TR r) l = false → ∀ q, Ev (fun k => impl_models.l2 step k s l x6 x7 N ((r + 1 : Nat) : Int)) q → Ev (fun k => impl_models.l3 step k s l x6 x7 (r : Int) N (r : Int) (l.length : Int) (i : Int)) q) ∧
      (allB (TR r) l = true → ∀ q, Ev (fun k => if (step s (r : Int)).1 = true then impl_models.l2 step k (step s (r : Int)).2 l x6 x7 N ((r + 1 : Nat) : Int) else some (step s (r : Int)).2) q → Ev (fun k => impl_models.l3 step k s l x6 x7 (r : Int) N (r : Int) (l.length : Int) (i : Int)) q) := by
  have hll := hl.1
  have h20 := two20 hn
  have hwr := wsucc r (by omega)
  intro d
  induction d with
  | zero =>
    intro i hi h
    refine ⟨fun hb => ?_, fun hb q hq => Ev.step (Ev.neg (by omega) ?_) (fun k => impl_models.l3.eq_2 ..)⟩
    · have : AllT (TR r) l := fun j hj => h j (by omega)
      rw [(allB_iff _ _).mpr this] at hb
      cases hb
    · rw [hwr]
      exact hq
  | succ d ih =>
    intro i hi h
    have hwi := wsucc i (by omega)
    have hlt : i < l.length := by omega
    obtain ⟨⟨Y, hY⟩, ⟨Z, hZ⟩⟩ := hx i hlt
    have hf := clause_false hn (hl.2 i hlt) hY hZ hr
    by_cases hc : ClT (TR r) (rd_L1 l (i : Int))
    · have hi2 := ih (i + 1) (by omega) (fun j hj => by
        rcases Nat.lt_succ_iff_lt_or_eq.mp hj with h2 | rfl
        · exact h j h2
        · exact hc)
      have st : ∀ q, Ev (fun k => impl_models.l3 step k s l x6 x7 (r : Int) N (r : Int) (l.length : Int) ((i + 1 : Nat) : Int)) q → Ev (fun k => impl_models.l3 step k s l x6 x7 (r : Int) N (r : Int) (l.length : Int) (i : Int)) q := by
        intro q hq
        refine Ev.step ?_ (fun k => impl_models.l3.eq_2 ..)
        rw [hwi]
        by_cases h1 : Go.bits .and .i64 (r : Int) (rd x6 (i : Int)) = 0
        · have h2 : ¬ Go.bits .and .i64 (Go.bits .xor .i64 (-1) (r : Int)) (rd x7 (i : Int)) = 0 := fun h2 => (hf.mp ⟨h1, h2⟩) hc
          exact Ev.pos (by omega) (Ev.pos (by omega) (Ev.pos (by omega) (Ev.pos h1 (Ev.pos (by omega) (Ev.neg h2 hq)))))
        · exact Ev.pos (by omega) (Ev.pos (by omega) (Ev.pos (by omega) (Ev.neg h1 hq)))
      exact ⟨fun hb q hq => st q (hi2.1 hb q hq), fun hb q hq => st q (hi2.2 hb q hq)⟩
    · obtain ⟨h1, h2⟩ := hf.mpr hc
      refine ⟨fun hb q hq => Ev.step ?_ (fun k => impl_models.l3.eq_2 ..), fun hb => absurd ((allB_iff _ _).mp hb i hlt) hc⟩
      rw [hwr]
      exact Ev.pos (by omega) (Ev.pos (by omega) (Ev.pos (by omega) (Ev.pos h1 (Ev.pos (by omega) (Ev.pos h2 hq)))))
theorem models_rows {σ : Type} (step : σ → Int → Bool × σ) (n : Nat) (hn : n ≤ 20) (l : List (List Int)) (hl : AllLits n l) (x6 x7 : List Int) (h6 : x6.length = l.length) (h7 : x7.length = l.length)
    (hx : ∀ j : Nat, j < l.length → (∃ Y, PosOk n (rd_L1 l (j : Int)) (rd_L1 l (j : Int)).length (rd x6 (j : Int)) Y) ∧ ∃ Z, NegOk n (rd_L1 l (j : Int)) (rd_L1 l (j : Int)).length (rd x7 (j : Int)) Z) :
    ∀ (d r : Nat) (s : σ), r + d = 2 ^ n → Ev (fun k => impl_models.l2 step k s l x6 x7 ((2 ^ n : Nat) : Int) (r : Int)) (visit step (rowsOf l d r) s) := by
  intro d
  induction d with
  | zero =>
    intro r s hr
    exact Ev.step (Ev.neg (by omega) (Ev.val _)) (fun k => impl_models.l2.eq_2 ..)
  | succ d ih =>
    intro r s hr
    obtain ⟨m1, m2⟩ := models_row step n hn s l hl x6 x7 h6 h7 hx ((2 ^ n : Nat) : Int) r (by omega) l.length 0 (by omega) (fun j hj => by omega)
    refine Ev.step (Ev.pos (by omega) ?_) (fun k => impl_models.l2.eq_2 ..)
    unfold rowsOf
    cases hb : allB (TR r) l with
    | false =>
      rw [if_neg (by decide)]
      exact m1 hb _ (ih (r + 1) s (by omega))
    | true =>
      rw [if_pos rfl]
      unfold visit
      refine m2 hb _ ?_
      by_cases hs : (step s (r : Int)).1 = true
      · rw [if_pos hs]
        exact Ev.pos hs (ih (r + 1) _ (by omega))
      · rw [if_neg hs]
        exact Ev.neg hs (Ev.val _)
theorem models_run {σ : Type} (step : σ → Int → Bool × σ) (n : Nat) (hn : n ≤ 20) (s : σ) (l : List (List Int)) (hl : AllLits n l) : Ev (fun k => impl_models.f step k s (n : Int) l) (visit step (rowsOf l (2 ^ n) 0) s) := by
  have hll := hl.1
  unfold impl_models.f
  rw [Int.toNat_natCast]
  have hz : ∀ j : Nat, rd (List.replicate l.length (0 : Int)) (j : Int) = 0 := by
    intro j
    rw [rd_nat, List.getD_eq_getElem?_getD, List.getElem?_replicate]
    split <;> rfl
  obtain ⟨x6', x7', e1, e2, e3, e4⟩ := models_outer step n hn s l hl l.length 0 (List.replicate l.length 0) (List.replicate l.length 0) (by omega) (by simp) (by simp) (fun j hj => by omega) (fun j _ _ => ⟨hz j, hz j⟩)
  exact Ev.pos (by omega) (Ev.pos (by omega) (e4 _ (models_rows step n hn l hl x6' x7' e1 e2 e3 (2 ^ n) 0 s (by omega))))
theorem lt_row {n r : Nat} {T : Nat → Bool} (h : ∀ i, i < n → r.testBit i = T (i + 1)) {x : Int} (hx : LitOk (n : Int) x) : LT (TR r) x ↔ LT T x := by
  obtain ⟨h0, h1, h2⟩ := hx
  unfold LT TR
  have := h (x.natAbs - 1) (by omega)
  rw [Nat.sub_add_cancel (by omega)] at this
  rw [this]
theorem all_row {n : Nat} {l : List (List Int)} (hl : AllLits n l) {r : Nat} {T : Nat → Bool} (h : ∀ i, i < n → r.testBit i = T (i + 1)) : AllT (TR r) l ↔ AllT T l := by
  constructor
  · intro ha j hj
    obtain ⟨i, i1, i2⟩ := ha j hj
    exact ⟨i, i1, (lt_row h ((hl.2 j hj).2 i i1)).mp i2⟩
  · intro ha j hj
    obtain ⟨i, i1, i2⟩ := ha j hj
    exact ⟨i, i1, (lt_row h ((hl.2 j hj).2 i i1)).mpr i2⟩
theorem row_exists {n : Nat} {l : List (List Int)} (hl : AllLits n l) : (∃ T, AllT T l) ↔ ∃ r, r ∈ rowsOf l (2 ^ n) 0 := by
  constructor
  · rintro ⟨T, h⟩
    obtain ⟨r, h1, h2⟩ := bits_of n (fun i => T (i + 1))
    exact ⟨r, (mem_rowsOf _ _ _ _).mpr ⟨by omega, (all_row hl h2).mpr h⟩⟩
  · rintro ⟨r, h⟩
    exact ⟨_, ((mem_rowsOf _ _ _ _).mp h).2⟩
theorem sat_dec (n : Nat) (hn : n ≤ 20) (l : List (List Int)) (hl : AllLits n l) : Dec (fun k => impl_satisfiable.f k (n : Int) l) (∃ T, AllT T l) := by
  refine ⟨_, models_run (fun (_ : Bool) (_ : Int) => (false, true)) n hn false l hl, ?_⟩
  rw [row_exists hl]
  cases h : rowsOf l (2 ^ n) 0 with
  | nil => simp [visit]
  | cons r rs => simp [visit]
/-! #### what follows from clauses -/
theorem all_lits (n : Nat) (L : List (List Int)) (hL : Small L) (h : ClausesOk (n : Int) L) : AllLits n L := ⟨hL.1, fun i hi => clause_lits (h.2.2 i hi) (hL.2 i hi)⟩
/-- The reference's marks of a list of literals that has each atom at most once. -/
theorem marks_loop (n : Nat) (hn : n ≤ 700) (c : List Int) (hcl : c.length ≤ 1048576) (hc : ∀ j : Nat, j < c.length → LitOk (n : Int) (rd c (j : Int))) (hd : ∀ i j : Nat, j < i → i < c.length → (rd c (j : Int)).natAbs ≠ (rd c (i : Int)).natAbs) :
    ∀ (d i : Nat) (v : List Int), i + d = c.length → VOk n v → (∀ a : Nat, a ≤ n → (rd v (a : Int) ≠ 0 ↔ ∃ j : Nat, j < i ∧ (rd c (j : Int)).natAbs = a)) → (∀ j : Nat, j < i → rd v (((rd c (j : Int)).natAbs : Nat) : Int) = rd c (j : Int)) →
      ∃ v', Ev (fun k => spec_l11Given.l0 k c v (i : Int)) v' ∧ VOk n v' ∧ (∀ a : Nat, a ≤ n → (rd v' (a : Int) ≠ 0 ↔ ∃ j : Nat, j < c.length ∧ (rd c (j : Int)).natAbs = a)) ∧ (∀ j : Nat, j < c.length → rd v' (((rd c (j : Int)).natAbs : Nat) : Int) = rd c (j : Int)) := by
  intro d
  induction d with
  | zero =>
    intro i v hi hv h1 h2
    have : i = c.length := by omega
    subst this
    exact ⟨v, Ev.step (Ev.neg (by omega) (Ev.val _)) (fun k => spec_l11Given.l0.eq_2 ..), hv, h1, h2⟩
  | succ d ih =>
    intro i v hi hv h1 h2
    have hwi := wsucc i (by omega)
    have hvl := hv.1
    obtain ⟨hx0, hx1, hx2⟩ := hc i (by omega)
    obtain ⟨v', e1, e2⟩ := ih (i + 1) (v.set (rd c (i : Int)).natAbs (rd c (i : Int))) (by omega) (vok_set hv ⟨hx0, hx1, hx2⟩) (fun a ha => by
      by_cases e : (rd c (i : Int)).natAbs = a
      · subst e
        rw [rd_set_eq (by omega)]
        exact ⟨fun _ => ⟨i, by omega, rfl⟩, fun _ => hx0⟩
      · rw [rd_set_ne e, h1 a ha]
        constructor
        · rintro ⟨j, j1, j2⟩
          exact ⟨j, by omega, j2⟩
        · rintro ⟨j, j1, j2⟩
          rcases Nat.lt_succ_iff_lt_or_eq.mp j1 with h | rfl
          · exact ⟨j, h, j2⟩
          · exact absurd j2 e) (fun j hj => by
      rcases Nat.lt_succ_iff_lt_or_eq.mp hj with h | rfl
      · rw [rd_set_ne (fun e => hd i j h (by omega) e.symm)]
        exact h2 j h
      · rw [rd_set_eq (by omega)])
    refine ⟨v', Ev.step ?_ (fun k => spec_l11Given.l0.eq_2 ..), e2⟩
    rw [hwi]
    refine Ev.pos (by omega) (Ev.pos (by omega) (Ev.bind (spec_abs (by omega) (by omega)) (Ev.pos (absI_pos _) (Ev.pos (by rw [absN]; omega) ?_))))
    rw [absN, Int.toNat_natCast]
    exact e1
theorem vok_zeros (n : Nat) : VOk n (List.replicate (n + 1) 0) := ⟨by simp, fun a ha => Or.inl (rd_zeros (n + 1) a (by omega))⟩
/-- The marks of a list of literals, each atom once: consistent just with what makes them all true. -/
theorem given_sem (n : Nat) (hn : n ≤ 700) (c : List Int) (hcl : c.length ≤ 1048576) (hc : ∀ j : Nat, j < c.length → LitOk (n : Int) (rd c (j : Int))) (hd : ∀ i j : Nat, j < i → i < c.length → (rd c (j : Int)).natAbs ≠ (rd c (i : Int)).natAbs) :
    ∃ v, Ev (fun k => spec_l11Given.f k c (n : Int)) v ∧ VOk n v ∧ ∀ T, Cons n T v ↔ ∀ j : Nat, j < c.length → LT T (rd c (j : Int)) := by
  have hwn : wrap64 ((n : Int) + 1) = ((n + 1 : Nat) : Int) := wsucc n (by omega)
  obtain ⟨v, e1, e2, e3, e4⟩ := marks_loop n hn c hcl hc hd c.length 0 (List.replicate (n + 1) 0) (by omega) (vok_zeros n) (fun a ha => by
    rw [rd_zeros (n + 1) a (by omega)]
    simp) (fun j hj => by omega)
  refine ⟨v, ?_, e2, fun T => ⟨fun h j hj => ?_, fun h a ha hz => ?_⟩⟩
  · unfold spec_l11Given.f
    rw [hwn, Int.toNat_natCast]
    exact Ev.pos (by omega) (Ev.pos (by omega) e1)
  · obtain ⟨hx0, hx1, hx2⟩ := hc j hj
    have := h (rd c (j : Int)).natAbs (by omega) (by rw [e4 j hj]; exact hx0)
    rwa [e4 j hj] at this
  · obtain ⟨j, j1, j2⟩ := (e3 a ha).mp hz
    rw [← j2, e4 j j1]
    exact h j j1
theorem can_dec (n : Nat) (hn : n ≤ 700) (L : List (List Int)) (hL : AllLits n L) (c : List Int) (hcl : c.length ≤ 1048576) (hc : ∀ j : Nat, j < c.length → LitOk (n : Int) (rd c (j : Int))) (hd : ∀ i j : Nat, j < i → i < c.length → (rd c (j : Int)).natAbs ≠ (rd c (i : Int)).natAbs) :
    Dec (fun k => spec_l12Can.f k (n : Int) L c) (∃ T, AllT T L ∧ ∀ j : Nat, j < c.length → LT T (rd c (j : Int))) := by
  obtain ⟨v, e1, e2, e3⟩ := given_sem n hn c hcl hc hd
  obtain ⟨b, h1, h2⟩ := open_sem n hn L hL (v.count 0 + 1) v (by omega) e2
  refine ⟨b, ?_, h2.trans ?_⟩
  · unfold spec_l12Can.f
    exact Ev.bind e1 (Ev.bind h1 (Ev.val _))
  · unfold Can
    constructor
    · rintro ⟨T, t1, t2⟩
      exact ⟨T, t1, (e3 T).mp t2⟩
    · rintro ⟨T, t1, t2⟩
      exact ⟨T, t1, (e3 T).mpr t2⟩
theorem few_spec (n : Int) (L : List (List Int)) (hL : Small L) : Dec (fun k => spec_l12Few.f k n L) (ClausesOk n L ∧ n ≤ 20) := by
  obtain ⟨b, h1, h2⟩ := spec_clauses n L hL
  unfold spec_l12Few.f
  cases b with
  | false => exact Dec.no (Ev.bind h1 (Ev.neg (by decide) (Ev.val _))) (fun h => by simpa using h2.mpr h.1)
  | true => exact ⟨decide (n ≤ 20), Ev.bind h1 (Ev.pos rfl (Ev.val _)), by rw [decide_eq_true_eq]; exact ⟨fun h => ⟨h2.mp rfl, h⟩, fun h => h.2⟩⟩
theorem few_impl (n : Int) (L : List (List Int)) (hL : Small L) : Dec (fun k => impl_freeOk.f k n L) (ClausesOk n L ∧ n ≤ 20) := by
  obtain ⟨b, h1, h2⟩ := impl_clauses n L hL
  unfold impl_freeOk.f
  cases b with
  | false => exact Dec.no (Ev.bind h1 (Ev.neg (by decide) (Ev.val _))) (fun h => by simpa using h2.mpr h.1)
  | true => exact ⟨decide (n ≤ 20), Ev.bind h1 (Ev.pos rfl (Ev.val _)), by rw [decide_eq_true_eq]; exact ⟨fun h => ⟨h2.mp rfl, h⟩, fun h => h.2⟩⟩
def FewOk (n : Int) (L : List (List Int)) : Prop := ClausesOk n L ∧ n ≤ 20
/-! #### cores: the clauses of chosen numbers -/
def sel (L : List (List Int)) (ks : List Int) : List (List Int) := ks.map fun k => rd_L1 L k
def Nums (m : Nat) (ks : List Int) : Prop := ∀ x ∈ ks, 0 ≤ x ∧ x < (m : Int)
theorem sel_length (L : List (List Int)) (ks : List Int) : (sel L ks).length = ks.length := by simp [sel]
theorem sel_app (L : List (List Int)) (a b : List Int) : sel L (a ++ b) = sel L a ++ sel L b := by simp [sel]
theorem sel_at (L : List (List Int)) (ks : List Int) (j : Nat) (hj : j < ks.length) : rd_L1 (sel L ks) (j : Int) = rd_L1 L (rd ks (j : Int)) := by
  rw [rows_nat, getD_lt (by rw [sel_length]; exact hj), rd_lt hj]
  simp [sel]
theorem nums_at {m : Nat} {ks : List Int} (h : Nums m ks) (j : Nat) (hj : j < ks.length) : ∃ a : Nat, rd ks (j : Int) = (a : Int) ∧ a < m := by
  obtain ⟨h0, h1⟩ := h (rd ks (j : Int)) (by rw [rd_lt hj]; exact List.getElem_mem hj)
  obtain ⟨a, ha⟩ := Int.eq_ofNat_of_zero_le h0
  exact ⟨a, ha, by omega⟩
theorem allT_sel {T : Nat → Bool} {L : List (List Int)} {ks : List Int} : AllT T (sel L ks) ↔ ∀ x ∈ ks, ClT T (rd_L1 L x) := by
  constructor
  · intro h x hx
    obtain ⟨j, hj, rfl⟩ := List.getElem_of_mem hx
    have := h j (by rw [sel_length]; exact hj)
    rwa [sel_at L ks j hj, rd_lt hj] at this
  · intro h j hj
    rw [sel_length] at hj
    rw [sel_at L ks j hj]
    exact h _ (by rw [rd_lt hj]; exact List.getElem_mem hj)
theorem sel_lits {n : Nat} {L : List (List Int)} (hL : AllLits n L) {ks : List Int} (hk : Nums L.length ks) (hl : ks.length ≤ 1048576) : AllLits n (sel L ks) := by
  refine ⟨by rw [sel_length]; exact hl, fun j hj => ?_⟩
  rw [sel_length] at hj
  rw [sel_at L ks j hj]
  obtain ⟨a, e, ha⟩ := nums_at hk j hj
  rw [e]
  exact hL.2 a ha
/-- The numbers from i on, d of them. -/
def upL : Nat → Nat → List Int
  | 0, _ => []
  | d + 1, i => (i : Int) :: upL d (i + 1)
theorem upL_length : ∀ d i, (upL d i).length = d := by
  intro d
  induction d with
  | zero => intro i; rfl
  | succ d ih => intro i; simp [upL, ih]
theorem mem_upL : ∀ (d i : Nat) (x : Int), x ∈ upL d i ↔ (i : Int) ≤ x ∧ x < (i : Int) + d := by
  intro d
  induction d with
  | zero =>
    intro i x
    simp only [upL, List.not_mem_nil, false_iff]
    omega
  | succ d ih =>
    intro i x
    simp only [upL, List.mem_cons, ih]
    omega
theorem upL_at : ∀ (d i j : Nat), j < d → rd (upL d i) (j : Int) = ((i + j : Nat) : Int) := by
  intro d
  induction d with
  | zero => intro i j h; omega
  | succ d ih =>
    intro i j h
    cases j with
    | zero => rfl
    | succ j =>
      have := ih (i + 1) j (by omega)
      rw [rd_nat] at this
      rw [rd_nat, upL, List.getD_cons_succ, this]
      omega
theorem less_eq (c : List Int) (i d : Nat) (hc : ∀ x ∈ c, 0 ≤ x ∧ x < (i : Int)) : (c ++ upL (d + 1) i).filter (fun x => !(x == (i : Int))) = c ++ upL d (i + 1) := by
  rw [List.filter_append]
  congr 1
  · rw [List.filter_eq_self]
    intro x hx
    have := hc x hx
    simp
    omega
  · rw [upL, List.filter_cons]
    simp only [beq_self_eq_true, Bool.not_true, Bool.false_eq_true, if_false]
    rw [List.filter_eq_self]
    intro x hx
    rw [mem_upL] at hx
    simp
    omega
theorem numbered_loop (n : Nat) (hn : n ≤ 1048576) : ∀ (d i : Nat) (ys : List Int), i + d = n → ys.length = n → (∀ j : Nat, j < i → rd ys (j : Int) = (j : Int)) → Ev (fun k => impl_numbered.l0 k ys (n : Int) (i : Int)) (upL n 0) := by
  intro d
  induction d with
  | zero =>
    intro i ys hi hy h
    refine Ev.step (Ev.neg (by omega) (Ev.valEq ?_)) (fun k => impl_numbered.l0.eq_2 ..)
    refine list_eq_rd (by rw [hy, upL_length]) (fun j hj => ?_)
    rw [h j (by omega), upL_at n 0 j (by omega), Nat.zero_add]
  | succ d ih =>
    intro i ys hi hy h
    have hwi := wsucc i (by omega)
    refine Ev.step ?_ (fun k => impl_numbered.l0.eq_2 ..)
    rw [hwi, Int.toNat_natCast]
    refine Ev.pos (by omega) (Ev.pos (by omega) (Ev.pos (by omega) (ih (i + 1) _ (by omega) (by simpa using hy) (fun j hj => ?_))))
    by_cases e : j = i
    · subst e
      rw [rd_set_eq (by omega)]
    · rw [rd_set_ne (by omega)]
      exact h j (by omega)
theorem numbered (n : Nat) (hn : n ≤ 1048576) : Ev (fun k => impl_numbered.f k (n : Int)) (upL n 0) := by
  unfold impl_numbered.f
  refine Ev.pos (by omega) (Ev.pos (by omega) ?_)
  simp only [Option.bind_some, Int.toNat_natCast, List.length_replicate]
  exact numbered_loop n hn n 0 _ (by omega) (by simp) (fun j hj => by omega)
/-- Without the row at place p. -/
theorem without_loop (l : List (List Int)) (hl : l.length ≤ 1048576) (p : Nat) : ∀ (d i : Nat) (out : List (List Int)), i + d = l.length → out.length ≤ i →
    Ev (fun k => spec_l12Without.l0 k l (p : Int) out (i : Int)) (out ++ ((l.drop i).take (p - i) ++ l.drop (max i (p + 1)))) := by
  intro d
  induction d with
  | zero =>
    intro i out hi ho
    refine Ev.step (Ev.neg (by omega) (Ev.valEq ?_)) (fun k => spec_l12Without.l0.eq_2 ..)
    rw [List.drop_eq_nil_of_le (by omega), List.drop_eq_nil_of_le (by omega)]
    simp
  | succ d ih =>
    intro i out hi ho
    have hwi := wsucc i (by omega)
    have hdr : l.drop i = rd_L1 l (i : Int) :: l.drop (i + 1) := by
      rw [rows_lt (by omega)]
      exact List.drop_eq_getElem_cons (by omega)
    refine Ev.step ?_ (fun k => spec_l12Without.l0.eq_2 ..)
    rw [hwi]
    by_cases e : i = p
    · subst e
      refine Ev.pos (by omega) (Ev.pos rfl ((ih (i + 1) out (by omega) (by omega)).to ?_))
      rw [Nat.sub_self, List.take_zero, show i - (i + 1) = 0 by omega, List.take_zero, Nat.max_eq_left (Nat.le_refl _), Nat.max_eq_right (by omega)]
    · refine Ev.pos (by omega) (Ev.neg (by omega) (Ev.pos (by omega) (Ev.pos (by omega) ((ih (i + 1) (out ++ [rd_L1 l (i : Int)]) (by omega) (by simp; omega)).to ?_))))
      by_cases h : i < p
      · rw [hdr, show p - i = (p - (i + 1)) + 1 by omega, List.take_succ_cons, Nat.max_eq_right (by omega), Nat.max_eq_right (by omega)]
        simp
      · rw [show p - i = 0 by omega, show p - (i + 1) = 0 by omega, Nat.max_eq_left (by omega), Nat.max_eq_left (by omega), hdr]
        simp
theorem without_at (a b : List (List Int)) (x : List Int) (hl : (a ++ x :: b).length ≤ 1048576) : Ev (fun k => spec_l12Without.f k (a ++ x :: b) (a.length : Int)) (a ++ b) := by
  unfold spec_l12Without.f
  refine (without_loop (a ++ x :: b) hl a.length _ 0 [] (Nat.zero_add _) (by simp)).to ?_
  simp
theorem open_dec (n : Nat) (hn : n ≤ 700) (l : List (List Int)) (hl : AllLits n l) : Dec (fun k => spec_l12Open.f k l (List.replicate (n + 1) 0)) (∃ T, AllT T l) := by
  refine (open_sem n hn l hl ((List.replicate (n + 1) (0 : Int)).count 0 + 1) _ (by omega) (vok_zeros n)).iff ⟨?_, ?_⟩
  · rintro ⟨T, h, _⟩
    exact ⟨T, h⟩
  · rintro ⟨T, h⟩
    exact ⟨T, h, fun a ha hz => absurd (rd_zeros (n + 1) a (by omega)) hz⟩
structure CoreInv (L : List (List Int)) (d i : Nat) (c : List Int) : Prop where
  nums : ∀ x ∈ c, 0 ≤ x ∧ x < (i : Int)
  once : c.Nodup
  len : c.length ≤ i
  none : ¬ ∃ T, ∀ y ∈ c ++ upL d i, ClT T (rd_L1 L y)
  some : ∀ x ∈ c, ∃ T, ∀ y ∈ c ++ upL d i, y ≠ x → ClT T (rd_L1 L y)
theorem build_loop (L : List (List Int)) (N x25 i : Int) (x3 less : List Int) (hk : Nums L.length less) (hl : less.length ≤ 1048576) (r : List Int)
    (h : Ev (fun k => (impl_satisfiable.f k N (sel L less)).bind fun t => if t = true then impl_CoreOf.l0 k x3 x25 (wrap64 (i + 1)) N L else impl_CoreOf.l0 k less x25 (wrap64 (i + 1)) N L) r) :
    ∀ (d j : Nat) (acc : List (List Int)), j + d = less.length → acc = sel L (less.take j) → Ev (fun k => impl_CoreOf.l1 k x3 less acc x25 i less (less.length : Int) (j : Int) N L) r := by
  intro d
  induction d with
  | zero =>
    intro j acc hj ha
    rw [List.take_of_length_le (by omega)] at ha
    subst ha
    exact Ev.step (Ev.neg (by omega) h) (fun k => impl_CoreOf.l1.eq_2 ..)
  | succ d ih =>
    intro j acc hj ha
    have hwj := wsucc j (by omega)
    obtain ⟨a, e, hlt⟩ := nums_at hk j (by omega)
    have hal : acc.length ≤ j := by
      rw [ha, sel_length, List.length_take]
      omega
    refine Ev.step ?_ (fun k => impl_CoreOf.l1.eq_2 ..)
    rw [hwj, e]
    refine Ev.pos (by omega) (Ev.pos (by omega) (Ev.pos (by omega) (Ev.pos (by omega) (Ev.pos (by omega) (Ev.pos (by omega) (ih (j + 1) _ (by omega) ?_))))))
    rw [ha, ← e, List.take_add_one, sel_app, List.getElem?_eq_getElem (by omega : j < less.length), rd_lt (by omega : j < less.length)]
    rfl
theorem core_loop (n : Nat) (hn : n ≤ 20) (L : List (List Int)) (hL : AllLits n L) (hLl : L.length ≤ 2500) : ∀ (d i : Nat) (c : List Int), i + d = L.length → CoreInv L d i c →
    ∃ r, Ev (fun k => spec_CoreOf.l0 k c (sel L (c ++ upL d i)) (c.length : Int) (i : Int) (n : Int) L) r ∧ Ev (fun k => impl_CoreOf.l0 k (c ++ upL d i) (L.length : Int) (i : Int) (n : Int) L) r ∧ CoreInv L 0 L.length r := by
  intro d
  have hwn : wrap64 ((n : Int) + 1) = ((n + 1 : Nat) : Int) := wsucc n (by omega)
  induction d with
  | zero =>
    intro i c hi hI
    have : i = L.length := by omega
    subst this
    have hcl : c.length ≤ L.length := hI.len
    refine ⟨c, Ev.step (Ev.neg (by omega) (Ev.val _)) (fun k => spec_CoreOf.l0.eq_2 ..), Ev.step (Ev.neg (by omega) ?_) (fun k => impl_CoreOf.l0.eq_2 ..), hI⟩
    have hc : impl_clone_int.f (c ++ upL 0 L.length) = some c := by
      unfold impl_clone_int.f
      simp only [upL, List.append_nil]
      rw [if_pos (by omega)]
    exact Ev.bind (Ev.const hc) (Ev.val _)
  | succ d ih =>
    intro i c hi hI
    have hwi := wsucc i (by omega)
    have hcl : c.length ≤ i := hI.len
    have hwc := wsucc c.length (by omega)
    have hnums : Nums L.length (c ++ upL d (i + 1)) := by
      intro x hx
      rcases List.mem_append.mp hx with h | h
      · have := hI.nums x h
        omega
      · rw [mem_upL] at h
        omega
    have hll : (c ++ upL d (i + 1)).length ≤ 1048576 := by
      rw [List.length_append, upL_length]
      omega
    have hAL := sel_lits hL hnums hll
    obtain ⟨bo, o1, o2⟩ := open_dec n (by omega) _ hAL
    obtain ⟨bs, s1, s2⟩ := sat_dec n hn _ hAL
    have eqb : bs = bo := by
      cases bs <;> cases bo
      · rfl
      · exact absurd (s2.mpr (o2.mp rfl)) (by decide)
      · exact absurd (o2.mpr (s2.mp rfl)) (by decide)
      · rfl
    subst eqb
    have hless := less_eq c i d hI.nums
    have hw : Ev (fun k => spec_l12Without.f k (sel L (c ++ upL (d + 1) i)) (c.length : Int)) (sel L (c ++ upL d (i + 1))) := by
      have := without_at (sel L c) (sel L (upL d (i + 1))) (rd_L1 L (i : Int)) (by
        rw [List.length_append, List.length_cons, sel_length, sel_length, upL_length]
        omega)
      rw [sel_length] at this
      rw [sel_app, sel_app]
      exact this
    have hcln : slices_Clone_int_int.f (c ++ upL (d + 1) i) = some (c ++ upL (d + 1) i) := by
      unfold slices_Clone_int_int.f
      simp only [Option.bind_some, List.nil_append]
      rw [if_pos (by rw [List.length_append, upL_length]; simp; omega)]
    have hls : impl_CoreOf.less (c ++ upL (d + 1) i) (i : Int) = some (c ++ upL d (i + 1)) := by
      unfold impl_CoreOf.less
      rw [hless]
    have implr : ∀ r, Ev (fun k => if bs = true then impl_CoreOf.l0 k (c ++ upL (d + 1) i) (L.length : Int) ((i + 1 : Nat) : Int) (n : Int) L else impl_CoreOf.l0 k (c ++ upL d (i + 1)) (L.length : Int) ((i + 1 : Nat) : Int) (n : Int) L) r →
        Ev (fun k => impl_CoreOf.l0 k (c ++ upL (d + 1) i) (L.length : Int) (i : Int) (n : Int) L) r := by
      intro r hr
      refine Ev.step (Ev.pos (by omega) (Ev.bind (Ev.const hcln) (Ev.bind (Ev.const hls) ?_))) (fun k => impl_CoreOf.l0.eq_2 ..)
      refine build_loop L (n : Int) (L.length : Int) (i : Int) _ _ hnums hll r ?_ (c ++ upL d (i + 1)).length 0 [] (Nat.zero_add _) rfl
      rw [hwi]
      exact Ev.bind s1 hr
    have specr : ∀ r, Ev (fun k => if bs = true then (if c.length < 17592186044416 then spec_CoreOf.l0 k (c ++ [(i : Int)]) (sel L (c ++ upL (d + 1) i)) ((c.length + 1 : Nat) : Int) ((i + 1 : Nat) : Int) (n : Int) L else none) else spec_CoreOf.l0 k c (sel L (c ++ upL d (i + 1))) (c.length : Int) ((i + 1 : Nat) : Int) (n : Int) L) r →
        Ev (fun k => spec_CoreOf.l0 k c (sel L (c ++ upL (d + 1) i)) (c.length : Int) (i : Int) (n : Int) L) r := by
      intro r hr
      refine Ev.step (Ev.pos (by omega) (Ev.bind hw ?_)) (fun k => spec_CoreOf.l0.eq_2 ..)
      rw [hwn, Int.toNat_natCast, hwi, hwc]
      exact Ev.pos (by omega) (Ev.pos (by omega) (Ev.bind o1 hr))
    have esnoc : (c ++ [(i : Int)]) ++ upL d (i + 1) = c ++ upL (d + 1) i := by simp [upL]
    cases bs with
    | true =>
      obtain ⟨T, hT⟩ := s2.mp rfl
      rw [allT_sel] at hT
      have hI2 : CoreInv L d (i + 1) (c ++ [(i : Int)]) := by
        refine ⟨fun x hx => ?_, ?_, by simp; omega, ?_, fun x hx => ?_⟩
        · rcases List.mem_append.mp hx with h | h
          · have := hI.nums x h
            omega
          · have : x = (i : Int) := by simpa using h
            omega
        · rw [List.nodup_append]
          refine ⟨hI.once, by simp, fun a ha b hb => ?_⟩
          have := hI.nums a ha
          have : b = (i : Int) := by simpa using hb
          omega
        · rw [esnoc]
          exact hI.none
        · rw [esnoc]
          rcases List.mem_append.mp hx with h | h
          · exact hI.some x h
          · have e : x = (i : Int) := by simpa using h
            subst e
            refine ⟨T, fun y hy hne => hT y ?_⟩
            rcases List.mem_append.mp hy with h1 | h1
            · exact List.mem_append.mpr (.inl h1)
            · rw [mem_upL] at h1
              exact List.mem_append.mpr (.inr (by rw [mem_upL]; omega))
      obtain ⟨r, r1, r2, r3⟩ := ih (i + 1) (c ++ [(i : Int)]) (by omega) hI2
      rw [esnoc] at r1 r2
      rw [List.length_append, List.length_singleton] at r1
      exact ⟨r, specr r (Ev.pos rfl (Ev.pos (by omega) r1)), implr r (Ev.pos rfl r2), r3⟩
    | false =>
      have hno : ¬ ∃ T, AllT T (sel L (c ++ upL d (i + 1))) := fun h => absurd (s2.mpr h) (by decide)
      have hsub : ∀ y ∈ c ++ upL d (i + 1), y ∈ c ++ upL (d + 1) i := by
        intro y hy
        rcases List.mem_append.mp hy with h1 | h1
        · exact List.mem_append.mpr (.inl h1)
        · rw [mem_upL] at h1
          exact List.mem_append.mpr (.inr (by rw [mem_upL]; omega))
      have hI2 : CoreInv L d (i + 1) c := by
        refine ⟨fun x hx => ?_, hI.once, by omega, fun ⟨T, hT⟩ => hno ⟨T, allT_sel.mpr hT⟩, fun x hx => ?_⟩
        · have := hI.nums x hx
          omega
        · obtain ⟨T, hT⟩ := hI.some x hx
          exact ⟨T, fun y hy hne => hT y (hsub y hy) hne⟩
      obtain ⟨r, r1, r2, r3⟩ := ih (i + 1) c (by omega) hI2
      exact ⟨r, specr r (Ev.neg (by decide) r1), implr r (Ev.neg (by decide) r2), r3⟩
theorem sel_up (L : List (List Int)) : sel L (upL L.length 0) = L := by
  apply List.ext_getElem
  · rw [sel_length, upL_length]
  · intro j h1 h2
    have e1 := sel_at L (upL L.length 0) j (by rw [upL_length]; exact h2)
    rw [upL_at L.length 0 j h2, Nat.zero_add, rows_lt h1, rows_lt h2] at e1
    exact e1
/-- What both make: nothing, or a core. -/
theorem both_core (n : Int) (L : List (List Int)) (hL : Small L) :
    (¬ (FewOk n L ∧ ¬ ∃ T, AllT T L) ∧ Ev (fun k => spec_CoreOf.f k n L) [] ∧ Ev (fun k => impl_CoreOf.f k n L) []) ∨
    (FewOk n L ∧ (¬ ∃ T, AllT T L) ∧ ∃ r, Ev (fun k => spec_CoreOf.f k n L) r ∧ Ev (fun k => impl_CoreOf.f k n L) r ∧ CoreInv L 0 L.length r) := by
  obtain ⟨b, b1, b2⟩ := few_spec n L hL
  obtain ⟨b', b1', b2'⟩ := few_impl n L hL
  unfold spec_CoreOf.f impl_CoreOf.f
  by_cases h : FewOk n L
  · obtain rfl : b = true := b2.mpr h
    obtain rfl : b' = true := b2'.mpr h
    obtain ⟨m, rfl⟩ := Int.eq_ofNat_of_zero_le h.1.1.1
    have hm : m ≤ 20 := by have := h.2; omega
    have hAL := all_lits m L hL h.1
    obtain ⟨c, c1, c2⟩ := can_dec m (by omega) L hAL [] (by simp) (fun j hj => by simp at hj) (fun i j h1 h2 => by simp at h2)
    obtain ⟨s, s1, s2⟩ := sat_dec m hm L hAL
    by_cases hs : ∃ T, AllT T L
    · obtain rfl : s = true := s2.mpr hs
      obtain rfl : c = true := by
        obtain ⟨T, hT⟩ := hs
        exact c2.mpr ⟨T, hT, fun j hj => by simp at hj⟩
      refine .inl ⟨fun h2 => h2.2 hs, Ev.bind (Ev.val _) (Ev.bind b1 (Ev.pos rfl (Ev.bind c1 (Ev.step (Ev.pos rfl (Ev.val _)) (fun k => spec_CoreOf.j0.eq_2 ..))))), Ev.bind b1' (Ev.pos rfl (Ev.bind s1 (Ev.step (Ev.pos rfl (Ev.val _)) (fun k => impl_CoreOf.j0.eq_2 ..))))⟩
    · obtain rfl : s = false := by
        cases s with
        | false => rfl
        | true => exact absurd (s2.mp rfl) hs
      obtain rfl : c = false := by
        cases c with
        | false => rfl
        | true =>
          obtain ⟨T, hT, _⟩ := c2.mp rfl
          exact absurd ⟨T, hT⟩ hs
      have hI : CoreInv L L.length 0 [] := ⟨fun x hx => (by cases hx), List.nodup_nil, (by simp), fun ⟨T, hT⟩ => hs ⟨T, by
        rw [← sel_up L, allT_sel]
        exact hT⟩, fun x hx => by cases hx⟩
      have hl := h.1.2.1
      obtain ⟨r, r1, r2, r3⟩ := core_loop m hm L hAL hl L.length 0 [] (by omega) hI
      rw [List.nil_append, sel_up] at r1
      rw [List.nil_append] at r2
      refine .inr ⟨h, hs, r, Ev.bind (Ev.val _) (Ev.bind b1 (Ev.pos rfl (Ev.bind c1 (Ev.step (Ev.neg (by decide) r1) (fun k => spec_CoreOf.j0.eq_2 ..))))), Ev.bind b1' (Ev.pos rfl (Ev.bind s1 (Ev.step (Ev.neg (by decide) ?_) (fun k => impl_CoreOf.j0.eq_2 ..)))), r3⟩
      exact Ev.bind (numbered L.length (by omega)) r2
  · have e1 : b = false := by
      cases b with
      | false => rfl
      | true => exact absurd (b2.mp rfl) h
    have e2 : b' = false := by
      cases b' with
      | false => rfl
      | true => exact absurd (b2'.mp rfl) h
    subst e1
    subst e2
    exact .inl ⟨fun h2 => h h2.1, Ev.bind (Ev.val _) (Ev.bind b1 (Ev.neg (by decide) (Ev.step (Ev.pos rfl (Ev.val _)) (fun k => spec_CoreOf.j0.eq_2 ..)))), Ev.bind b1' (Ev.neg (by decide) (Ev.step (Ev.pos rfl (Ev.val _)) (fun k => impl_CoreOf.j0.eq_2 ..)))⟩
/-! #### marks: what is written into lists of numbers, and that it is held -/
theorem mark_ints_loop (n : Nat) (hn : n ≤ 1048576) : ∀ (d i : Nat) (ys : List Int), i + d = n → ys.length = n → (∀ j : Nat, j < i → rd ys (j : Int) = 1 + (j : Int)) →
    ∃ zs : List Int, zs.length = n ∧ (∀ j : Nat, j < n → rd zs (j : Int) = 1 + (j : Int)) ∧ Ev (fun k => laws_markIntS.l0 k ys (1 + (i : Int)) (i : Int)) (1 + (n : Int), zs) := by
  intro d
  induction d with
  | zero =>
    intro i ys hi hy h
    have : i = n := by omega
    subst this
    exact ⟨ys, hy, h, Ev.step (Ev.neg (by omega) (Ev.val _)) (fun k => laws_markIntS.l0.eq_2 ..)⟩
  | succ d ih =>
    intro i ys hi hy h
    have hwi := wsucc i (by omega)
    have hw : wrap64 (1 + (i : Int) + 1) = 1 + ((i + 1 : Nat) : Int) := by
      rw [w_id (by omega) (by omega)]
      omega
    obtain ⟨zs, h1, h2, h3⟩ := ih (i + 1) (ys.set i (1 + (i : Int))) (by omega) (by simpa using hy) (by
      intro j hj
      by_cases e : j = i
      · subst e
        rw [rd_set_eq (by omega)]
      · rw [rd_set_ne (by omega)]
        exact h j (by omega))
    refine ⟨zs, h1, h2, Ev.step ?_ (fun k => laws_markIntS.l0.eq_2 ..)⟩
    rw [hwi, hw, Int.toNat_natCast]
    exact Ev.pos (by omega) (Ev.pos (by omega) h3)
theorem held_ints_loop (n : Nat) (hn : n ≤ 1048576) (zs : List Int) (hz : zs.length = n) (h : ∀ j : Nat, j < n → rd zs (j : Int) = 1 + (j : Int)) : ∀ (d i : Nat), i + d = n →
    Ev (fun k => laws_heldIntS.l0 k zs (1 + (i : Int)) (i : Int)) (1 + (n : Int)) := by
  intro d
  induction d with
  | zero =>
    intro i hi
    have : i = n := by omega
    subst this
    exact Ev.step (Ev.neg (by omega) (Ev.val _)) (fun k => laws_heldIntS.l0.eq_2 ..)
  | succ d ih =>
    intro i hi
    have hwi := wsucc i (by omega)
    have hw : wrap64 (1 + (i : Int) + 1) = 1 + ((i + 1 : Nat) : Int) := by
      rw [w_id (by omega) (by omega)]
      omega
    refine Ev.step ?_ (fun k => laws_heldIntS.l0.eq_2 ..)
    rw [hwi, hw]
    exact Ev.pos (by omega) (Ev.pos (by omega) (Ev.pos (h i (by omega)) (ih (i + 1) (by omega))))
/-- What is marked is held. -/
theorem mark_held_ints (l : List Int) (hl : l.length ≤ 1048576) : ∃ zs : List Int, Ev (fun k => laws_markIntS.f k l 1) (1 + (l.length : Int), zs) ∧ Ev (fun k => laws_heldIntS.f k zs 1) (1 + (l.length : Int)) := by
  obtain ⟨zs, h1, h2, h3⟩ := mark_ints_loop l.length hl l.length 0 l (by omega) rfl (fun j hj => by omega)
  exact ⟨zs, h3, held_ints_loop l.length hl zs h1 h2 l.length 0 (by omega)⟩
theorem mark_any_loop (n : Nat) (hn : n ≤ 1048576) (a : Int) (ha : 0 ≤ a) (ha2 : a ≤ 4611686018427387904) : ∀ (d i : Nat) (ys : List Int), i + d = n → ys.length = n →
    ∃ zs : List Int, zs.length = n ∧ Ev (fun k => laws_markIntS.l0 k ys (a + (i : Int)) (i : Int)) (a + (n : Int), zs) := by
  intro d
  induction d with
  | zero =>
    intro i ys hi hy
    have : i = n := by omega
    subst this
    exact ⟨ys, hy, Ev.step (Ev.neg (by omega) (Ev.val _)) (fun k => laws_markIntS.l0.eq_2 ..)⟩
  | succ d ih =>
    intro i ys hi hy
    have hwi := wsucc i (by omega)
    have hw : wrap64 (a + (i : Int) + 1) = a + ((i + 1 : Nat) : Int) := by
      rw [w_id (by omega) (by omega)]
      omega
    obtain ⟨zs, h1, h3⟩ := ih (i + 1) (ys.set i (a + (i : Int))) (by omega) (by simpa using hy)
    refine ⟨zs, h1, Ev.step ?_ (fun k => laws_markIntS.l0.eq_2 ..)⟩
    rw [hwi, hw, Int.toNat_natCast]
    exact Ev.pos (by omega) (Ev.pos (by omega) h3)
theorem mark_any (l : List Int) (hl : l.length ≤ 1048576) (a : Int) (ha : 0 ≤ a) (ha2 : a ≤ 4611686018427387904) : ∃ zs : List Int, zs.length = l.length ∧ Ev (fun k => laws_markIntS.f k l a) (a + (l.length : Int), zs) := by
  obtain ⟨zs, h1, h2⟩ := mark_any_loop l.length hl a ha ha2 l.length 0 l (by omega) rfl
  refine ⟨zs, h1, ?_⟩
  have e : a + ((0 : Nat) : Int) = a := by omega
  rw [e] at h2
  exact h2
theorem mark_rows_loop (n : Nat) (hn : n ≤ 1048576) : ∀ (d i : Nat) (M : List (List Int)) (a : Int), i + d = n → M.length = n → (∀ j : Nat, j < n → (rd_L1 M (j : Int)).length ≤ 1048576) → 0 ≤ a → a ≤ 1 + (i : Int) * 1048576 →
    ∃ (z : Int) (zs : List (List Int)), Ev (fun k => laws_markIntSS.l0 k M a (i : Int)) (z, zs) ∧ 0 ≤ z ∧ z ≤ 1 + (n : Int) * 1048576 := by
  intro d
  induction d with
  | zero =>
    intro i M a hi hM hr h0 h1
    have : i = n := by omega
    subst this
    exact ⟨a, M, Ev.step (Ev.neg (by omega) (Ev.val _)) (fun k => laws_markIntSS.l0.eq_2 ..), h0, h1⟩
  | succ d ih =>
    intro i M a hi hM hr h0 h1
    have hwi := wsucc i (by omega)
    have hri := hr i (by omega)
    obtain ⟨zs, e1, e2⟩ := mark_any (rd_L1 M (i : Int)) hri a h0 (by omega)
    obtain ⟨z, Z, k1, k2, k3⟩ := ih (i + 1) (M.set i zs) (a + ((rd_L1 M (i : Int)).length : Int)) (by omega) (by rw [List.length_set]; exact hM) (fun j hj => by
      by_cases e : j = i
      · subst e
        rw [rows_lt (by rw [List.length_set]; omega), List.getElem_set_self]
        omega
      · rw [rows_lt (by rw [List.length_set]; omega), List.getElem_set_ne (by omega), ← rows_lt (by omega)]
        exact hr j hj) (by omega) (by omega)
    refine ⟨z, Z, Ev.step ?_ (fun k => laws_markIntSS.l0.eq_2 ..), k2, k3⟩
    rw [hwi, Int.toNat_natCast]
    exact Ev.pos (by omega) (Ev.pos (by omega) (Ev.bind e2 k1))
theorem mark_clauses (n : Int) (L : List (List Int)) (hL : Small L) : ∃ z : Int, Ev (fun k => laws_markClauses.f k n L 1) z ∧ 0 ≤ z ∧ z ≤ 1099511627777 := by
  obtain ⟨z, Z, k1, k2, k3⟩ := mark_rows_loop L.length hL.1 L.length 0 L 1 (by omega) rfl hL.2 (by omega) (by omega)
  have := hL.1
  refine ⟨z, ?_, k2, by omega⟩
  unfold laws_markClauses.f
  exact Ev.bind (a := (z, Z)) k1 (Ev.val _)

theorem core_both (n : Int) (L : List (List Int)) (hL : Small L) : ∃ out : List Int, Ev (fun k => spec_CoreOf.f k n L) out ∧ Ev (fun k => impl_CoreOf.f k n L) out ∧ out.length ≤ 1048576 := by
  rcases both_core n L hL with ⟨_, h1, h2⟩ | ⟨_, _, r, h1, h2, hI⟩
  · exact ⟨[], h1, h2, by simp⟩
  · exact ⟨r, h1, h2, Nat.le_trans hI.len hL.1⟩
theorem FnExactCoreOf : laws_FnExactCoreOf.Pure := by
  intro n L _ hL
  have hL1 : ∀ x ∈ L, x.length ≤ 9223372036854775807 := fun x hx => by have := (hL.2 x hx).1; rw [maxLen_val] at this; exact this
  apply Ev.get
  unfold laws_FnExactCoreOf.f
  obtain ⟨z, hz, hz1, hz2⟩ := sz_rows L 1048576 (by have := hL.1; rw [maxLen_val] at this; exact this) hL1 (by omega) (by omega)
  have hsz : Ev (fun k => laws_szClauses.f k n L 1048576) (if z < 0 then -1 else z) := by
    unfold laws_szClauses.f
    by_cases h : z < 0
    · rw [if_pos h]
      exact Ev.bind hz (Ev.pos h (Ev.val _))
    · rw [if_neg h]
      exact Ev.bind hz (Ev.neg h (Ev.val _))
  refine Ev.bind hsz ?_
  by_cases h0 : z < 0
  · rw [if_pos h0]
    exact Ev.pos (by omega) (Ev.val _)
  rw [if_neg h0]
  refine Ev.neg h0 ?_
  have sL : Small L := hz2 (by omega)
  have tL : Ev (fun k => laws_toClauses.f k n L) (n, L) := by
    unfold laws_toClauses.f
    exact Ev.bind (to_rows L sL.1 sL.2) (Ev.val _)
  have eL : Ev (fun k => laws_eqClauses.f k n L n L) true := by
    unfold laws_eqClauses.f
    exact Ev.pos rfl (Ev.bind (eq_rows L sL.1 sL.2) (Ev.pos rfl (Ev.val _)))
  obtain ⟨out, h1, h2, h3⟩ := core_both n L sL
  have eo := eq_ints out h3
  obtain ⟨m, m1, m2, m3⟩ := mark_clauses n L sL
  obtain ⟨zs, z1, z2⟩ := mark_held_ints out h3
  refine Ev.bind tL (Ev.bind h1 (Ev.bind tL (Ev.bind h2 (Ev.bind eo (Ev.pos rfl (Ev.bind tL (Ev.bind eL (Ev.pos rfl (Ev.bind m1 (Ev.neg (by omega) (Ev.bind eo (Ev.step ?_ (fun k => laws_FnExactCoreOf.j0.eq_2 ..)))))))))))))
  refine Ev.neg (by decide) (Ev.bind z1 (Ev.bind z2 (Ev.neg (by show ¬ 1 + (out.length : Int) < 0; omega) (Ev.pos rfl (Ev.bind tL (Ev.bind h2 (Ev.bind eo (Ev.pos rfl (Ev.bind z2 (Ev.neg (by show ¬ 1 + (out.length : Int) < 0; omega) (Ev.pos rfl (Ev.val _))))))))))))

end Go.Proofs.Ytkfmgfdbdgjfiaa.Pure
