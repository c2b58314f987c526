/- FnExactStepHolds: the program tells that a conclusion follows where the reference does, whatever is handed in, and changes none of it. -/
import Derived.Test.YtcmpngglnpjgdaaQFnExactStepHoldsx6
namespace Go.Proofs.Ytcmpngglnpjgdaa.Pure
open Go.RowKit Go.Proofs.Ytcmpngglnpjgdaa.QFnExactStepHolds Go.Proofs.YtcmpngglnpjgdaaW.PrintWords Go.Proofs.YtcmpngglnpjgdaaW.PrintLast Go.Proofs.YtcmpngglnpjgdaaW.PrintMore
set_option linter.unusedVariables false
set_option linter.unusedSimpArgs false

/-! #### rounds -/
/-- From some number of rounds on, g tells r. -/
def Ev {α : Type} (g : Nat → Option α) (r : α) : Prop := ∃ K, ∀ k, K ≤ k → g k = some r
theorem Ev.val {α : Type} (r : α) : Ev (fun _ => some r) r := ⟨0, fun _ _ => rfl⟩
theorem Ev.valEq {α : Type} {r r' : α} (h : r = r') : Ev (fun _ => some r) r' := ⟨0, fun _ _ => by rw [h]⟩
theorem Ev.const {α : Type} {g : Option α} {r : α} (h : g = some r) : Ev (fun _ => g) r := ⟨0, fun _ _ => h⟩
theorem Ev.bind {α β : Type} {g : Nat → Option α} {f : Nat → α → Option β} {a : α} {b : β} (h : Ev g a) (h2 : Ev (fun k => f k a) b) : Ev (fun k => (g k).bind (f k)) b := by
  obtain ⟨K, hK⟩ := h
  obtain ⟨L, hL⟩ := h2
  exact ⟨max K L, fun k hk => by show (g k).bind (f k) = _; rw [hK k (by omega)]; exact hL k (by omega)⟩
theorem Ev.step {α : Type} {g g' : Nat → Option α} {r : α} (h : Ev g' r) (e : ∀ k, g (k + 1) = g' k) : Ev g r := by
  obtain ⟨K, hK⟩ := h
  exact ⟨K + 1, fun k hk => by
    obtain ⟨m, rfl⟩ : ∃ m, k = m + 1 := ⟨k - 1, by omega⟩
    rw [e]
    exact hK m (by omega)⟩
theorem Ev.eq {α : Type} {g g' : Nat → Option α} {r : α} (h : Ev g' r) (e : ∀ k, g k = g' k) : Ev g r := by
  obtain ⟨K, hK⟩ := h
  exact ⟨K, fun k hk => by rw [e]; exact hK k hk⟩
theorem Ev.pos {α : Type} {c : Prop} [Decidable c] {g g' : Nat → Option α} {r : α} (hc : c) (h : Ev g r) : Ev (fun k => if c then g k else g' k) r := by
  obtain ⟨K, hK⟩ := h
  exact ⟨K, fun k hk => by simp only [if_pos hc]; exact hK k hk⟩
theorem Ev.neg {α : Type} {c : Prop} [Decidable c] {g g' : Nat → Option α} {r : α} (hc : ¬ c) (h : Ev g' r) : Ev (fun k => if c then g k else g' k) r := by
  obtain ⟨K, hK⟩ := h
  exact ⟨K, fun k hk => by simp only [if_neg hc]; exact hK k hk⟩
theorem Ev.exStep {α β : Type} {g g' : Nat → Option α} {f : β → α} (h : ∃ r, Ev g' (f r)) (e : ∀ k, g (k + 1) = g' k) : ∃ r, Ev g (f r) := by
  obtain ⟨r, h⟩ := h
  exact ⟨r, Ev.step h e⟩
theorem Ev.exPos {α β : Type} {c : Prop} [Decidable c] {g g' : Nat → Option α} {f : β → α} (hc : c) (h : ∃ r, Ev g (f r)) : ∃ r, Ev (fun k => if c then g k else g' k) (f r) := by
  obtain ⟨r, h⟩ := h
  exact ⟨r, Ev.pos hc h⟩
theorem Ev.get {α : Type} {g : Nat → Option α} {r : α} (h : Ev g r) : ∃ k, g k = some r := by
  obtain ⟨K, hK⟩ := h
  exact ⟨K, hK K (Nat.le_refl _)⟩
theorem Ev.to {α : Type} {g : Nat → Option α} {r r' : α} (h : Ev g r) (e : r = r') : Ev g r' := e ▸ h

/-! #### numbers -/
theorem w_id {x : Int} (h0 : -9223372036854775808 ≤ x) (h1 : x ≤ 9223372036854775807) : wrap64 x = x := by
  unfold wrap64
  omega
theorem wf_i64 {x : Int} (h : (Lit.int .i64 x).wf = true) : -9223372036854775808 ≤ x ∧ x ≤ 9223372036854775807 := by
  simp [Lit.wf, IntKind.min, IntKind.max, IntKind.signed, IntKind.bits] at h
  omega

/-! #### lists -/
theorem rd_nat (l : List Int) (i : Nat) : rd l (i : Int) = l.getD i 0 := by
  unfold rd
  rw [Int.toNat_natCast]
theorem getD_lt {α : Type} {l : List α} {i : Nat} (h : i < l.length) (d : α) : l.getD i d = l[i] := by
  rw [List.getD_eq_getElem?_getD, List.getElem?_eq_getElem h]
  rfl
theorem rd_lt {l : List Int} {i : Nat} (h : i < l.length) : rd l (i : Int) = l[i] := by rw [rd_nat, getD_lt h]
theorem rd_set_eq {l : List Int} {i : Nat} {v : Int} (h : i < l.length) : rd (l.set i v) (i : Int) = v := by
  rw [rd_lt (by simpa using h)]
  simp
theorem rd_set_ne {l : List Int} {i j : Nat} {v : Int} (h : i ≠ j) : rd (l.set i v) (j : Int) = rd l (j : Int) := by
  rw [rd_nat, rd_nat, List.getD_eq_getElem?_getD, List.getD_eq_getElem?_getD, List.getElem?_set_ne h]
theorem rd_app_lt {l m : List Int} {j : Nat} (h : j < l.length) : rd (l ++ m) (j : Int) = rd l (j : Int) := by
  rw [rd_nat, rd_nat, List.getD_eq_getElem?_getD, List.getD_eq_getElem?_getD, List.getElem?_append_left h]
theorem rd_app_eq {l : List Int} {v : Int} : rd (l ++ [v]) (l.length : Int) = v := by
  rw [rd_nat, List.getD_eq_getElem?_getD, List.getElem?_append_right (Nat.le_refl _)]
  simp
theorem list_eq_rd {l m : List Int} (hl : l.length = m.length) (h : ∀ j : Nat, j < l.length → rd l (j : Int) = rd m (j : Int)) : l = m := by
  apply List.ext_getElem hl
  intro i h1 h2
  rw [← rd_lt h1, ← rd_lt h2]
  exact h i h1
theorem wsucc (i : Nat) (h : i ≤ 4611686018427387904) : wrap64 ((i : Int) + 1) = ((i + 1 : Nat) : Int) := by
  unfold wrap64
  omega

/-- g tells in the end whether p is so. -/
def Dec (g : Nat → Option Bool) (p : Prop) : Prop := ∃ b, Ev g b ∧ (b = true ↔ p)
theorem Dec.yes {g : Nat → Option Bool} {p : Prop} (h : Ev g true) (hp : p) : Dec g p := ⟨true, h, by simp [hp]⟩
theorem Dec.no {g : Nat → Option Bool} {p : Prop} (h : Ev g false) (hp : ¬ p) : Dec g p := ⟨false, h, by simp [hp]⟩
theorem Dec.same {g g' : Nat → Option Bool} {p : Prop} (h : Dec g p) (h' : Dec g' p) : ∃ b, Ev g b ∧ Ev g' b ∧ (b = true ↔ p) := by
  obtain ⟨b, h1, h2⟩ := h
  obtain ⟨b', h3, h4⟩ := h'
  have : b = b' := by
    rw [Bool.eq_iff_iff, h2, h4]
  subst this
  exact ⟨b, h1, h3, h2⟩
theorem Dec.iff {g : Nat → Option Bool} {p q : Prop} (h : Dec g p) (e : p ↔ q) : Dec g q := by
  obtain ⟨b, h1, h2⟩ := h
  exact ⟨b, h1, h2.trans e⟩
theorem all_from {P : Nat → Prop} {i n : Nat} (hi : i < n) : (∀ j, i ≤ j → j < n → P j) ↔ P i ∧ ∀ j, i + 1 ≤ j → j < n → P j := by
  constructor
  · intro h
    exact ⟨h i (Nat.le_refl _) hi, fun j h1 h2 => h j (by omega) h2⟩
  · rintro ⟨h1, h2⟩ j h3 h4
    rcases Nat.lt_or_eq_of_le h3 with h | rfl
    · exact h2 j h h4
    · exact h1
theorem all_none {P : Nat → Prop} {i n : Nat} (hi : n ≤ i) : ∀ j, i ≤ j → j < n → P j := fun j h1 h2 => by omega

/-! #### it tells something, of which P holds -/
def Tot {α : Type} (g : Nat → Option α) (P : α → Prop) : Prop := ∃ r, Ev g r ∧ P r
theorem Tot.of {α : Type} {g : Nat → Option α} {P : α → Prop} {r : α} (h : Ev g r) (hp : P r) : Tot g P := ⟨r, h, hp⟩
theorem Tot.val {α : Type} {P : α → Prop} {r : α} (h : P r) : Tot (fun _ => some r) P := ⟨r, Ev.val r, h⟩
theorem Tot.mono {α : Type} {g : Nat → Option α} {P Q : α → Prop} (h : Tot g P) (hq : ∀ r, P r → Q r) : Tot g Q := by
  obtain ⟨r, h1, h2⟩ := h
  exact ⟨r, h1, hq r h2⟩
theorem Tot.step {α : Type} {g g' : Nat → Option α} {P : α → Prop} (h : Tot g' P) (e : ∀ k, g (k + 1) = g' k) : Tot g P := by
  obtain ⟨r, h1, h2⟩ := h
  exact ⟨r, Ev.step h1 e, h2⟩
theorem Tot.bind {α β : Type} {g : Nat → Option α} {f : Nat → α → Option β} {Q : α → Prop} {P : β → Prop} (h : Tot g Q) (h2 : ∀ a, Q a → Tot (fun k => f k a) P) : Tot (fun k => (g k).bind (f k)) P := by
  obtain ⟨a, ha, hq⟩ := h
  obtain ⟨r, h1, h3⟩ := h2 a hq
  exact ⟨r, Ev.bind ha h1, h3⟩
theorem Tot.pos {α : Type} {c : Prop} [Decidable c] {g g' : Nat → Option α} {P : α → Prop} (hc : c) (h : Tot g P) : Tot (fun k => if c then g k else g' k) P := by
  obtain ⟨r, h1, h2⟩ := h
  exact ⟨r, Ev.pos hc h1, h2⟩
theorem Tot.neg {α : Type} {c : Prop} [Decidable c] {g g' : Nat → Option α} {P : α → Prop} (hc : ¬ c) (h : Tot g' P) : Tot (fun k => if c then g k else g' k) P := by
  obtain ⟨r, h1, h2⟩ := h
  exact ⟨r, Ev.neg hc h1, h2⟩
theorem Tot.ite {α : Type} {c : Prop} [Decidable c] {g g' : Nat → Option α} {P : α → Prop} (h1 : c → Tot g P) (h2 : ¬ c → Tot g' P) : Tot (fun k => if c then g k else g' k) P := by
  by_cases hc : c
  · exact Tot.pos hc (h1 hc)
  · exact Tot.neg hc (h2 hc)

/-! #### rows of whole numbers: sizes, copies, comparisons -/
theorem maxLen_val : maxLen = 9223372036854775807 := by decide
theorem rows_nat (l : List (List Int)) (i : Nat) : rd_L1 l (i : Int) = l.getD i [] := by
  unfold rd_L1
  rw [Int.toNat_natCast]
theorem rows_lt {l : List (List Int)} {i : Nat} (h : i < l.length) : rd_L1 l (i : Int) = l[i] := by rw [rows_nat, getD_lt h]
theorem rows_mem {l : List (List Int)} {i : Nat} (h : i < l.length) : rd_L1 l (i : Int) ∈ l := by
  rw [rows_lt h]
  exact List.getElem_mem h
theorem rows_app_lt {l m : List (List Int)} {j : Nat} (h : j < l.length) : rd_L1 (l ++ m) (j : Int) = rd_L1 l (j : Int) := by
  rw [rows_nat, rows_nat, List.getD_eq_getElem?_getD, List.getD_eq_getElem?_getD, List.getElem?_append_left h]
theorem rows_app_eq {l : List (List Int)} {v : List Int} : rd_L1 (l ++ [v]) (l.length : Int) = v := by
  rw [rows_nat, List.getD_eq_getElem?_getD, List.getElem?_append_right (Nat.le_refl _)]
  simp
theorem sz_ints (l : List Int) (a : Int) (hl : l.length ≤ 9223372036854775807) (ha0 : 0 ≤ a) (ha : a ≤ 1048576) :
    Tot (fun _ => laws_szIntS.f l a) (fun r => r ≤ a ∧ (0 ≤ r → (l.length : Int) ≤ a)) := by
  have w1 : wrap64 (a - (l.length : Int)) = a - (l.length : Int) := w_id (by omega) (by omega)
  unfold laws_szIntS.f
  rw [w1]
  exact Tot.ite (fun h => Tot.val ⟨by omega, by omega⟩) (fun h => Tot.val ⟨by omega, by omega⟩)
theorem sz_rows_loop (l : List (List Int)) (hl : l.length ≤ 1048576) (hr : ∀ x ∈ l, x.length ≤ 9223372036854775807) : ∀ (d i : Nat) (a : Int), i + d = l.length → 0 ≤ a → a ≤ 1048576 →
    Tot (fun k => laws_szIntSS.l0 k l a (i : Int)) (fun r => r ≤ a ∧ (0 ≤ r → ∀ j : Nat, i ≤ j → j < l.length → ((rd_L1 l (j : Int)).length : Int) ≤ a)) := by
  intro d
  induction d with
  | zero =>
    intro i a hi h0 h1
    exact Tot.step (Tot.neg (by omega) (Tot.val ⟨by omega, fun _ j h1 h2 => by omega⟩)) (fun k => laws_szIntSS.l0.eq_2 ..)
  | succ d ih =>
    intro i a hi h0 h1
    have hwi := wsucc i (by omega)
    refine Tot.step (Tot.pos (by omega) (Tot.pos (by omega) (Tot.bind (sz_ints (rd_L1 l (i : Int)) a (hr _ (rows_mem (by omega))) h0 h1) ?_))) (fun k => laws_szIntSS.l0.eq_2 ..)
    rintro t ⟨t1, t2⟩
    refine Tot.ite (fun h => Tot.val ⟨by omega, by omega⟩) (fun h => ?_)
    rw [hwi]
    refine (ih (i + 1) t (by omega) (by omega) (by omega)).mono ?_
    rintro r ⟨r1, r2⟩
    refine ⟨by omega, fun hr0 j j1 j2 => ?_⟩
    rcases Nat.lt_or_eq_of_le j1 with j3 | rfl
    · have := r2 hr0 j j3 j2
      omega
    · exact t2 (by omega)
theorem sz_rows (l : List (List Int)) (a : Int) (hl : l.length ≤ 9223372036854775807) (hr : ∀ x ∈ l, x.length ≤ 9223372036854775807) (ha0 : 0 ≤ a) (ha : a ≤ 1048576) :
    Tot (fun k => laws_szIntSS.f k l a) (fun r => r ≤ a ∧ (0 ≤ r → l.length ≤ 1048576 ∧ ∀ j : Nat, j < l.length → (rd_L1 l (j : Int)).length ≤ 1048576)) := by
  have w1 : wrap64 (a - (l.length : Int)) = a - (l.length : Int) := w_id (by omega) (by omega)
  unfold laws_szIntSS.f
  rw [w1]
  refine Tot.ite (fun h => Tot.val ⟨by omega, by omega⟩) (fun h => ?_)
  refine (sz_rows_loop l (by omega) hr l.length 0 (a - (l.length : Int)) (by omega) (by omega) (by omega)).mono ?_
  rintro r ⟨r1, r2⟩
  exact ⟨by omega, fun h0 => ⟨by omega, fun j hj => by have := r2 h0 j (by omega) hj; omega⟩⟩
/-- The copy up to i. -/
theorem to_ints_loop (l : List Int) (hl : l.length ≤ 1048576) : ∀ (d i : Nat) (ys : List Int), i + d = l.length → ys.length = l.length → (∀ j : Nat, j < i → rd ys (j : Int) = rd l (j : Int)) →
    Ev (fun k => laws_toIntS.l0 k l ys (i : Int)) l := by
  intro d
  induction d with
  | zero =>
    intro i ys hi hy h
    refine Ev.step (Ev.neg (by omega) (Ev.valEq ?_)) (fun k => laws_toIntS.l0.eq_2 ..)
    exact list_eq_rd hy (fun j hj => h j (by omega))
  | succ d ih =>
    intro i ys hi hy h
    have hwi := wsucc i (by omega)
    refine Ev.step (Ev.pos (by omega) (Ev.pos (by omega) (Ev.pos (by omega) ?_))) (fun k => laws_toIntS.l0.eq_2 ..)
    rw [hwi, Int.toNat_natCast]
    refine ih (i + 1) _ (by omega) (by simpa using hy) ?_
    intro j hj
    by_cases e : j = i
    · subst e
      rw [rd_set_eq (by omega)]
    · rw [rd_set_ne (by omega)]
      exact h j (by omega)
theorem to_ints (l : List Int) (hl : l.length ≤ 1048576) : Ev (fun k => laws_toIntS.f k l) l := by
  unfold laws_toIntS.f
  rw [Int.toNat_natCast]
  exact Ev.pos (by omega) (Ev.pos (by omega) (to_ints_loop l hl l.length 0 _ (by omega) (by simp) (fun j hj => by omega)))
theorem to_rows_loop (l : List (List Int)) (hl : l.length ≤ 1048576) (hr : ∀ j : Nat, j < l.length → (rd_L1 l (j : Int)).length ≤ 1048576) : ∀ (d i : Nat) (ys : List (List Int)), i + d = l.length → ys.length = l.length → (∀ j : Nat, j < i → rd_L1 ys (j : Int) = rd_L1 l (j : Int)) →
    Ev (fun k => laws_toIntSS.l0 k l ys (i : Int)) l := by
  intro d
  induction d with
  | zero =>
    intro i ys hi hy h
    refine Ev.step (Ev.neg (by omega) (Ev.valEq ?_)) (fun k => laws_toIntSS.l0.eq_2 ..)
    apply List.ext_getElem hy
    intro j h1 h2
    rw [← rows_lt h1, ← rows_lt h2]
    exact h j (by omega)
  | succ d ih =>
    intro i ys hi hy h
    have hwi := wsucc i (by omega)
    refine Ev.step (Ev.pos (by omega) (Ev.pos (by omega) (Ev.bind (to_ints _ (hr i (by omega))) (Ev.pos (by omega) ?_)))) (fun k => laws_toIntSS.l0.eq_2 ..)
    rw [hwi, Int.toNat_natCast]
    refine ih (i + 1) _ (by omega) (by simpa using hy) ?_
    intro j hj
    by_cases e : j = i
    · subst e
      rw [rows_lt (by simp; omega)]
      simp
    · rw [rows_nat, List.getD_eq_getElem?_getD, List.getElem?_set_ne (by omega), ← List.getD_eq_getElem?_getD, ← rows_nat]
      exact h j (by omega)
theorem to_rows (l : List (List Int)) (hl : l.length ≤ 1048576) (hr : ∀ j : Nat, j < l.length → (rd_L1 l (j : Int)).length ≤ 1048576) : Ev (fun k => laws_toIntSS.f k l) l := by
  unfold laws_toIntSS.f
  rw [Int.toNat_natCast]
  exact Ev.pos (by omega) (Ev.pos (by omega) (to_rows_loop l hl hr l.length 0 _ (by omega) (by simp) (fun j hj => by omega)))
theorem eq_ints_loop (l : List Int) (hl : l.length ≤ 1048576) : ∀ (d i : Nat), i + d = l.length → Ev (fun k => laws_eqIntS.l0 k l l (i : Int)) true := by
  intro d
  induction d with
  | zero =>
    intro i hi
    exact Ev.step (Ev.neg (by omega) (Ev.val _)) (fun k => laws_eqIntS.l0.eq_2 ..)
  | succ d ih =>
    intro i hi
    have hwi := wsucc i (by omega)
    refine Ev.step ?_ (fun k => laws_eqIntS.l0.eq_2 ..)
    rw [hwi]
    exact Ev.pos (by omega) (Ev.pos (by omega) (Ev.pos (by omega) (Ev.pos rfl (ih (i + 1) (by omega)))))
theorem eq_ints (l : List Int) (hl : l.length ≤ 1048576) : Ev (fun k => laws_eqIntS.f k l l) true := by
  unfold laws_eqIntS.f
  exact Ev.pos rfl (eq_ints_loop l hl l.length 0 (by omega))
theorem eq_rows_loop (l : List (List Int)) (hl : l.length ≤ 1048576) (hr : ∀ j : Nat, j < l.length → (rd_L1 l (j : Int)).length ≤ 1048576) : ∀ (d i : Nat), i + d = l.length → Ev (fun k => laws_eqIntSS.l0 k l l (i : Int)) true := by
  intro d
  induction d with
  | zero =>
    intro i hi
    exact Ev.step (Ev.neg (by omega) (Ev.val _)) (fun k => laws_eqIntSS.l0.eq_2 ..)
  | succ d ih =>
    intro i hi
    have hwi := wsucc i (by omega)
    refine Ev.step ?_ (fun k => laws_eqIntSS.l0.eq_2 ..)
    rw [hwi]
    exact Ev.pos (by omega) (Ev.pos (by omega) (Ev.pos (by omega) (Ev.bind (eq_ints _ (hr i (by omega))) (Ev.pos rfl (ih (i + 1) (by omega))))))
theorem eq_rows (l : List (List Int)) (hl : l.length ≤ 1048576) (hr : ∀ j : Nat, j < l.length → (rd_L1 l (j : Int)).length ≤ 1048576) : Ev (fun k => laws_eqIntSS.f k l l) true := by
  unfold laws_eqIntSS.f
  exact Ev.pos rfl (eq_rows_loop l hl hr l.length 0 (by omega))

/-! #### clauses -/
theorem wneg {x : Int} (h0 : -9223372036854775807 ≤ x) (h1 : x ≤ 9223372036854775807) : wrap64 (-x) = -x := w_id (by omega) (by omega)
/-- The atom of a literal. -/
def AbsI (x : Int) : Int := if x < 0 then -x else x
theorem absI_pos (x : Int) : 0 ≤ AbsI x := by unfold AbsI; split <;> omega
theorem spec_abs {x : Int} (h0 : -9223372036854775807 ≤ x) (h1 : x ≤ 9223372036854775807) : Ev (fun _ => spec_l11Abs.f x) (AbsI x) := by
  unfold spec_l11Abs.f AbsI
  by_cases h : x < 0
  · exact Ev.pos h (Ev.valEq (by rw [wneg h0 h1, if_pos h]))
  · exact Ev.neg h (Ev.valEq (by rw [if_neg h]))
theorem impl_abs {x : Int} (h0 : -9223372036854775807 ≤ x) (h1 : x ≤ 9223372036854775807) : Ev (fun _ => impl_atomOf.f x) (AbsI x) := by
  unfold impl_atomOf.f
  rw [wneg h0 h1]
  refine Ev.valEq ?_
  unfold mx AbsI
  split <;> split <;> omega
theorem in_dec {x a b : Int} : Ev (fun _ => impl_in.f x a b) (decide (a ≤ x ∧ x ≤ b)) := by
  unfold impl_in.f
  by_cases h : x ≥ a
  · refine Ev.pos h (Ev.valEq ?_)
    simp only [decide_eq_decide]
    omega
  · refine Ev.neg h (Ev.valEq ?_)
    symm
    rw [decide_eq_false_iff_not]
    omega
theorem sin_dec {x a b : Int} : Ev (fun _ => spec_l1In.f x a b) (decide (a ≤ x ∧ x ≤ b)) := by
  unfold spec_l1In.f
  by_cases h : x ≥ a
  · refine Ev.pos h (Ev.valEq ?_)
    simp only [decide_eq_decide]
    omega
  · refine Ev.neg h (Ev.valEq ?_)
    symm
    rw [decide_eq_false_iff_not]
    omega
/-- A literal of n atoms. -/
def LitOk (n x : Int) : Prop := x ≠ 0 ∧ -n ≤ x ∧ x ≤ n
instance (n x : Int) : Decidable (LitOk n x) := by unfold LitOk; infer_instance
theorem spec_lit {n x : Int} (hn : -9223372036854775807 ≤ n) (hn2 : n ≤ 9223372036854775807) : Ev (fun _ => spec_l11Lit.f x n) (decide (LitOk n x)) := by
  unfold spec_l11Lit.f
  by_cases h : x = 0
  · exact Ev.pos h (Ev.valEq (by symm; rw [decide_eq_false_iff_not]; exact fun h1 => h1.1 h))
  · rw [wneg hn hn2]
    refine Ev.neg h (Ev.bind sin_dec (Ev.valEq ?_))
    simp only [decide_eq_decide]
    unfold LitOk
    omega
/-- Place j of a clause of n atoms. -/
def PlaceOk (n : Int) (c : List Int) (j : Nat) : Prop := LitOk n (rd c (j : Int)) ∧ (0 < j → AbsI (rd c ((j - 1 : Nat) : Int)) < AbsI (rd c (j : Int)))
def ClauseOk (n : Int) (c : List Int) : Prop := (0 ≤ n ∧ n ≤ 700) ∧ ∀ j : Nat, j < c.length → PlaceOk n c j
theorem spec_clause_loop (n : Int) (hn : 0 ≤ n ∧ n ≤ 700) (c : List Int) (hc : c.length ≤ 1048576) : ∀ (d i : Nat), i + d = c.length → (∀ j : Nat, j < i → PlaceOk n c j) →
    Dec (fun k => spec_ClauseValid.l0 k c n (i : Int)) (∀ j : Nat, i ≤ j → j < c.length → PlaceOk n c j) := by
  intro d
  induction d with
  | zero =>
    intro i hi hp
    refine Dec.yes (Ev.step (Ev.neg (by omega) (Ev.bind sin_dec (Ev.valEq ?_))) (fun k => spec_ClauseValid.l0.eq_2 ..)) (all_none (by omega))
    simp [hn]
  | succ d ih =>
    intro i hi hp
    have hwi := wsucc i (by omega)
    have hlt : i < c.length := by omega
    by_cases h : LitOk n (rd c (i : Int))
    · by_cases h0 : 0 < i
      · have hw : wrap64 ((i : Int) - 1) = ((i - 1 : Nat) : Int) := by rw [w_id (by omega) (by omega)]; omega
        have hq := (hp (i - 1) (by omega)).1
        by_cases h2 : AbsI (rd c (i : Int)) ≤ AbsI (rd c ((i - 1 : Nat) : Int))
        · refine Dec.no (Ev.step ?_ (fun k => spec_ClauseValid.l0.eq_2 ..)) (fun h3 => ?_)
          · rw [hwi, hw]
            refine Ev.pos (by omega) (Ev.pos (by omega) (Ev.bind (spec_lit (by omega) (by omega)) (Ev.pos (by simpa using h) (Ev.pos (by omega) (Ev.bind (spec_abs (by have := h.2; omega) (by have := h.2; omega)) (Ev.pos (by omega) (Ev.pos (by omega) (Ev.bind (spec_abs (by have := hq.2; omega) (by have := hq.2; omega)) (Ev.pos h2 (Ev.val _))))))))))
          · have := (h3 i (Nat.le_refl _) hlt).2 h0
            omega
        · obtain ⟨b, hb, hbi⟩ := ih (i + 1) (by omega) (fun j hj => by
            rcases Nat.lt_succ_iff_lt_or_eq.mp hj with h5 | rfl
            · exact hp j h5
            · exact ⟨h, fun _ => by omega⟩)
          refine ⟨b, Ev.step ?_ (fun k => spec_ClauseValid.l0.eq_2 ..), ?_⟩
          · rw [hwi, hw]
            refine Ev.pos (by omega) (Ev.pos (by omega) (Ev.bind (spec_lit (by omega) (by omega)) (Ev.pos (by simpa using h) (Ev.pos (by omega) (Ev.bind (spec_abs (by have := h.2; omega) (by have := h.2; omega)) (Ev.pos (by omega) (Ev.pos (by omega) (Ev.bind (spec_abs (by have := hq.2; omega) (by have := hq.2; omega)) (Ev.neg h2 hb)))))))))
          · rw [hbi, all_from (P := PlaceOk n c) hlt]
            exact ⟨fun h3 => ⟨⟨h, fun _ => by omega⟩, h3⟩, fun h3 => h3.2⟩
      · obtain ⟨b, hb, hbi⟩ := ih (i + 1) (by omega) (fun j hj => by
          rcases Nat.lt_succ_iff_lt_or_eq.mp hj with h5 | rfl
          · exact hp j h5
          · exact ⟨h, fun h6 => absurd h6 h0⟩)
        refine ⟨b, Ev.step ?_ (fun k => spec_ClauseValid.l0.eq_2 ..), ?_⟩
        · rw [hwi]
          exact Ev.pos (by omega) (Ev.pos (by omega) (Ev.bind (spec_lit (by omega) (by omega)) (Ev.pos (by simpa using h) (Ev.neg (by omega) hb))))
        · rw [hbi, all_from (P := PlaceOk n c) hlt]
          exact ⟨fun h3 => ⟨⟨h, fun h6 => absurd h6 h0⟩, h3⟩, fun h3 => h3.2⟩
    · refine Dec.no (Ev.step (Ev.pos (by omega) (Ev.pos (by omega) (Ev.bind (spec_lit (by omega) (by omega)) (Ev.neg (by simpa using h) (Ev.val _))))) (fun k => spec_ClauseValid.l0.eq_2 ..)) (fun h3 => h (h3 i (Nat.le_refl _) hlt).1)
theorem impl_clause_loop (n : Int) (hn : 0 ≤ n ∧ n ≤ 700) (c : List Int) (hc : c.length ≤ 1048576) : ∀ (d i : Nat), i + d = c.length → (∀ j : Nat, j < i → PlaceOk n c j) →
    Dec (fun k => impl_ClauseValid.l0 k c n c (c.length : Int) (i : Int)) (∀ j : Nat, i ≤ j → j < c.length → PlaceOk n c j) := by
  intro d
  have hwn := wneg (x := n) (by omega) (by omega)
  induction d with
  | zero =>
    intro i hi hp
    exact Dec.yes (Ev.step (Ev.neg (by omega) (Ev.val _)) (fun k => impl_ClauseValid.l0.eq_2 ..)) (all_none (by omega))
  | succ d ih =>
    intro i hi hp
    have hwi := wsucc i (by omega)
    have hlt : i < c.length := by omega
    by_cases hr : -n ≤ rd c (i : Int) ∧ rd c (i : Int) ≤ n
    · by_cases hz : rd c (i : Int) = 0
      · refine Dec.no (Ev.step ?_ (fun k => impl_ClauseValid.l0.eq_2 ..)) (fun h3 => (h3 i (Nat.le_refl _) hlt).1.1 hz)
        rw [hwn]
        exact Ev.pos (by omega) (Ev.pos (by omega) (Ev.pos (by omega) (Ev.bind in_dec (Ev.pos (by simpa using hr) (Ev.pos hz (Ev.val _))))))
      · have h : LitOk n (rd c (i : Int)) := ⟨hz, hr⟩
        by_cases h0 : 0 < i
        · have hw : wrap64 ((i : Int) - 1) = ((i - 1 : Nat) : Int) := by rw [w_id (by omega) (by omega)]; omega
          have hq := (hp (i - 1) (by omega)).1
          by_cases h2 : AbsI (rd c ((i - 1 : Nat) : Int)) ≥ AbsI (rd c (i : Int))
          · refine Dec.no (Ev.step ?_ (fun k => impl_ClauseValid.l0.eq_2 ..)) (fun h3 => ?_)
            · rw [hwi, hw, hwn]
              exact Ev.pos (by omega) (Ev.pos (by omega) (Ev.pos (by omega) (Ev.bind in_dec (Ev.pos (by simpa using hr) (Ev.neg hz (Ev.pos (by omega) (Ev.pos (by omega) (Ev.pos (by omega) (Ev.bind (impl_abs (by have := hq.2; omega) (by have := hq.2; omega)) (Ev.bind (impl_abs (by have := h.2; omega) (by have := h.2; omega)) (Ev.pos h2 (Ev.val _))))))))))))
            · have := (h3 i (Nat.le_refl _) hlt).2 h0
              omega
          · obtain ⟨b, hb, hbi⟩ := ih (i + 1) (by omega) (fun j hj => by
              rcases Nat.lt_succ_iff_lt_or_eq.mp hj with h5 | rfl
              · exact hp j h5
              · exact ⟨h, fun _ => by omega⟩)
            refine ⟨b, Ev.step ?_ (fun k => impl_ClauseValid.l0.eq_2 ..), ?_⟩
            · rw [hwi, hw, hwn]
              exact Ev.pos (by omega) (Ev.pos (by omega) (Ev.pos (by omega) (Ev.bind in_dec (Ev.pos (by simpa using hr) (Ev.neg hz (Ev.pos (by omega) (Ev.pos (by omega) (Ev.pos (by omega) (Ev.bind (impl_abs (by have := hq.2; omega) (by have := hq.2; omega)) (Ev.bind (impl_abs (by have := h.2; omega) (by have := h.2; omega)) (Ev.neg h2 hb)))))))))))
            · rw [hbi, all_from (P := PlaceOk n c) hlt]
              exact ⟨fun h3 => ⟨⟨h, fun _ => by omega⟩, h3⟩, fun h3 => h3.2⟩
        · obtain ⟨b, hb, hbi⟩ := ih (i + 1) (by omega) (fun j hj => by
            rcases Nat.lt_succ_iff_lt_or_eq.mp hj with h5 | rfl
            · exact hp j h5
            · exact ⟨h, fun h6 => absurd h6 h0⟩)
          refine ⟨b, Ev.step ?_ (fun k => impl_ClauseValid.l0.eq_2 ..), ?_⟩
          · rw [hwi, hwn]
            exact Ev.pos (by omega) (Ev.pos (by omega) (Ev.pos (by omega) (Ev.bind in_dec (Ev.pos (by simpa using hr) (Ev.neg hz (Ev.neg (by omega) hb))))))
          · rw [hbi, all_from (P := PlaceOk n c) hlt]
            exact ⟨fun h3 => ⟨⟨h, fun h6 => absurd h6 h0⟩, h3⟩, fun h3 => h3.2⟩
    · refine Dec.no (Ev.step ?_ (fun k => impl_ClauseValid.l0.eq_2 ..)) (fun h3 => hr (h3 i (Nat.le_refl _) hlt).1.2)
      rw [hwn]
      exact Ev.pos (by omega) (Ev.pos (by omega) (Ev.pos (by omega) (Ev.bind in_dec (Ev.neg (by simpa using hr) (Ev.val _)))))
/-- Of any number of atoms, the reference tells something. -/
theorem spec_clause_any_loop (n : Int) (hn : ¬ (0 ≤ n ∧ n ≤ 700)) (c : List Int) (hc : c.length ≤ 1048576) : ∀ (d i : Nat), i + d = c.length → Ev (fun k => spec_ClauseValid.l0 k c n (i : Int)) false := by
  intro d
  induction d with
  | zero =>
    intro i hi
    refine Ev.step (Ev.neg (by omega) (Ev.bind sin_dec (Ev.valEq ?_))) (fun k => spec_ClauseValid.l0.eq_2 ..)
    simpa using hn
  | succ d ih =>
    intro i hi
    have hwi := wsucc i (by omega)
    have hlit : ∃ b, Ev (fun _ => spec_l11Lit.f (rd c (i : Int)) n) b := by
      unfold spec_l11Lit.f
      by_cases h : rd c (i : Int) = 0
      · exact ⟨_, Ev.pos h (Ev.val _)⟩
      · exact ⟨_, Ev.neg h (Ev.bind sin_dec (Ev.val _))⟩
    have habs : ∀ x : Int, ∃ b, Ev (fun _ => spec_l11Abs.f x) b := by
      intro x
      unfold spec_l11Abs.f
      by_cases h : x < 0
      · exact ⟨_, Ev.pos h (Ev.val _)⟩
      · exact ⟨_, Ev.neg h (Ev.val _)⟩
    obtain ⟨b, hb⟩ := hlit
    refine Ev.step ?_ (fun k => spec_ClauseValid.l0.eq_2 ..)
    rw [hwi]
    refine Ev.pos (by omega) (Ev.pos (by omega) (Ev.bind hb ?_))
    cases b with
    | false => exact Ev.neg (by decide) (Ev.val _)
    | true =>
      refine Ev.pos rfl ?_
      by_cases h0 : (i : Int) > 0
      · have hw : wrap64 ((i : Int) - 1) = ((i - 1 : Nat) : Int) := by rw [w_id (by omega) (by omega)]; omega
        rw [hw]
        obtain ⟨p, hp⟩ := habs (rd c (i : Int))
        obtain ⟨q, hq⟩ := habs (rd c ((i - 1 : Nat) : Int))
        refine Ev.pos h0 (Ev.bind hp (Ev.pos (by omega) (Ev.pos (by omega) (Ev.bind hq ?_))))
        by_cases h2 : p ≤ q
        · exact Ev.pos h2 (Ev.val _)
        · exact Ev.neg h2 (ih (i + 1) (by omega))
      · exact Ev.neg h0 (ih (i + 1) (by omega))
theorem spec_clause (n : Int) (c : List Int) (hc : c.length ≤ 1048576) : Dec (fun k => spec_ClauseValid.f k c n) (ClauseOk n c) := by
  unfold spec_ClauseValid.f
  by_cases hn : 0 ≤ n ∧ n ≤ 700
  · exact (spec_clause_loop n hn c hc c.length 0 (by omega) (fun j hj => by omega)).iff ⟨fun h => ⟨hn, fun j hj => h j (by omega) hj⟩, fun h j _ hj => h.2 j hj⟩
  · exact Dec.no (spec_clause_any_loop n hn c hc c.length 0 (by omega)) (fun h => hn h.1)
theorem impl_clause (n : Int) (c : List Int) (hc : c.length ≤ 1048576) : Dec (fun k => impl_ClauseValid.f k c n) (ClauseOk n c) := by
  unfold impl_ClauseValid.f
  by_cases hn : 0 ≤ n ∧ n ≤ 700
  · obtain ⟨b, h1, h2⟩ := impl_clause_loop n hn c hc c.length 0 (by omega) (fun j hj => by omega)
    exact ⟨b, Ev.bind in_dec (Ev.pos (by simpa using hn) h1), h2.trans ⟨fun h => ⟨hn, fun j hj => h j (by omega) hj⟩, fun h j _ hj => h.2 j hj⟩⟩
  · exact Dec.no (Ev.bind in_dec (Ev.neg (by simpa using hn) (Ev.val _))) (fun h => hn h.1)
/-- Clauses of n atoms. -/
def ClausesOk (n : Int) (l : List (List Int)) : Prop := (0 ≤ n ∧ n ≤ 700) ∧ l.length ≤ 2500 ∧ ∀ j : Nat, j < l.length → ClauseOk n (rd_L1 l (j : Int))
def Small (l : List (List Int)) : Prop := l.length ≤ 1048576 ∧ ∀ j : Nat, j < l.length → (rd_L1 l (j : Int)).length ≤ 1048576
theorem spec_clauses_loop (n : Int) (l : List (List Int)) (hl : Small l) : ∀ (d i : Nat), i + d = l.length →
    Dec (fun k => spec_ClausesValid.l0 k (i : Int) n l) (∀ j : Nat, i ≤ j → j < l.length → ClauseOk n (rd_L1 l (j : Int))) := by
  intro d
  have h1 := hl.1
  induction d with
  | zero =>
    intro i hi
    exact Dec.yes (Ev.step (Ev.neg (by omega) (Ev.val _)) (fun k => spec_ClausesValid.l0.eq_2 ..)) (all_none (by omega))
  | succ d ih =>
    intro i hi
    have hwi := wsucc i (by omega)
    have hlt : i < l.length := by omega
    obtain ⟨b, hb, hbi⟩ := spec_clause n (rd_L1 l (i : Int)) (hl.2 i hlt)
    cases b with
    | false => exact Dec.no (Ev.step (Ev.pos (by omega) (Ev.pos (by omega) (Ev.bind hb (Ev.neg (by decide) (Ev.val _))))) (fun k => spec_ClausesValid.l0.eq_2 ..)) (fun h => by simpa using hbi.mpr (h i (Nat.le_refl _) hlt))
    | true =>
      obtain ⟨b2, hb2, hbi2⟩ := ih (i + 1) (by omega)
      refine ⟨b2, Ev.step ?_ (fun k => spec_ClausesValid.l0.eq_2 ..), ?_⟩
      · rw [hwi]
        exact Ev.pos (by omega) (Ev.pos (by omega) (Ev.bind hb (Ev.pos rfl hb2)))
      · rw [hbi2, all_from (P := fun j => ClauseOk n (rd_L1 l (j : Int))) hlt]
        exact ⟨fun h => ⟨hbi.mp rfl, h⟩, fun h => h.2⟩
theorem spec_clauses (n : Int) (l : List (List Int)) (hl : Small l) : Dec (fun k => spec_ClausesValid.f k n l) (ClausesOk n l) := by
  unfold spec_ClausesValid.f
  by_cases hn : 0 ≤ n ∧ n ≤ 700
  · by_cases h2 : (l.length : Int) > 2500
    · refine Dec.no (Ev.bind sin_dec (Ev.pos (by simpa using hn) (Ev.step (Ev.pos (by simpa using h2) (Ev.val _)) (fun k => spec_ClausesValid.j0.eq_2 ..)))) (fun h => by have := h.2.1; omega)
    · obtain ⟨b, hb, hbi⟩ := spec_clauses_loop n l hl l.length 0 (by omega)
      exact ⟨b, Ev.bind sin_dec (Ev.pos (by simpa using hn) (Ev.step (Ev.neg (by simpa using h2) hb) (fun k => spec_ClausesValid.j0.eq_2 ..))), hbi.trans ⟨fun h => ⟨hn, by omega, fun j hj => h j (by omega) hj⟩, fun h j _ hj => h.2.2 j hj⟩⟩
  · exact Dec.no (Ev.bind sin_dec (Ev.neg (by simpa using hn) (Ev.step (Ev.pos rfl (Ev.val _)) (fun k => spec_ClausesValid.j0.eq_2 ..)))) (fun h => hn h.1)
theorem idx_tot (p : Nat → Int → Option Bool) (P : Nat → Prop) (m : Nat) (hp : ∀ j : Nat, j < m → Dec (fun k => p k (j : Int)) (P j)) : ∀ (d i : Nat), i + d = m →
    Tot (fun k => Copy.idxO (p k) d (i : Int)) (fun r => 0 ≤ r ↔ ∃ j : Nat, i ≤ j ∧ j < m ∧ P j) := by
  intro d
  induction d with
  | zero =>
    intro i hi
    exact Tot.val ⟨fun h => by omega, fun ⟨j, h1, h2, _⟩ => by omega⟩
  | succ d ih =>
    intro i hi
    obtain ⟨b, hb, hbi⟩ := hp i (by omega)
    cases b with
    | true => exact ⟨(i : Int), Ev.bind hb (Ev.pos rfl (Ev.val _)), fun _ => ⟨i, Nat.le_refl _, by omega, hbi.mp rfl⟩, fun _ => by omega⟩
    | false =>
      obtain ⟨r, hr, hri⟩ := ih (i + 1) (by omega)
      refine ⟨r, Ev.bind hb (Ev.neg (by decide) ?_), hri.trans ?_⟩
      · have e : ((i + 1 : Nat) : Int) = (i : Int) + 1 := by omega
        rw [← e]
        exact hr
      · constructor
        · rintro ⟨j, h1, h2, h3⟩
          exact ⟨j, by omega, h2, h3⟩
        · rintro ⟨j, h1, h2, h3⟩
          rcases Nat.lt_or_eq_of_le h1 with h4 | rfl
          · exact ⟨j, h4, h2, h3⟩
          · exact absurd (hbi.mpr h3) (by decide)
theorem impl_clauses (n : Int) (l : List (List Int)) (hl : Small l) : Dec (fun k => impl_ClausesValid.f k n l) (ClausesOk n l) := by
  unfold impl_ClausesValid.f
  by_cases hn : 0 ≤ n ∧ n ≤ 700
  · by_cases h2 : (l.length : Int) ≤ 2500
    · obtain ⟨r, hr, hri⟩ := idx_tot (fun k i => impl_ClausesValid.p k n l i) (fun j => ¬ ClauseOk n (rd_L1 l (j : Int))) l.length (fun j hj => by
        unfold impl_ClausesValid.p
        obtain ⟨b, hb, hbi⟩ := impl_clause n (rd_L1 l (j : Int)) (hl.2 j hj)
        exact ⟨!b, Ev.bind hb (Ev.val _), by rw [← hbi]; cases b <;> simp⟩) l.length 0 (by omega)
      refine ⟨!(decide (0 ≤ r)), Ev.bind in_dec (Ev.pos (by simpa using hn) (Ev.pos h2 (Ev.bind hr (Ev.val _)))), ?_⟩
      rw [Bool.not_eq_true', decide_eq_false_iff_not, hri]
      constructor
      · intro h
        refine ⟨hn, by omega, fun j hj => Classical.byContradiction fun h3 => h ⟨j, by omega, hj, h3⟩⟩
      · rintro h ⟨j, _, hj, h3⟩
        exact h3 (h.2.2 j hj)
    · exact Dec.no (Ev.bind in_dec (Ev.pos (by simpa using hn) (Ev.neg h2 (Ev.val _)))) (fun h => by have := h.2.1; omega)
  · exact Dec.no (Ev.bind in_dec (Ev.neg (by simpa using hn) (Ev.val _))) (fun h => hn h.1)

/-! #### what clauses force: the reference's signs are literals, the program's are 1 and -1 -/
theorem absN (x : Int) : AbsI x = ((x.natAbs : Nat) : Int) := by unfold AbsI; split <;> omega
def AtomAt (v s : List Int) (a : Nat) : Prop := (rd v (a : Int) = 0 ∧ rd s (a : Int) = 0) ∨ (0 < a ∧ rd v (a : Int) = (a : Int) ∧ rd s (a : Int) = 1) ∨ (0 < a ∧ rd v (a : Int) = -(a : Int) ∧ rd s (a : Int) = -1)
def SignsOk (n : Nat) (v s : List Int) : Prop := v.length = n + 1 ∧ s.length = n + 1 ∧ ∀ a : Nat, a ≤ n → AtomAt v s a
def LitsOk (n : Nat) (c : List Int) : Prop := c.length ≤ 1048576 ∧ ∀ j : Nat, j < c.length → LitOk (n : Int) (rd c (j : Int))
theorem bit_ev (b : Bool) : Ev (fun _ => impl_bit.f b) (if b = true then 1 else 0) := by
  unfold impl_bit.f
  cases b
  · exact Ev.neg (by decide) (Ev.val _)
  · exact Ev.pos rfl (Ev.val _)
theorem scan_sat (n : Nat) (hn : n ≤ 700) (l : List (List Int)) (s : List Int) (hs : s.length = n + 1) (c : List Int) (hc : LitsOk n c) (x5 : Bool) (L : List (List Int)) (x16 x17 : Int) (r : Bool × List Int)
    (hend : ∀ y8 y9 : Int, Ev (fun k => impl_forced.l2 k l s x5 y8 y9 true L x16 x17 c (c.length : Int) (c.length : Int)) r) :
    ∀ (d i : Nat) (x8 x9 : Int), i + d = c.length → Ev (fun k => impl_forced.l2 k l s x5 x8 x9 true L x16 x17 c (c.length : Int) (i : Int)) r := by
  have hcl := hc.1
  intro d
  induction d with
  | zero =>
    intro i x8 x9 hi
    have : i = c.length := by omega
    subst this
    exact hend x8 x9
  | succ d ih =>
    intro i x8 x9 hi
    have hwi := wsucc i (by omega)
    have hlt : i < c.length := by omega
    obtain ⟨_, hx1, hx2⟩ := hc.2 i hlt
    refine Ev.step ?_ (fun k => impl_forced.l2.eq_2 ..)
    rw [hwi]
    refine Ev.pos (by omega) (Ev.pos (by omega) (Ev.pos (by omega) (Ev.bind (impl_abs (by omega) (by omega)) (Ev.pos (absI_pos _) (Ev.pos (by rw [absN]; omega) ?_)))))
    by_cases h0 : rd s (AbsI (rd c (i : Int))) = 0
    · exact Ev.pos h0 (ih (i + 1) _ _ (by omega))
    · refine Ev.neg h0 ?_
      by_cases h1 : ((decide (rd s (AbsI (rd c (i : Int))) > 0)) == (decide (rd c (i : Int) > 0))) = true
      · exact Ev.pos h1 (ih (i + 1) _ _ (by omega))
      · exact Ev.neg h1 (ih (i + 1) _ _ (by omega))
theorem scan (n : Nat) (hn : n ≤ 700) (l : List (List Int)) (v s : List Int) (hv : SignsOk n v s) (c : List Int) (hc : LitsOk n c) (x5 : Bool) (L : List (List Int)) (x16 x17 : Int) :
    ∀ (d i m : Nat) (last : Int), i + d = c.length → m ≤ i → (1 ≤ m → LitOk (n : Int) last ∧ rd v (AbsI last) = 0) →
      (Ev (fun k => spec_l11Left.l0 k c v (m : Int) last (i : Int)) ((-1 : Int), (0 : Int)) ∧ ∀ r, (∀ y8 y9 : Int, Ev (fun k => impl_forced.l2 k l s x5 y8 y9 true L x16 x17 c (c.length : Int) (c.length : Int)) r) → Ev (fun k => impl_forced.l2 k l s x5 last (m : Int) false L x16 x17 c (c.length : Int) (i : Int)) r) ∨
      (∃ (m' : Nat) (last' : Int), m' ≤ c.length ∧ (1 ≤ m' → LitOk (n : Int) last' ∧ rd v (AbsI last') = 0) ∧ Ev (fun k => spec_l11Left.l0 k c v (m : Int) last (i : Int)) ((m' : Int), last') ∧
        ∀ r, Ev (fun k => impl_forced.l2 k l s x5 last' (m' : Int) false L x16 x17 c (c.length : Int) (c.length : Int)) r → Ev (fun k => impl_forced.l2 k l s x5 last (m : Int) false L x16 x17 c (c.length : Int) (i : Int)) r) := by
  have hcl := hc.1
  obtain ⟨hvl, hsl, hat⟩ := hv
  intro d
  induction d with
  | zero =>
    intro i m last hi hm hlast
    have : i = c.length := by omega
    subst this
    exact Or.inr ⟨m, last, hm, hlast, Ev.step (Ev.neg (by omega) (Ev.val _)) (fun k => spec_l11Left.l0.eq_2 ..), fun r hr => hr⟩
  | succ d ih =>
    intro i m last hi hm hlast
    have hwi := wsucc i (by omega)
    have hwm := wsucc m (by omega)
    have hlt : i < c.length := by omega
    have hlit := hc.2 i hlt
    obtain ⟨hx0, hx1, hx2⟩ := hlit
    have ha := hat (rd c (i : Int)).natAbs (by omega)
    rw [AtomAt, ← absN] at ha
    have hax : AbsI (rd c (i : Int)) = rd c (i : Int) ∨ AbsI (rd c (i : Int)) = -(rd c (i : Int)) := by unfold AbsI; split <;> omega
    have hpos := absI_pos (rd c (i : Int))
    have hlen : AbsI (rd c (i : Int)) < (v.length : Int) := by rw [absN]; omega
    have hlen2 : AbsI (rd c (i : Int)) < (s.length : Int) := by rw [absN]; omega
    have hsg : AbsI (rd c (i : Int)) = if rd c (i : Int) < 0 then -(rd c (i : Int)) else rd c (i : Int) := rfl
    have specE : ∀ q, Ev (fun k => if rd v (AbsI (rd c (i : Int))) = rd c (i : Int) then some ((-1 : Int), (0 : Int)) else if rd v (AbsI (rd c (i : Int))) = 0 then spec_l11Left.l0 k c v ((m + 1 : Nat) : Int) (rd c (i : Int)) ((i + 1 : Nat) : Int) else spec_l11Left.l0 k c v (m : Int) last ((i + 1 : Nat) : Int)) q → Ev (fun k => spec_l11Left.l0 k c v (m : Int) last (i : Int)) q := by
      intro q hq
      refine Ev.step ?_ (fun k => spec_l11Left.l0.eq_2 ..)
      rw [hwi, hwm]
      exact Ev.pos (by omega) (Ev.pos (by omega) (Ev.bind (spec_abs (by omega) (by omega)) (Ev.pos hpos (Ev.pos hlen hq))))
    have implE : ∀ q, Ev (fun k => if rd s (AbsI (rd c (i : Int))) = 0 then impl_forced.l2 k l s x5 (rd c (i : Int)) ((m + 1 : Nat) : Int) false L x16 x17 c (c.length : Int) ((i + 1 : Nat) : Int) else if ((decide (rd s (AbsI (rd c (i : Int))) > 0)) == (decide (rd c (i : Int) > 0))) = true then impl_forced.l2 k l s x5 last (m : Int) true L x16 x17 c (c.length : Int) ((i + 1 : Nat) : Int) else impl_forced.l2 k l s x5 last (m : Int) false L x16 x17 c (c.length : Int) ((i + 1 : Nat) : Int)) q → Ev (fun k => impl_forced.l2 k l s x5 last (m : Int) false L x16 x17 c (c.length : Int) (i : Int)) q := by
      intro q hq
      refine Ev.step ?_ (fun k => impl_forced.l2.eq_2 ..)
      rw [hwi, hwm]
      exact Ev.pos (by omega) (Ev.pos (by omega) (Ev.pos (by omega) (Ev.bind (impl_abs (by omega) (by omega)) (Ev.pos hpos (Ev.pos hlen2 hq)))))
    by_cases hz : rd v (AbsI (rd c (i : Int))) = 0
    · have hs0 : rd s (AbsI (rd c (i : Int))) = 0 := by
        rcases ha with h | h | h
        · exact h.2
        · omega
        · omega
      rcases ih (i + 1) (m + 1) (rd c (i : Int)) (by omega) (by omega) (fun _ => ⟨⟨hx0, hx1, hx2⟩, hz⟩) with ⟨h1, h2⟩ | ⟨m', last', h1, h2, h3, h4⟩
      · exact Or.inl ⟨specE _ (Ev.neg (by omega) (Ev.pos hz h1)), fun r hr => implE r (Ev.pos hs0 (h2 r hr))⟩
      · exact Or.inr ⟨m', last', h1, h2, specE _ (Ev.neg (by omega) (Ev.pos hz h3)), fun r hr => implE r (Ev.pos hs0 (h4 r hr))⟩
    · have hs0 : rd s (AbsI (rd c (i : Int))) ≠ 0 := by
        rcases ha with h | h | h
        · exact absurd h.1 hz
        · omega
        · omega
      by_cases he : rd v (AbsI (rd c (i : Int))) = rd c (i : Int)
      · refine Or.inl ⟨specE _ (Ev.pos he (Ev.val _)), fun r hr => implE r (Ev.neg hs0 (Ev.pos ?_ (scan_sat n hn l s hsl c hc x5 L x16 x17 r hr d (i + 1) _ _ (by omega))))⟩
        rw [beq_iff_eq, decide_eq_decide]
        split at hsg <;> rcases ha with h | h | h <;> omega
      · have hne : ¬ ((decide (rd s (AbsI (rd c (i : Int))) > 0)) == (decide (rd c (i : Int) > 0))) = true := by
          rw [beq_iff_eq, decide_eq_decide]
          split at hsg <;> rcases ha with h | h | h <;> omega
        rcases ih (i + 1) m last (by omega) (by omega) hlast with ⟨h1, h2⟩ | ⟨m', last', h1, h2, h3, h4⟩
        · exact Or.inl ⟨specE _ (Ev.neg he (Ev.neg hz h1)), fun r hr => implE r (Ev.neg hs0 (Ev.neg hne (h2 r hr)))⟩
        · exact Or.inr ⟨m', last', h1, h2, specE _ (Ev.neg he (Ev.neg hz h3)), fun r hr => implE r (Ev.neg hs0 (Ev.neg hne (h4 r hr)))⟩
/-- The sign that the program gives to a literal. -/
def sgn (x : Int) : Int := if x < 0 then -1 else 1
theorem sgn_ev (x : Int) : wrap64 (1 - wrap64 (2 * (if (decide (x < 0)) = true then (1 : Int) else 0))) = sgn x := by
  unfold sgn
  by_cases h : x < 0
  · rw [if_pos h, show decide (x < 0) = true from decide_eq_true h, if_pos rfl, show (2 : Int) * 1 = 2 from rfl, w_id (x := 2) (by omega) (by omega), w_id (by omega) (by omega)]
    rfl
  · rw [if_neg h, show decide (x < 0) = false from decide_eq_false h, if_neg (by decide), show (2 : Int) * 0 = 0 from rfl, w_id (x := 0) (by omega) (by omega), w_id (by omega) (by omega)]
    rfl
theorem signs_set {n : Nat} {v s : List Int} (h : SignsOk n v s) {x : Int} (hx : LitOk (n : Int) x) : SignsOk n (v.set x.natAbs x) (s.set x.natAbs (sgn x)) := by
  obtain ⟨h1, h2, h3⟩ := h
  obtain ⟨hx0, hx1, hx2⟩ := hx
  refine ⟨by simpa using h1, by simpa using h2, fun a ha => ?_⟩
  by_cases e : a = x.natAbs
  · subst e
    unfold AtomAt
    rw [rd_set_eq (by omega), rd_set_eq (by omega)]
    unfold sgn
    split <;> omega
  · unfold AtomAt
    rw [rd_set_ne (fun h => e h.symm), rd_set_ne (fun h => e h.symm)]
    exact h3 a ha
theorem zeros_set {v : List Int} {a : Nat} {x : Int} (ha : a < v.length) (h0 : rd v (a : Int) = 0) (hx : x ≠ 0) : (v.set a x).count 0 < v.count 0 := by
  have hv : v[a] = 0 := by rw [← rd_lt ha]; exact h0
  have hm : 0 < v.count 0 := List.count_pos_iff.mpr (by rw [← hv]; exact List.getElem_mem ha)
  rw [List.count_set ha]
  simp [hv, hx]
  omega
def AllLits (n : Nat) (l : List (List Int)) : Prop := l.length ≤ 1048576 ∧ ∀ j : Nat, j < l.length → LitsOk n (rd_L1 l (j : Int))
theorem force_pass (n : Nat) (hn : n ≤ 700) (l : List (List Int)) (hl : AllLits n l) (z : Nat)
    (IH : ∀ v s, SignsOk n v s → v.count 0 < z → ∃ b v' s', Ev (fun k => spec_l11Force.l0 k l v true) (b, v') ∧ Ev (fun k => impl_forced.l0 k l s true) (b, s') ∧ SignsOk n v' s') :
    ∀ (d i : Nat) (x5 : Bool) (v s : List Int), i + d = l.length → SignsOk n v s → v.count 0 ≤ z → (x5 = true → v.count 0 < z) →
      ∃ b v' s', Ev (fun k => spec_l11Force.l1 k l v x5 (i : Int)) (b, v') ∧ Ev (fun k => impl_forced.l1 k l s x5 l (l.length : Int) (i : Int)) (b, s') ∧ SignsOk n v' s' := by
  have hll := hl.1
  intro d
  induction d with
  | zero =>
    intro i x5 v s hi hv hz hx
    cases x5 with
    | false =>
      exact ⟨true, v, s, Ev.step (Ev.neg (by omega) (Ev.step (Ev.neg (by decide) (Ev.val _)) (fun k => spec_l11Force.l0.eq_2 ..))) (fun k => spec_l11Force.l1.eq_2 ..),
        Ev.step (Ev.neg (by omega) (Ev.step (Ev.neg (by decide) (Ev.val _)) (fun k => impl_forced.l0.eq_2 ..))) (fun k => impl_forced.l1.eq_2 ..), hv⟩
    | true =>
      obtain ⟨b, v', s', h1, h2, h3⟩ := IH v s hv (hx rfl)
      exact ⟨b, v', s', Ev.step (Ev.neg (by omega) h1) (fun k => spec_l11Force.l1.eq_2 ..), Ev.step (Ev.neg (by omega) h2) (fun k => impl_forced.l1.eq_2 ..), h3⟩
  | succ d ih =>
    intro i x5 v s hi hv hz hx
    have hwi := wsucc i (by omega)
    have hlt : i < l.length := by omega
    have hcl := hl.2 i hlt
    have specE : ∀ (p : Int × Int) q, Ev (fun k => spec_l11Left.l0 k (rd_L1 l (i : Int)) v 0 0 0) p → Ev (fun k => if p.1 = 0 then some (false, v) else if p.1 = 1 then ((spec_l11Abs.f p.2).bind fun t => if 0 ≤ t then (if t < (v.length : Int) then spec_l11Force.l1 k l (v.set (t : Int).toNat p.2) true ((i + 1 : Nat) : Int) else none) else none) else spec_l11Force.l1 k l v x5 ((i + 1 : Nat) : Int)) q → Ev (fun k => spec_l11Force.l1 k l v x5 (i : Int)) q := by
      intro p q hp hq
      refine Ev.step ?_ (fun k => spec_l11Force.l1.eq_2 ..)
      rw [hwi]
      exact Ev.pos (by omega) (Ev.pos (by omega) (Ev.bind (by unfold spec_l11Left.f; exact hp) hq))
    have implE : ∀ q, Ev (fun k => impl_forced.l2 k l s x5 0 0 false l (l.length : Int) (i : Int) (rd_L1 l (i : Int)) ((rd_L1 l (i : Int)).length : Int) 0) q → Ev (fun k => impl_forced.l1 k l s x5 l (l.length : Int) (i : Int)) q := by
      intro q hq
      refine Ev.step ?_ (fun k => impl_forced.l1.eq_2 ..)
      exact Ev.pos (by omega) (Ev.pos (by omega) (Ev.pos (by omega) hq))
    rcases scan n hn l v s hv _ hcl x5 l (l.length : Int) (i : Int) _ 0 0 0 (Nat.zero_add _) (Nat.le_refl _) (fun h => by omega) with ⟨h1, h2⟩ | ⟨m, last, hm, hlast, h1, h2⟩
    · obtain ⟨b, v', s', e1, e2, e3⟩ := ih (i + 1) x5 v s (by omega) hv hz hx
      refine ⟨b, v', s', specE _ _ h1 (Ev.neg (by decide) (Ev.neg (by decide) e1)), implE _ (h2 _ (fun y8 y9 => Ev.step ?_ (fun k => impl_forced.l2.eq_2 ..))), e3⟩
      rw [hwi]
      exact Ev.neg (by omega) (Ev.pos rfl e2)
    · by_cases m0 : m = 0
      · subst m0
        exact ⟨false, v, s, specE _ _ h1 (Ev.pos rfl (Ev.val _)), implE _ (h2 _ (Ev.step (Ev.neg (by omega) (Ev.neg (by decide) (Ev.pos rfl (Ev.val _)))) (fun k => impl_forced.l2.eq_2 ..))), hv⟩
      · by_cases m1 : m = 1
        · subst m1
          obtain ⟨hlit, h0⟩ := hlast (Nat.le_refl _)
          have hx0 := hlit.1
          have hx1 := hlit.2.1
          have hx2 := hlit.2.2
          have hvl := hv.1
          have hsl := hv.2.1
          rw [absN] at h0
          have hzs := zeros_set (x := last) (by omega) h0 hx0
          obtain ⟨b, v', s', e1, e2, e3⟩ := ih (i + 1) true (v.set last.natAbs last) (s.set last.natAbs (sgn last)) (by omega) (signs_set hv hlit) (by omega) (fun _ => by omega)
          refine ⟨b, v', s', specE _ _ h1 (Ev.neg (by simp) (Ev.pos (by simp) (Ev.bind (spec_abs (by omega) (by omega)) (Ev.pos (absI_pos _) (Ev.pos (by rw [absN]; omega) ?_))))), implE _ (h2 _ (Ev.step ?_ (fun k => impl_forced.l2.eq_2 ..))), e3⟩
          · rw [absN, Int.toNat_natCast]
            exact e1
          · rw [hwi]
            refine Ev.neg (by omega) (Ev.neg (by decide) (Ev.neg (by simp) (Ev.pos (by simp) (Ev.bind (impl_abs (by omega) (by omega)) (Ev.bind (bit_ev _) (Ev.pos (absI_pos _) (Ev.pos (by rw [absN]; omega) ?_)))))))
            rw [sgn_ev, absN, Int.toNat_natCast]
            exact e2
        · obtain ⟨b, v', s', e1, e2, e3⟩ := ih (i + 1) x5 v s (by omega) hv hz hx
          refine ⟨b, v', s', specE _ _ h1 (Ev.neg (by show ¬ ((m : Int) = 0); omega) (Ev.neg (by show ¬ ((m : Int) = 1); omega) e1)), implE _ (h2 _ (Ev.step ?_ (fun k => impl_forced.l2.eq_2 ..))), e3⟩
          rw [hwi]
          exact Ev.neg (by omega) (Ev.neg (by decide) (Ev.neg (by omega) (Ev.neg (by omega) e2)))
theorem force_run (n : Nat) (hn : n ≤ 700) (l : List (List Int)) (hl : AllLits n l) : ∀ (z : Nat) (v s : List Int), v.count 0 < z → SignsOk n v s →
    ∃ b v' s', Ev (fun k => spec_l11Force.l0 k l v true) (b, v') ∧ Ev (fun k => impl_forced.l0 k l s true) (b, s') ∧ SignsOk n v' s' := by
  intro z
  induction z with
  | zero => intro v s hz; omega
  | succ z ih =>
    intro v s hz hv
    obtain ⟨b, v', s', h1, h2, h3⟩ := force_pass n hn l hl z (fun v s hv hz => ih v s hz hv) l.length 0 false v s (by omega) hv (by omega) (by simp)
    exact ⟨b, v', s', Ev.step (Ev.pos rfl h1) (fun k => spec_l11Force.l0.eq_2 ..), Ev.step (Ev.pos rfl h2) (fun k => impl_forced.l0.eq_2 ..), h3⟩
theorem force (n : Nat) (hn : n ≤ 700) (l : List (List Int)) (hl : AllLits n l) (v s : List Int) (hv : SignsOk n v s) :
    ∃ b v' s', Ev (fun k => spec_l11Force.f k l v) (b, v') ∧ Ev (fun k => impl_forced.f k l s) (b, s') ∧ SignsOk n v' s' := by
  unfold spec_l11Force.f impl_forced.f
  exact force_run n hn l hl (v.count 0 + 1) v s (by omega) hv

/-! #### a conclusion that follows by what is forced -/
theorem Ev.uniq {α : Type} {g : Nat → Option α} {a b : α} (h : Ev g a) (h' : Ev g b) : a = b := by
  obtain ⟨K, hK⟩ := h
  obtain ⟨L, hL⟩ := h'
  have := (hK (max K L) (by omega)).symm.trans (hL (max K L) (by omega))
  exact Option.some.inj this
theorem clause_lits {n : Nat} {c : List Int} (h : ClauseOk (n : Int) c) (hc : c.length ≤ 1048576) : LitsOk n c := ⟨hc, fun j hj => (h.2 j hj).1⟩
theorem clause_mono {n : Int} {c : List Int} (h : ClauseOk n c) : ∀ (i j : Nat), j < i → i < c.length → AbsI (rd c (j : Int)) < AbsI (rd c (i : Int)) := by
  intro i
  induction i with
  | zero => intro j hj; omega
  | succ i ih =>
    intro j hj hi
    have h1 := (h.2 (i + 1) hi).2 (by omega)
    rw [Nat.add_sub_cancel] at h1
    rcases Nat.lt_succ_iff_lt_or_eq.mp hj with h2 | rfl
    · have := ih j h2 (by omega)
      omega
    · exact h1
theorem not_loop (c : List Int) (hcl : c.length ≤ 1048576) (n : Int) (hx : ∀ j : Nat, j < c.length → -9223372036854775807 ≤ rd c (j : Int) ∧ rd c (j : Int) ≤ 9223372036854775807) (r : List Int)
    (hend : ∀ m : List Int, m.length = c.length → (∀ j : Nat, j < c.length → rd m (j : Int) = -(rd c (j : Int))) → Ev (fun k => (spec_l11Clause.f k m n).bind fun b => some b.1) r) :
    ∀ (d i : Nat) (m : List Int), i + d = c.length → m.length = i → (∀ j : Nat, j < i → rd m (j : Int) = -(rd c (j : Int))) → Ev (fun k => spec_l12Not.l0 k c n m (i : Int)) r := by
  intro d
  induction d with
  | zero =>
    intro i m hi hm h
    exact Ev.step (Ev.neg (by omega) (hend m (by omega) (fun j hj => h j (by omega)))) (fun k => spec_l12Not.l0.eq_2 ..)
  | succ d ih =>
    intro i m hi hm h
    have hwi := wsucc i (by omega)
    obtain ⟨h1, h2⟩ := hx i (by omega)
    refine Ev.step ?_ (fun k => spec_l12Not.l0.eq_2 ..)
    rw [hwi, wneg (by omega) (by omega)]
    refine Ev.pos (by omega) (Ev.pos (by omega) (Ev.pos (by omega) (ih (i + 1) _ (by omega) (by simp [hm]) ?_)))
    intro j hj
    by_cases e : j = i
    · subst e
      subst hm
      exact rd_app_eq
    · rw [rd_app_lt (by omega)]
      exact h j (by omega)
theorem build (n : Nat) (hn : n ≤ 700) (l : List (List Int)) (c : List Int) (hcl : c.length ≤ 1048576) (hc : ClauseOk (n : Int) c) (m : List Int) (hml : m.length = c.length) (hm : ∀ j : Nat, j < c.length → rd m (j : Int) = -(rd c (j : Int))) :
    ∀ (d i : Nat) (v s : List Int), i + d = c.length → SignsOk n v s → (∀ a : Nat, (∀ j : Nat, j < i → AbsI (rd c (j : Int)) < (a : Int)) → a ≤ n → rd v (a : Int) = 0) →
      ∃ v' s', SignsOk n v' s' ∧ (∀ r, Ev (fun k => spec_l11Clause.l1 k (n : Int) v' (([] : List Int)) 1) r → Ev (fun k => spec_l11Clause.l0 k m (n : Int) v (i : Int)) r) ∧
        (∀ r, Ev (fun k => (impl_forced.f k l s').bind fun b => some (!b.1)) r → Ev (fun k => impl_stepHolds.l0 k l s c (c.length : Int) (i : Int)) r) := by
  intro d
  induction d with
  | zero =>
    intro i v s hi hv h
    exact ⟨v, s, hv, fun r hr => Ev.step (Ev.neg (by omega) hr) (fun k => spec_l11Clause.l0.eq_2 ..), fun r hr => Ev.step (Ev.neg (by omega) hr) (fun k => impl_stepHolds.l0.eq_2 ..)⟩
  | succ d ih =>
    intro i v s hi hv h
    have hwi := wsucc i (by omega)
    have hlt : i < c.length := by omega
    obtain ⟨hx0, hx1, hx2⟩ := (hc.2 i hlt).1
    have hmi := hm i hlt
    have hlit : LitOk (n : Int) (rd m (i : Int)) := by rw [hmi]; exact ⟨by omega, by omega, by omega⟩
    have hz : rd v (((rd m (i : Int)).natAbs : Nat) : Int) = 0 := by
      refine h _ (fun j hj => ?_) (by omega)
      have := clause_mono hc i j hj hlt
      rw [absN (rd c (i : Int))] at this
      omega
    have hv' := signs_set hv hlit
    obtain ⟨v', s', e1, e2, e3⟩ := ih (i + 1) (v.set (rd m (i : Int)).natAbs (rd m (i : Int))) (s.set (rd m (i : Int)).natAbs (sgn (rd m (i : Int)))) (by omega) hv' (by
      intro a ha han
      have h1 := ha i (by omega)
      rw [absN] at h1
      rw [rd_set_ne (by omega)]
      exact h a (fun j hj => ha j (by omega)) han)
    have hvl := hv.1
    have hsl := hv.2.1
    refine ⟨v', s', e1, fun r hr => Ev.step ?_ (fun k => spec_l11Clause.l0.eq_2 ..), fun r hr => Ev.step ?_ (fun k => impl_stepHolds.l0.eq_2 ..)⟩
    · rw [hwi]
      refine Ev.pos (by omega) (Ev.pos (by omega) (Ev.bind (spec_abs (by omega) (by omega)) (Ev.pos (absI_pos _) (Ev.pos (by rw [absN]; omega) ?_))))
      rw [absN, Int.toNat_natCast]
      exact Ev.pos hz (e2 r hr)
    · rw [hwi]
      refine Ev.pos (by omega) (Ev.pos (by omega) (Ev.pos (by omega) (Ev.bind (impl_abs (by omega) (by omega)) (Ev.bind (bit_ev _) (Ev.pos (absI_pos _) (Ev.pos (by rw [absN]; omega) ?_))))))
      have ea : (rd c (i : Int)).natAbs = (rd m (i : Int)).natAbs := by omega
      have es : wrap64 (1 - wrap64 (2 * (if (decide (rd c (i : Int) > 0)) = true then (1 : Int) else 0))) = sgn (rd m (i : Int)) := by
        rw [← sgn_ev, show decide (rd c (i : Int) > 0) = decide (rd m (i : Int) < 0) by rw [decide_eq_decide]; omega]
      rw [es, absN, Int.toNat_natCast, ea]
      exact e3 r hr
/-- What the reference collects out of its signs. -/
def Collected (n : Nat) (v out : List Int) (a : Nat) : Prop := out.length ≤ a ∧ (∀ j : Nat, j < out.length → LitOk (n : Int) (rd out (j : Int)) ∧ rd v (AbsI (rd out (j : Int))) = rd out (j : Int)) ∧
  ∀ b : Nat, b ≤ a → rd v (b : Int) ≠ 0 → ∃ j : Nat, j < out.length ∧ rd out (j : Int) = rd v (b : Int)
theorem collect (n : Nat) (hn : n ≤ 700) (v s : List Int) (hv : SignsOk n v s) : ∀ (d a : Nat) (out : List Int), a + d = n → Collected n v out a →
    ∃ out', Collected n v out' n ∧ Ev (fun k => spec_l11Clause.l1 k (n : Int) v out ((a + 1 : Nat) : Int)) (out', true) := by
  intro d
  induction d with
  | zero =>
    intro a out ha h
    have : a = n := by omega
    subst this
    exact ⟨out, h, Ev.step (Ev.neg (by omega) (Ev.val _)) (fun k => spec_l11Clause.l1.eq_2 ..)⟩
  | succ d ih =>
    intro a out ha h
    have hwi := wsucc (a + 1) (by omega)
    obtain ⟨h1, h2, h3⟩ := h
    have hvl := hv.1
    have hat := hv.2.2 (a + 1) (by omega)
    by_cases hz : rd v ((a + 1 : Nat) : Int) = 0
    · obtain ⟨out', e1, e2⟩ := ih (a + 1) out (by omega) ⟨by omega, h2, fun b hb hb2 => by
        by_cases e : b = a + 1
        · subst e
          exact absurd hz hb2
        · exact h3 b (by omega) hb2⟩
      refine ⟨out', e1, Ev.step ?_ (fun k => spec_l11Clause.l1.eq_2 ..)⟩
      rw [hwi]
      exact Ev.pos (by omega) (Ev.pos (by omega) (Ev.pos (by omega) (Ev.pos hz e2)))
    · have habs : AbsI (rd v ((a + 1 : Nat) : Int)) = ((a + 1 : Nat) : Int) := by
        unfold AbsI
        rcases hat with h | h | h
        · exact absurd h.1 hz
        · split <;> omega
        · split <;> omega
      have hlit : LitOk (n : Int) (rd v ((a + 1 : Nat) : Int)) := by
        refine ⟨hz, ?_⟩
        rcases hat with h | h | h
        · exact absurd h.1 hz
        · omega
        · omega
      obtain ⟨out', e1, e2⟩ := ih (a + 1) (out ++ [rd v ((a + 1 : Nat) : Int)]) (by omega) (by
        refine ⟨by simp; omega, fun j hj => ?_, fun b hb hb2 => ?_⟩
        · simp at hj
          by_cases e : j = out.length
          · subst e
            rw [rd_app_eq]
            exact ⟨hlit, by rw [habs]⟩
          · rw [rd_app_lt (by omega)]
            exact h2 j (by omega)
        · by_cases e : b = a + 1
          · subst e
            exact ⟨out.length, by simp, rd_app_eq⟩
          · obtain ⟨j, j1, j2⟩ := h3 b (by omega) hb2
            exact ⟨j, by simp; omega, by rw [rd_app_lt j1]; exact j2⟩)
      refine ⟨out', e1, Ev.step ?_ (fun k => spec_l11Clause.l1.eq_2 ..)⟩
      rw [hwi]
      exact Ev.pos (by omega) (Ev.pos (by omega) (Ev.pos (by omega) (Ev.neg hz (Ev.pos (by omega) e2))))
theorem given_loop (n : Nat) (hn : n ≤ 700) (v s : List Int) (hv : SignsOk n v s) (out : List Int) (ho : Collected n v out n) : ∀ (d i : Nat) (u : List Int), i + d = out.length → u.length = n + 1 →
    (∀ b : Nat, b ≤ n → rd u (b : Int) = 0 ∨ rd u (b : Int) = rd v (b : Int)) → (∀ j : Nat, j < i → rd u (AbsI (rd out (j : Int))) = rd out (j : Int)) → Ev (fun k => spec_l11Given.l0 k out u (i : Int)) v := by
  obtain ⟨h1, h2, h3⟩ := ho
  have hvl := hv.1
  intro d
  induction d with
  | zero =>
    intro i u hi hu hb hj
    refine Ev.step (Ev.neg (by omega) (Ev.valEq ?_)) (fun k => spec_l11Given.l0.eq_2 ..)
    apply list_eq_rd (by omega)
    intro b hbl
    by_cases hz : rd v (b : Int) = 0
    · rcases hb b (by omega) with h | h
      · rw [h, hz]
      · exact h
    · obtain ⟨j, j1, j2⟩ := h3 b (by omega) hz
      have := hj j (by omega)
      have habs : AbsI (rd v (b : Int)) = (b : Int) := by
        unfold AbsI
        rcases hv.2.2 b (by omega) with h | h | h
        · exact absurd h.1 hz
        · split <;> omega
        · split <;> omega
      rw [j2, habs] at this
      exact this
  | succ d ih =>
    intro i u hi hu hb hj
    have hwi := wsucc i (by omega)
    obtain ⟨⟨hx0, hx1, hx2⟩, hxv⟩ := h2 i (by omega)
    refine Ev.step ?_ (fun k => spec_l11Given.l0.eq_2 ..)
    rw [hwi]
    refine Ev.pos (by omega) (Ev.pos (by omega) (Ev.bind (spec_abs (by omega) (by omega)) (Ev.pos (absI_pos _) (Ev.pos (by rw [absN]; omega) ?_))))
    rw [absN] at hxv
    rw [absN, Int.toNat_natCast]
    refine ih (i + 1) _ (by omega) (by simpa using hu) (fun b hbn => ?_) (fun j hjl => ?_)
    · by_cases e : b = (rd out (i : Int)).natAbs
      · subst e
        rw [rd_set_eq (by omega)]
        exact Or.inr hxv.symm
      · rw [rd_set_ne (fun h => e h.symm)]
        exact hb b hbn
    · rw [absN]
      by_cases e : (rd out (j : Int)).natAbs = (rd out (i : Int)).natAbs
      · have e2 := (h2 j (by omega)).2
        rw [absN, e] at e2
        rw [e, rd_set_eq (by omega), ← hxv, e2]
      · rw [rd_set_ne (fun h => e h.symm), ← absN]
        by_cases e3 : j = i
        · subst e3; exact absurd rfl e
        · exact hj j (by omega)
theorem zeros_ok (n : Nat) : SignsOk n (List.replicate (n + 1) 0) (List.replicate (n + 1) 0) := by
  refine ⟨by simp, by simp, fun a ha => Or.inl ?_⟩
  rw [rd_lt (by simp; omega)]
  simp
theorem rd_zeros (n : Nat) (a : Nat) (ha : a < n) : rd (List.replicate n 0) (a : Int) = 0 := by
  rw [rd_lt (by simpa using ha)]
  simp
theorem step_both (n : Nat) (hn : n ≤ 700) (l : List (List Int)) (hl : AllLits n l) (c : List Int) (hcl : c.length ≤ 1048576) (hc : ClauseOk (n : Int) c) :
    ∃ b, Ev (fun k => spec_l13Holds.f k l c (n : Int)) b ∧ Ev (fun k => impl_stepHolds.f k (n : Int) l c) b := by
  have hwn : wrap64 ((n : Int) + 1) = ((n + 1 : Nat) : Int) := wsucc n (by omega)
  -- the same signs
  have hm0 : ∀ j : Nat, j < c.length → rd (c.map (fun x => -x)) (j : Int) = -(rd c (j : Int)) := by
    intro j hj
    rw [rd_lt (by simpa using hj), rd_lt hj]
    simp
  obtain ⟨v, s, hv, e2, e3⟩ := build n hn l c hcl hc (c.map (fun x => -x)) (by simp) hm0 c.length 0 (List.replicate (n + 1) 0) (List.replicate (n + 1) 0) (by omega) (zeros_ok n) (fun a _ ha => rd_zeros (n + 1) a (by omega))
  obtain ⟨out, ho, hcollect⟩ := collect n hn v s hv n 0 [] (by omega) ⟨by simp, fun j hj => by simp at hj, fun b hb hb2 => by
    have : b = 0 := by omega
    subst this
    rcases hv.2.2 0 (by omega) with h | h | h
    · exact absurd h.1 hb2
    · omega
    · omega⟩
  obtain ⟨b, v', s', f1, f2, _⟩ := force n hn l hl v s hv
  have hnot : Ev (fun k => spec_l12Not.f k c (n : Int)) out := by
    unfold spec_l12Not.f
    refine not_loop c hcl (n : Int) (fun j hj => by have := (hc.2 j hj).1.2; omega) out ?_ c.length 0 [] (by omega) rfl (fun j hj => by omega)
    intro m hml hm
    have em : m = c.map (fun x => -x) := list_eq_rd (by simpa using hml) (fun j hj => by rw [hm j (by omega), hm0 j (by omega)])
    subst em
    refine Ev.bind (a := (out, true)) ?_ (Ev.val _)
    unfold spec_l11Clause.f
    rw [hwn, Int.toNat_natCast]
    exact Ev.pos (by omega) (Ev.pos (by omega) (e2 _ hcollect))
  have hgiven : Ev (fun k => spec_l11Given.f k out (n : Int)) v := by
    unfold spec_l11Given.f
    rw [hwn, Int.toNat_natCast]
    refine Ev.pos (by omega) (Ev.pos (by omega) (given_loop n hn v s hv out ho out.length 0 _ (by omega) (by simp) (fun b hb => Or.inl (rd_zeros (n + 1) b (by omega))) (fun j hj => by omega)))
  refine ⟨!b, ?_, ?_⟩
  · unfold spec_l13Holds.f
    exact Ev.bind hnot (Ev.bind hgiven (Ev.bind f1 (Ev.val _)))
  · unfold impl_stepHolds.f
    have hs0 : Ev (fun k => impl_signs.f k (n : Int) ([] : List Int)) (List.replicate (n + 1) 0) := by
      unfold impl_signs.f
      rw [hwn, Int.toNat_natCast]
      exact Ev.pos (by omega) (Ev.pos (by omega) (Ev.step (Ev.neg (by simp) (Ev.val _)) (fun k => impl_signs.l0.eq_2 ..)))
    exact Ev.bind hs0 (e3 _ (Ev.bind f2 (Ev.val _)))

def StepOk (n : Int) (L : List (List Int)) (c : List Int) : Prop := ClausesOk n L ∧ ClauseOk n c ∧ Ev (fun k => impl_stepHolds.f k n L c) true
theorem all_lits (n : Nat) (L : List (List Int)) (hL : Small L) (h : ClausesOk (n : Int) L) : AllLits n L := ⟨hL.1, fun i hi => clause_lits (h.2.2 i hi) (hL.2 i hi)⟩
theorem spec_step (n : Int) (L : List (List Int)) (c : List Int) (hL : Small L) (hc : c.length ≤ 1048576) : Dec (fun k => spec_StepHolds.f k n L c) (StepOk n L c) := by
  unfold spec_StepHolds.f
  obtain ⟨b, hb, hbi⟩ := spec_clauses n L hL
  cases b with
  | false => exact Dec.no (Ev.bind hb (Ev.neg (by decide) (Ev.val _))) (fun h => by simpa using hbi.mpr h.1)
  | true =>
    obtain ⟨b2, hb2, hbi2⟩ := spec_clause n c hc
    cases b2 with
    | false => exact Dec.no (Ev.bind hb (Ev.pos rfl (Ev.bind hb2 (Ev.neg (by decide) (Ev.val _))))) (fun h => by simpa using hbi2.mpr h.2.1)
    | true =>
      have h1 := hbi.mp rfl
      have h2 := hbi2.mp rfl
      have hn := h1.1
      obtain ⟨m, rfl⟩ := Int.eq_ofNat_of_zero_le hn.1
      obtain ⟨b3, e1, e2⟩ := step_both m (by omega) L (all_lits m L hL h1) c hc h2
      exact ⟨b3, Ev.bind hb (Ev.pos rfl (Ev.bind hb2 (Ev.pos rfl (Ev.bind e1 (Ev.val _))))), fun h => by subst h; exact ⟨h1, h2, e2⟩, fun h => Ev.uniq e2 h.2.2⟩
theorem impl_step (n : Int) (L : List (List Int)) (c : List Int) (hL : Small L) (hc : c.length ≤ 1048576) : Dec (fun k => impl_StepHolds.f k n L c) (StepOk n L c) := by
  unfold impl_StepHolds.f
  obtain ⟨b, hb, hbi⟩ := impl_clauses n L hL
  cases b with
  | false => exact Dec.no (Ev.bind hb (Ev.neg (by decide) (Ev.val _))) (fun h => by simpa using hbi.mpr h.1)
  | true =>
    obtain ⟨b2, hb2, hbi2⟩ := impl_clause n c hc
    cases b2 with
    | false => exact Dec.no (Ev.bind hb (Ev.pos rfl (Ev.bind hb2 (Ev.neg (by decide) (Ev.val _))))) (fun h => by simpa using hbi2.mpr h.2.1)
    | true =>
      have h1 := hbi.mp rfl
      have h2 := hbi2.mp rfl
      have hn := h1.1
      obtain ⟨m, rfl⟩ := Int.eq_ofNat_of_zero_le hn.1
      obtain ⟨b3, e1, e2⟩ := step_both m (by omega) L (all_lits m L hL h1) c hc h2
      exact ⟨b3, Ev.bind hb (Ev.pos rfl (Ev.bind hb2 (Ev.pos rfl (Ev.bind e2 (Ev.val _))))), fun h => by subst h; exact ⟨h1, h2, e2⟩, fun h => Ev.uniq e2 h.2.2⟩
theorem FnExactStepHolds : laws_FnExactStepHolds.Pure := by
  intro n L c _ hL hc
  have hL1 : ∀ x ∈ L, x.length ≤ 9223372036854775807 := fun x hx => by have := (hL.2 x hx).1; rw [maxLen_val] at this; exact this
  apply Ev.get
  unfold laws_FnExactStepHolds.f
  by_cases hb : (c.length : Int) > 1048576
  · exact Ev.pos hb (Ev.val _)
  refine Ev.neg hb ?_
  obtain ⟨z, hz, hz1, hz2⟩ := sz_rows L 1048576 (by have := hL.1; rw [maxLen_val] at this; exact this) hL1 (by omega) (by omega)
  have hsz : Ev (fun k => laws_szClauses.f k n L 1048576) (if z < 0 then -1 else z) := by
    unfold laws_szClauses.f
    by_cases h : z < 0
    · rw [if_pos h]
      exact Ev.bind hz (Ev.pos h (Ev.val _))
    · rw [if_neg h]
      exact Ev.bind hz (Ev.neg h (Ev.val _))
  refine Ev.bind hsz ?_
  by_cases h0 : z < 0
  · rw [if_pos h0]
    exact Ev.pos (by omega) (Ev.val _)
  rw [if_neg h0]
  refine Ev.neg h0 ?_
  have sL : Small L := hz2 (by omega)
  have sc : c.length ≤ 1048576 := by omega
  have tL : Ev (fun k => laws_toClauses.f k n L) (n, L) := by
    unfold laws_toClauses.f
    exact Ev.bind (to_rows L sL.1 sL.2) (Ev.val _)
  have tc := to_ints c sc
  obtain ⟨b, hs, hi, _⟩ := Dec.same (spec_step n L c sL sc) (impl_step n L c sL sc)
  have eL : Ev (fun k => laws_eqClauses.f k n L n L) true := by
    unfold laws_eqClauses.f
    exact Ev.pos rfl (Ev.bind (eq_rows L sL.1 sL.2) (Ev.pos rfl (Ev.val _)))
  refine Ev.bind tL (Ev.bind tc (Ev.bind hs (Ev.bind tL (Ev.bind tc (Ev.bind hi (Ev.neg (by simp) ?_))))))
  exact Ev.bind tL (Ev.bind eL (Ev.pos rfl (Ev.bind tc (Ev.bind (eq_ints c sc) (Ev.pos rfl (Ev.val _))))))

end Go.Proofs.Ytcmpngglnpjgdaa.Pure
