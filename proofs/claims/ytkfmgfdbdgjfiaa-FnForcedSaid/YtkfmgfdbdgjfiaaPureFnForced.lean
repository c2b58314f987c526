/- FnForced: what is forced is true wherever the clauses and what is given are. -/
import Derived.Test.YtkfmgfdbdgjfiaaQFnForcedx10
namespace Go.Proofs.Ytkfmgfdbdgjfiaa.Pure
open Go.RowKit Go.Proofs.Ytkfmgfdbdgjfiaa.QFnForced Go.Proofs.YtkfmgfdbdgjfiaaW.PrintWords Go.Proofs.YtkfmgfdbdgjfiaaW.PrintLast Go.Proofs.YtkfmgfdbdgjfiaaW.PrintMore
set_option linter.unusedVariables false
set_option linter.unusedSimpArgs false

/-! #### rounds -/
/-- From some number of rounds on, g tells r. -/
def Ev {α : Type} (g : Nat → Option α) (r : α) : Prop := ∃ K, ∀ k, K ≤ k → g k = some r
theorem Ev.val {α : Type} (r : α) : Ev (fun _ => some r) r := ⟨0, fun _ _ => rfl⟩
theorem Ev.valEq {α : Type} {r r' : α} (h : r = r') : Ev (fun _ => some r) r' := ⟨0, fun _ _ => by rw [h]⟩
theorem Ev.const {α : Type} {g : Option α} {r : α} (h : g = some r) : Ev (fun _ => g) r := ⟨0, fun _ _ => h⟩
theorem Ev.bind {α β : Type} {g : Nat → Option α} {f : Nat → α → Option β} {a : α} {b : β} (h : Ev g a) (h2 : Ev (fun k => f k a) b) : Ev (fun k => (g k).bind (f k)) b := by
  obtain ⟨K, hK⟩ := h
  obtain ⟨L, hL⟩ := h2
  exact ⟨max K L, fun k hk => by show (g k).bind (f k) = _; rw [hK k (by omega)]; exact hL k (by omega)⟩
theorem Ev.step {α : Type} {g g' : Nat → Option α} {r : α} (h : Ev g' r) (e : ∀ k, g (k + 1) = g' k) : Ev g r := by
  obtain ⟨K, hK⟩ := h
  exact ⟨K + 1, fun k hk => by
    obtain ⟨m, rfl⟩ : ∃ m, k = m + 1 := ⟨k - 1, by omega⟩
    rw [e]
    exact hK m (by omega)⟩
theorem Ev.pos {α : Type} {c : Prop} [Decidable c] {g g' : Nat → Option α} {r : α} (hc : c) (h : Ev g r) : Ev (fun k => if c then g k else g' k) r := by
  obtain ⟨K, hK⟩ := h
  exact ⟨K, fun k hk => by simp only [if_pos hc]; exact hK k hk⟩
theorem Ev.neg {α : Type} {c : Prop} [Decidable c] {g g' : Nat → Option α} {r : α} (hc : ¬ c) (h : Ev g' r) : Ev (fun k => if c then g k else g' k) r := by
  obtain ⟨K, hK⟩ := h
  exact ⟨K, fun k hk => by simp only [if_neg hc]; exact hK k hk⟩
theorem Ev.get {α : Type} {g : Nat → Option α} {r : α} (h : Ev g r) : ∃ k, g k = some r := by
  obtain ⟨K, hK⟩ := h
  exact ⟨K, hK K (Nat.le_refl _)⟩
/-! #### numbers -/
theorem w_id {x : Int} (h0 : -9223372036854775808 ≤ x) (h1 : x ≤ 9223372036854775807) : wrap64 x = x := by
  unfold wrap64
  omega
/-! #### lists -/
theorem rd_nat (l : List Int) (i : Nat) : rd l (i : Int) = l.getD i 0 := by
  unfold rd
  rw [Int.toNat_natCast]
theorem getD_lt {α : Type} {l : List α} {i : Nat} (h : i < l.length) (d : α) : l.getD i d = l[i] := by
  rw [List.getD_eq_getElem?_getD, List.getElem?_eq_getElem h]
  rfl
theorem rd_lt {l : List Int} {i : Nat} (h : i < l.length) : rd l (i : Int) = l[i] := by rw [rd_nat, getD_lt h]
theorem rd_set_eq {l : List Int} {i : Nat} {v : Int} (h : i < l.length) : rd (l.set i v) (i : Int) = v := by
  rw [rd_lt (by simpa using h)]
  simp
theorem rd_set_ne {l : List Int} {i j : Nat} {v : Int} (h : i ≠ j) : rd (l.set i v) (j : Int) = rd l (j : Int) := by
  rw [rd_nat, rd_nat, List.getD_eq_getElem?_getD, List.getD_eq_getElem?_getD, List.getElem?_set_ne h]
theorem rd_app_lt {l m : List Int} {j : Nat} (h : j < l.length) : rd (l ++ m) (j : Int) = rd l (j : Int) := by
  rw [rd_nat, rd_nat, List.getD_eq_getElem?_getD, List.getD_eq_getElem?_getD, List.getElem?_append_left h]
theorem rd_app_eq {l : List Int} {v : Int} : rd (l ++ [v]) (l.length : Int) = v := by
  rw [rd_nat, List.getD_eq_getElem?_getD, List.getElem?_append_right (Nat.le_refl _)]
  simp
theorem wsucc (i : Nat) (h : i ≤ 4611686018427387904) : wrap64 ((i : Int) + 1) = ((i + 1 : Nat) : Int) := by
  unfold wrap64
  omega
/-- g tells in the end whether p is so. -/
def Dec (g : Nat → Option Bool) (p : Prop) : Prop := ∃ b, Ev g b ∧ (b = true ↔ p)
theorem Dec.yes {g : Nat → Option Bool} {p : Prop} (h : Ev g true) (hp : p) : Dec g p := ⟨true, h, by simp [hp]⟩
theorem Dec.no {g : Nat → Option Bool} {p : Prop} (h : Ev g false) (hp : ¬ p) : Dec g p := ⟨false, h, by simp [hp]⟩
theorem Dec.iff {g : Nat → Option Bool} {p q : Prop} (h : Dec g p) (e : p ↔ q) : Dec g q := by
  obtain ⟨b, h1, h2⟩ := h
  exact ⟨b, h1, h2.trans e⟩
theorem all_from {P : Nat → Prop} {i n : Nat} (hi : i < n) : (∀ j, i ≤ j → j < n → P j) ↔ P i ∧ ∀ j, i + 1 ≤ j → j < n → P j := by
  constructor
  · intro h
    exact ⟨h i (Nat.le_refl _) hi, fun j h1 h2 => h j (by omega) h2⟩
  · rintro ⟨h1, h2⟩ j h3 h4
    rcases Nat.lt_or_eq_of_le h3 with h | rfl
    · exact h2 j h h4
    · exact h1
theorem all_none {P : Nat → Prop} {i n : Nat} (hi : n ≤ i) : ∀ j, i ≤ j → j < n → P j := fun j h1 h2 => by omega
/-! #### it tells something, of which P holds -/
def Tot {α : Type} (g : Nat → Option α) (P : α → Prop) : Prop := ∃ r, Ev g r ∧ P r
theorem Tot.of {α : Type} {g : Nat → Option α} {P : α → Prop} {r : α} (h : Ev g r) (hp : P r) : Tot g P := ⟨r, h, hp⟩
theorem Tot.val {α : Type} {P : α → Prop} {r : α} (h : P r) : Tot (fun _ => some r) P := ⟨r, Ev.val r, h⟩
theorem Tot.mono {α : Type} {g : Nat → Option α} {P Q : α → Prop} (h : Tot g P) (hq : ∀ r, P r → Q r) : Tot g Q := by
  obtain ⟨r, h1, h2⟩ := h
  exact ⟨r, h1, hq r h2⟩
theorem Tot.step {α : Type} {g g' : Nat → Option α} {P : α → Prop} (h : Tot g' P) (e : ∀ k, g (k + 1) = g' k) : Tot g P := by
  obtain ⟨r, h1, h2⟩ := h
  exact ⟨r, Ev.step h1 e, h2⟩
theorem Tot.bind {α β : Type} {g : Nat → Option α} {f : Nat → α → Option β} {Q : α → Prop} {P : β → Prop} (h : Tot g Q) (h2 : ∀ a, Q a → Tot (fun k => f k a) P) : Tot (fun k => (g k).bind (f k)) P := by
  obtain ⟨a, ha, hq⟩ := h
  obtain ⟨r, h1, h3⟩ := h2 a hq
  exact ⟨r, Ev.bind ha h1, h3⟩
theorem Tot.pos {α : Type} {c : Prop} [Decidable c] {g g' : Nat → Option α} {P : α → Prop} (hc : c) (h : Tot g P) : Tot (fun k => if c then g k else g' k) P := by
  obtain ⟨r, h1, h2⟩ := h
  exact ⟨r, Ev.pos hc h1, h2⟩
theorem Tot.neg {α : Type} {c : Prop} [Decidable c] {g g' : Nat → Option α} {P : α → Prop} (hc : ¬ c) (h : Tot g' P) : Tot (fun k => if c then g k else g' k) P := by
  obtain ⟨r, h1, h2⟩ := h
  exact ⟨r, Ev.neg hc h1, h2⟩
theorem Tot.ite {α : Type} {c : Prop} [Decidable c] {g g' : Nat → Option α} {P : α → Prop} (h1 : c → Tot g P) (h2 : ¬ c → Tot g' P) : Tot (fun k => if c then g k else g' k) P := by
  by_cases hc : c
  · exact Tot.pos hc (h1 hc)
  · exact Tot.neg hc (h2 hc)
theorem rows_nat (l : List (List Int)) (i : Nat) : rd_L1 l (i : Int) = l.getD i [] := by
  unfold rd_L1
  rw [Int.toNat_natCast]
theorem rows_lt {l : List (List Int)} {i : Nat} (h : i < l.length) : rd_L1 l (i : Int) = l[i] := by rw [rows_nat, getD_lt h]
theorem rows_mem {l : List (List Int)} {i : Nat} (h : i < l.length) : rd_L1 l (i : Int) ∈ l := by
  rw [rows_lt h]
  exact List.getElem_mem h
/-! #### clauses -/
theorem wneg {x : Int} (h0 : -9223372036854775807 ≤ x) (h1 : x ≤ 9223372036854775807) : wrap64 (-x) = -x := w_id (by omega) (by omega)
/-- The atom of a literal. -/
def AbsI (x : Int) : Int := if x < 0 then -x else x
theorem absI_pos (x : Int) : 0 ≤ AbsI x := by unfold AbsI; split <;> omega
theorem spec_abs {x : Int} (h0 : -9223372036854775807 ≤ x) (h1 : x ≤ 9223372036854775807) : Ev (fun _ => spec_l11Abs.f x) (AbsI x) := by
  unfold spec_l11Abs.f AbsI
  by_cases h : x < 0
  · exact Ev.pos h (Ev.valEq (by rw [wneg h0 h1, if_pos h]))
  · exact Ev.neg h (Ev.valEq (by rw [if_neg h]))
theorem impl_abs {x : Int} (h0 : -9223372036854775807 ≤ x) (h1 : x ≤ 9223372036854775807) : Ev (fun _ => impl_atomOf.f x) (AbsI x) := by
  unfold impl_atomOf.f
  rw [wneg h0 h1]
  refine Ev.valEq ?_
  unfold mx AbsI
  split <;> split <;> omega
theorem in_dec {x a b : Int} : Ev (fun _ => impl_in.f x a b) (decide (a ≤ x ∧ x ≤ b)) := by
  unfold impl_in.f
  by_cases h : x ≥ a
  · refine Ev.pos h (Ev.valEq ?_)
    simp only [decide_eq_decide]
    omega
  · refine Ev.neg h (Ev.valEq ?_)
    symm
    rw [decide_eq_false_iff_not]
    omega
theorem sin_dec {x a b : Int} : Ev (fun _ => spec_l1In.f x a b) (decide (a ≤ x ∧ x ≤ b)) := by
  unfold spec_l1In.f
  by_cases h : x ≥ a
  · refine Ev.pos h (Ev.valEq ?_)
    simp only [decide_eq_decide]
    omega
  · refine Ev.neg h (Ev.valEq ?_)
    symm
    rw [decide_eq_false_iff_not]
    omega
/-- A literal of n atoms. -/
def LitOk (n x : Int) : Prop := x ≠ 0 ∧ -n ≤ x ∧ x ≤ n
instance (n x : Int) : Decidable (LitOk n x) := by unfold LitOk; infer_instance
theorem spec_lit {n x : Int} (hn : -9223372036854775807 ≤ n) (hn2 : n ≤ 9223372036854775807) : Ev (fun _ => spec_l11Lit.f x n) (decide (LitOk n x)) := by
  unfold spec_l11Lit.f
  by_cases h : x = 0
  · exact Ev.pos h (Ev.valEq (by symm; rw [decide_eq_false_iff_not]; exact fun h1 => h1.1 h))
  · rw [wneg hn hn2]
    refine Ev.neg h (Ev.bind sin_dec (Ev.valEq ?_))
    simp only [decide_eq_decide]
    unfold LitOk
    omega
/-- Place j of a clause of n atoms. -/
def PlaceOk (n : Int) (c : List Int) (j : Nat) : Prop := LitOk n (rd c (j : Int)) ∧ (0 < j → AbsI (rd c ((j - 1 : Nat) : Int)) < AbsI (rd c (j : Int)))
def ClauseOk (n : Int) (c : List Int) : Prop := (0 ≤ n ∧ n ≤ 700) ∧ ∀ j : Nat, j < c.length → PlaceOk n c j
theorem spec_clause_loop (n : Int) (hn : 0 ≤ n ∧ n ≤ 700) (c : List Int) (hc : c.length ≤ 1048576) : ∀ (d i : Nat), i + d = c.length → (∀ j : Nat, j < i → PlaceOk n c j) →
    Dec (fun k => spec_ClauseValid.l0 k c n (i : Int)) (∀ j : Nat, i ≤ j → j < c.length → PlaceOk n c j) := by
  intro d
  induction d with
  | zero =>
    intro i hi hp
    refine Dec.yes (Ev.step (Ev.neg (by omega) (Ev.bind sin_dec (Ev.valEq ?_))) (fun k => spec_ClauseValid.l0.eq_2 ..)) (all_none (by omega))
    simp [hn]
  | succ d ih =>
    intro i hi hp
    have hwi := wsucc i (by omega)
    have hlt : i < c.length := by omega
    by_cases h : LitOk n (rd c (i : Int))
    · by_cases h0 : 0 < i
      · have hw : wrap64 ((i : Int) - 1) = ((i - 1 : Nat) : Int) := by rw [w_id (by omega) (by omega)]; omega
        have hq := (hp (i - 1) (by omega)).1
        by_cases h2 : AbsI (rd c (i : Int)) ≤ AbsI (rd c ((i - 1 : Nat) : Int))
        · refine Dec.no (Ev.step ?_ (fun k => spec_ClauseValid.l0.eq_2 ..)) (fun h3 => ?_)
          · rw [hwi, hw]
            refine Ev.pos (by omega) (Ev.pos (by omega) (Ev.bind (spec_lit (by omega) (by omega)) (Ev.pos (by simpa using h) (Ev.pos (by omega) (Ev.bind (spec_abs (by have := h.2; omega) (by have := h.2; omega)) (Ev.pos (by omega) (Ev.pos (by omega) (Ev.bind (spec_abs (by have := hq.2; omega) (by have := hq.2; omega)) (Ev.pos h2 (Ev.val _))))))))))
          · have := (h3 i (Nat.le_refl _) hlt).2 h0
            omega
        · obtain ⟨b, hb, hbi⟩ := ih (i + 1) (by omega) (fun j hj => by
            rcases Nat.lt_succ_iff_lt_or_eq.mp hj with h5 | rfl
            · exact hp j h5
            · exact ⟨h, fun _ => by omega⟩)
          refine ⟨b, Ev.step ?_ (fun k => spec_ClauseValid.l0.eq_2 ..), ?_⟩
          · rw [hwi, hw]
            refine Ev.pos (by omega) (Ev.pos (by omega) (Ev.bind (spec_lit (by omega) (by omega)) (Ev.pos (by simpa using h) (Ev.pos (by omega) (Ev.bind (spec_abs (by have := h.2; omega) (by have := h.2; omega)) (Ev.pos (by omega) (Ev.pos (by omega) (Ev.bind (spec_abs (by have := hq.2; omega) (by have := hq.2; omega)) (Ev.neg h2 hb)))))))))
          · rw [hbi, all_from (P := PlaceOk n c) hlt]
            exact ⟨fun h3 => ⟨⟨h, fun _ => by omega⟩, h3⟩, fun h3 => h3.2⟩
      · obtain ⟨b, hb, hbi⟩ := ih (i + 1) (by omega) (fun j hj => by
          rcases Nat.lt_succ_iff_lt_or_eq.mp hj with h5 | rfl
          · exact hp j h5
          · exact ⟨h, fun h6 => absurd h6 h0⟩)
        refine ⟨b, Ev.step ?_ (fun k => spec_ClauseValid.l0.eq_2 ..), ?_⟩
        · rw [hwi]
          exact Ev.pos (by omega) (Ev.pos (by omega) (Ev.bind (spec_lit (by omega) (by omega)) (Ev.pos (by simpa using h) (Ev.neg (by omega) hb))))
        · rw [hbi, all_from (P := PlaceOk n c) hlt]
          exact ⟨fun h3 => ⟨⟨h, fun h6 => absurd h6 h0⟩, h3⟩, fun h3 => h3.2⟩
    · refine Dec.no (Ev.step (Ev.pos (by omega) (Ev.pos (by omega) (Ev.bind (spec_lit (by omega) (by omega)) (Ev.neg (by simpa using h) (Ev.val _))))) (fun k => spec_ClauseValid.l0.eq_2 ..)) (fun h3 => h (h3 i (Nat.le_refl _) hlt).1)
theorem impl_clause_loop (n : Int) (hn : 0 ≤ n ∧ n ≤ 700) (c : List Int) (hc : c.length ≤ 1048576) : ∀ (d i : Nat), i + d = c.length → (∀ j : Nat, j < i → PlaceOk n c j) →
    Dec (fun k => impl_ClauseValid.l0 k c n c (c.length : Int) (i : Int)) (∀ j : Nat, i ≤ j → j < c.length → PlaceOk n c j) := by
  intro d
  have hwn := wneg (x := n) (by omega) (by omega)
  induction d with
  | zero =>
    intro i hi hp
    exact Dec.yes (Ev.step (Ev.neg (by omega) (Ev.val _)) (fun k => impl_ClauseValid.l0.eq_2 ..)) (all_none (by omega))
  | succ d ih =>
    intro i hi hp
    have hwi := wsucc i (by omega)
    have hlt : i < c.length := by omega
    by_cases hr : -n ≤ rd c (i : Int) ∧ rd c (i : Int) ≤ n
    · by_cases hz : rd c (i : Int) = 0
      · refine Dec.no (Ev.step ?_ (fun k => impl_ClauseValid.l0.eq_2 ..)) (fun h3 => (h3 i (Nat.le_refl _) hlt).1.1 hz)
        rw [hwn]
        exact Ev.pos (by omega) (Ev.pos (by omega) (Ev.pos (by omega) (Ev.bind in_dec (Ev.pos (by simpa using hr) (Ev.pos hz (Ev.val _))))))
      · have h : LitOk n (rd c (i : Int)) := ⟨hz, hr⟩
        by_cases h0 : 0 < i
        · have hw : wrap64 ((i : Int) - 1) = ((i - 1 : Nat) : Int) := by rw [w_id (by omega) (by omega)]; omega
          have hq := (hp (i - 1) (by omega)).1
          by_cases h2 : AbsI (rd c ((i - 1 : Nat) : Int)) ≥ AbsI (rd c (i : Int))
          · refine Dec.no (Ev.step ?_ (fun k => impl_ClauseValid.l0.eq_2 ..)) (fun h3 => ?_)
            · rw [hwi, hw, hwn]
              exact Ev.pos (by omega) (Ev.pos (by omega) (Ev.pos (by omega) (Ev.bind in_dec (Ev.pos (by simpa using hr) (Ev.neg hz (Ev.pos (by omega) (Ev.pos (by omega) (Ev.pos (by omega) (Ev.bind (impl_abs (by have := hq.2; omega) (by have := hq.2; omega)) (Ev.bind (impl_abs (by have := h.2; omega) (by have := h.2; omega)) (Ev.pos h2 (Ev.val _))))))))))))
            · have := (h3 i (Nat.le_refl _) hlt).2 h0
              omega
          · obtain ⟨b, hb, hbi⟩ := ih (i + 1) (by omega) (fun j hj => by
              rcases Nat.lt_succ_iff_lt_or_eq.mp hj with h5 | rfl
              · exact hp j h5
              · exact ⟨h, fun _ => by omega⟩)
            refine ⟨b, Ev.step ?_ (fun k => impl_ClauseValid.l0.eq_2 ..), ?_⟩
            · rw [hwi, hw, hwn]
              exact Ev.pos (by omega) (Ev.pos (by omega) (Ev.pos (by omega) (Ev.bind in_dec (Ev.pos (by simpa using hr) (Ev.neg hz (Ev.pos (by omega) (Ev.pos (by omega) (Ev.pos (by omega) (Ev.bind (impl_abs (by have := hq.2; omega) (by have := hq.2; omega)) (Ev.bind (impl_abs (by have := h.2; omega) (by have := h.2; omega)) (Ev.neg h2 hb)))))))))))
            · rw [hbi, all_from (P := PlaceOk n c) hlt]
              exact ⟨fun h3 => ⟨⟨h, fun _ => by omega⟩, h3⟩, fun h3 => h3.2⟩
        · obtain ⟨b, hb, hbi⟩ := ih (i + 1) (by omega) (fun j hj => by
            rcases Nat.lt_succ_iff_lt_or_eq.mp hj with h5 | rfl
            · exact hp j h5
            · exact ⟨h, fun h6 => absurd h6 h0⟩)
          refine ⟨b, Ev.step ?_ (fun k => impl_ClauseValid.l0.eq_2 ..), ?_⟩
          · rw [hwi, hwn]
            exact Ev.pos (by omega) (Ev.pos (by omega) (Ev.pos (by omega) (Ev.bind in_dec (Ev.pos (by simpa using hr) (Ev.neg hz (Ev.neg (by omega) hb))))))
          · rw [hbi, all_from (P := PlaceOk n c) hlt]
            exact ⟨fun h3 => ⟨⟨h, fun h6 => absurd h6 h0⟩, h3⟩, fun h3 => h3.2⟩
    · refine Dec.no (Ev.step ?_ (fun k => impl_ClauseValid.l0.eq_2 ..)) (fun h3 => hr (h3 i (Nat.le_refl _) hlt).1.2)
      rw [hwn]
      exact Ev.pos (by omega) (Ev.pos (by omega) (Ev.pos (by omega) (Ev.bind in_dec (Ev.neg (by simpa using hr) (Ev.val _)))))
/-- Of any number of atoms, the reference tells something. -/
theorem spec_clause_any_loop (n : Int) (hn : ¬ (0 ≤ n ∧ n ≤ 700)) (c : List Int) (hc : c.length ≤ 1048576) : ∀ (d i : Nat), i + d = c.length → Ev (fun k => spec_ClauseValid.l0 k c n (i : Int)) false := by
  intro d
  induction d with
  | zero =>
    intro i hi
    refine Ev.step (Ev.neg (by omega) (Ev.bind sin_dec (Ev.valEq ?_))) (fun k => spec_ClauseValid.l0.eq_2 ..)
    simpa using hn
  | succ d ih =>
    intro i hi
    have hwi := wsucc i (by omega)
    have hlit : ∃ b, Ev (fun _ => spec_l11Lit.f (rd c (i : Int)) n) b := by
      unfold spec_l11Lit.f
      by_cases h : rd c (i : Int) = 0
      · exact ⟨_, Ev.pos h (Ev.val _)⟩
      · exact ⟨_, Ev.neg h (Ev.bind sin_dec (Ev.val _))⟩
    have habs : ∀ x : Int, ∃ b, Ev (fun _ => spec_l11Abs.f x) b := by
      intro x
      unfold spec_l11Abs.f
      by_cases h : x < 0
      · exact ⟨_, Ev.pos h (Ev.val _)⟩
      · exact ⟨_, Ev.neg h (Ev.val _)⟩
    obtain ⟨b, hb⟩ := hlit
    refine Ev.step ?_ (fun k => spec_ClauseValid.l0.eq_2 ..)
    rw [hwi]
    refine Ev.pos (by omega) (Ev.pos (by omega) (Ev.bind hb ?_))
    cases b with
    | false => exact Ev.neg (by decide) (Ev.val _)
    | true =>
      refine Ev.pos rfl ?_
      by_cases h0 : (i : Int) > 0
      · have hw : wrap64 ((i : Int) - 1) = ((i - 1 : Nat) : Int) := by rw [w_id (by omega) (by omega)]; omega
        rw [hw]
        obtain ⟨p, hp⟩ := habs (rd c (i : Int))
        obtain ⟨q, hq⟩ := habs (rd c ((i - 1 : Nat) : Int))
        refine Ev.pos h0 (Ev.bind hp (Ev.pos (by omega) (Ev.pos (by omega) (Ev.bind hq ?_))))
        by_cases h2 : p ≤ q
        · exact Ev.pos h2 (Ev.val _)
        · exact Ev.neg h2 (ih (i + 1) (by omega))
      · exact Ev.neg h0 (ih (i + 1) (by omega))
theorem spec_clause (n : Int) (c : List Int) (hc : c.length ≤ 1048576) : Dec (fun k => spec_ClauseValid.f k c n) (ClauseOk n c) := by
  unfold spec_ClauseValid.f
  by_cases hn : 0 ≤ n ∧ n ≤ 700
  · exact (spec_clause_loop n hn c hc c.length 0 (by omega) (fun j hj => by omega)).iff ⟨fun h => ⟨hn, fun j hj => h j (by omega) hj⟩, fun h j _ hj => h.2 j hj⟩
  · exact Dec.no (spec_clause_any_loop n hn c hc c.length 0 (by omega)) (fun h => hn h.1)
theorem impl_clause (n : Int) (c : List Int) (hc : c.length ≤ 1048576) : Dec (fun k => impl_ClauseValid.f k c n) (ClauseOk n c) := by
  unfold impl_ClauseValid.f
  by_cases hn : 0 ≤ n ∧ n ≤ 700
  · obtain ⟨b, h1, h2⟩ := impl_clause_loop n hn c hc c.length 0 (by omega) (fun j hj => by omega)
    exact ⟨b, Ev.bind in_dec (Ev.pos (by simpa using hn) h1), h2.trans ⟨fun h => ⟨hn, fun j hj => h j (by omega) hj⟩, fun h j _ hj => h.2 j hj⟩⟩
  · exact Dec.no (Ev.bind in_dec (Ev.neg (by simpa using hn) (Ev.val _))) (fun h => hn h.1)
/-- Clauses of n atoms. -/
def ClausesOk (n : Int) (l : List (List Int)) : Prop := (0 ≤ n ∧ n ≤ 700) ∧ l.length ≤ 2500 ∧ ∀ j : Nat, j < l.length → ClauseOk n (rd_L1 l (j : Int))
def Small (l : List (List Int)) : Prop := l.length ≤ 1048576 ∧ ∀ j : Nat, j < l.length → (rd_L1 l (j : Int)).length ≤ 1048576
theorem spec_clauses_loop (n : Int) (l : List (List Int)) (hl : Small l) : ∀ (d i : Nat), i + d = l.length →
    Dec (fun k => spec_ClausesValid.l0 k (i : Int) n l) (∀ j : Nat, i ≤ j → j < l.length → ClauseOk n (rd_L1 l (j : Int))) := by
  intro d
  have h1 := hl.1
  induction d with
  | zero =>
    intro i hi
    exact Dec.yes (Ev.step (Ev.neg (by omega) (Ev.val _)) (fun k => spec_ClausesValid.l0.eq_2 ..)) (all_none (by omega))
  | succ d ih =>
    intro i hi
    have hwi := wsucc i (by omega)
    have hlt : i < l.length := by omega
    obtain ⟨b, hb, hbi⟩ := spec_clause n (rd_L1 l (i : Int)) (hl.2 i hlt)
    cases b with
    | false => exact Dec.no (Ev.step (Ev.pos (by omega) (Ev.pos (by omega) (Ev.bind hb (Ev.neg (by decide) (Ev.val _))))) (fun k => spec_ClausesValid.l0.eq_2 ..)) (fun h => by simpa using hbi.mpr (h i (Nat.le_refl _) hlt))
    | true =>
      obtain ⟨b2, hb2, hbi2⟩ := ih (i + 1) (by omega)
      refine ⟨b2, Ev.step ?_ (fun k => spec_ClausesValid.l0.eq_2 ..), ?_⟩
      · rw [hwi]
        exact Ev.pos (by omega) (Ev.pos (by omega) (Ev.bind hb (Ev.pos rfl hb2)))
      · rw [hbi2, all_from (P := fun j => ClauseOk n (rd_L1 l (j : Int))) hlt]
        exact ⟨fun h => ⟨hbi.mp rfl, h⟩, fun h => h.2⟩
theorem spec_clauses (n : Int) (l : List (List Int)) (hl : Small l) : Dec (fun k => spec_ClausesValid.f k n l) (ClausesOk n l) := by
  unfold spec_ClausesValid.f
  by_cases hn : 0 ≤ n ∧ n ≤ 700
  · by_cases h2 : (l.length : Int) > 2500
    · refine Dec.no (Ev.bind sin_dec (Ev.pos (by simpa using hn) (Ev.step (Ev.pos (by simpa using h2) (Ev.val _)) (fun k => spec_ClausesValid.j0.eq_2 ..)))) (fun h => by have := h.2.1; omega)
    · obtain ⟨b, hb, hbi⟩ := spec_clauses_loop n l hl l.length 0 (by omega)
      exact ⟨b, Ev.bind sin_dec (Ev.pos (by simpa using hn) (Ev.step (Ev.neg (by simpa using h2) hb) (fun k => spec_ClausesValid.j0.eq_2 ..))), hbi.trans ⟨fun h => ⟨hn, by omega, fun j hj => h j (by omega) hj⟩, fun h j _ hj => h.2.2 j hj⟩⟩
  · exact Dec.no (Ev.bind sin_dec (Ev.neg (by simpa using hn) (Ev.step (Ev.pos rfl (Ev.val _)) (fun k => spec_ClausesValid.j0.eq_2 ..)))) (fun h => hn h.1)
theorem idx_tot (p : Nat → Int → Option Bool) (P : Nat → Prop) (m : Nat) (hp : ∀ j : Nat, j < m → Dec (fun k => p k (j : Int)) (P j)) : ∀ (d i : Nat), i + d = m →
    Tot (fun k => Copy.idxO (p k) d (i : Int)) (fun r => 0 ≤ r ↔ ∃ j : Nat, i ≤ j ∧ j < m ∧ P j) := by
  intro d
  induction d with
  | zero =>
    intro i hi
    exact Tot.val ⟨fun h => by omega, fun ⟨j, h1, h2, _⟩ => by omega⟩
  | succ d ih =>
    intro i hi
    obtain ⟨b, hb, hbi⟩ := hp i (by omega)
    cases b with
    | true => exact ⟨(i : Int), Ev.bind hb (Ev.pos rfl (Ev.val _)), fun _ => ⟨i, Nat.le_refl _, by omega, hbi.mp rfl⟩, fun _ => by omega⟩
    | false =>
      obtain ⟨r, hr, hri⟩ := ih (i + 1) (by omega)
      refine ⟨r, Ev.bind hb (Ev.neg (by decide) ?_), hri.trans ?_⟩
      · have e : ((i + 1 : Nat) : Int) = (i : Int) + 1 := by omega
        rw [← e]
        exact hr
      · constructor
        · rintro ⟨j, h1, h2, h3⟩
          exact ⟨j, by omega, h2, h3⟩
        · rintro ⟨j, h1, h2, h3⟩
          rcases Nat.lt_or_eq_of_le h1 with h4 | rfl
          · exact ⟨j, h4, h2, h3⟩
          · exact absurd (hbi.mpr h3) (by decide)
theorem impl_clauses (n : Int) (l : List (List Int)) (hl : Small l) : Dec (fun k => impl_ClausesValid.f k n l) (ClausesOk n l) := by
  unfold impl_ClausesValid.f
  by_cases hn : 0 ≤ n ∧ n ≤ 700
  · by_cases h2 : (l.length : Int) ≤ 2500
    · obtain ⟨r, hr, hri⟩ := idx_tot (fun k i => impl_ClausesValid.p k n l i) (fun j => ¬ ClauseOk n (rd_L1 l (j : Int))) l.length (fun j hj => by
        unfold impl_ClausesValid.p
        obtain ⟨b, hb, hbi⟩ := impl_clause n (rd_L1 l (j : Int)) (hl.2 j hj)
        exact ⟨!b, Ev.bind hb (Ev.val _), by rw [← hbi]; cases b <;> simp⟩) l.length 0 (by omega)
      refine ⟨!(decide (0 ≤ r)), Ev.bind in_dec (Ev.pos (by simpa using hn) (Ev.pos h2 (Ev.bind hr (Ev.val _)))), ?_⟩
      rw [Bool.not_eq_true', decide_eq_false_iff_not, hri]
      constructor
      · intro h
        refine ⟨hn, by omega, fun j hj => Classical.byContradiction fun h3 => h ⟨j, by omega, hj, h3⟩⟩
      · rintro h ⟨j, _, hj, h3⟩
        exact h3 (h.2.2 j hj)
    · exact Dec.no (Ev.bind in_dec (Ev.pos (by simpa using hn) (Ev.neg h2 (Ev.val _)))) (fun h => by have := h.2.1; omega)
  · exact Dec.no (Ev.bind in_dec (Ev.neg (by simpa using hn) (Ev.val _))) (fun h => hn h.1)
/-! #### what clauses force: the reference's signs are literals, the program's are 1 and -1 -/
theorem absN (x : Int) : AbsI x = ((x.natAbs : Nat) : Int) := by unfold AbsI; split <;> omega
def AtomAt (v s : List Int) (a : Nat) : Prop := (rd v (a : Int) = 0 ∧ rd s (a : Int) = 0) ∨ (0 < a ∧ rd v (a : Int) = (a : Int) ∧ rd s (a : Int) = 1) ∨ (0 < a ∧ rd v (a : Int) = -(a : Int) ∧ rd s (a : Int) = -1)
def SignsOk (n : Nat) (v s : List Int) : Prop := v.length = n + 1 ∧ s.length = n + 1 ∧ ∀ a : Nat, a ≤ n → AtomAt v s a
def LitsOk (n : Nat) (c : List Int) : Prop := c.length ≤ 1048576 ∧ ∀ j : Nat, j < c.length → LitOk (n : Int) (rd c (j : Int))
theorem bit_ev (b : Bool) : Ev (fun _ => impl_bit.f b) (if b = true then 1 else 0) := by
  unfold impl_bit.f
  cases b
  · exact Ev.neg (by decide) (Ev.val _)
  · exact Ev.pos rfl (Ev.val _)
theorem scan_sat (n : Nat) (hn : n ≤ 700) (l : List (List Int)) (s : List Int) (hs : s.length = n + 1) (c : List Int) (hc : LitsOk n c) (x5 : Bool) (L : List (List Int)) (x16 x17 : Int) (r : Bool × List Int)
    (hend : ∀ y8 y9 : Int, Ev (fun k => impl_forced.l2 k l s x5 y8 y9 true L x16 x17 c (c.length : Int) (c.length : Int)) r) :
    ∀ (d i : Nat) (x8 x9 : Int), i + d = c.length → Ev (fun k => impl_forced.l2 k l s x5 x8 x9 true L x16 x17 c (c.length : Int) (i : Int)) r := by
  have hcl := hc.1
  intro d
  induction d with
  | zero =>
    intro i x8 x9 hi
    have : i = c.length := by omega
    subst this
    exact hend x8 x9
  | succ d ih =>
    intro i x8 x9 hi
    have hwi := wsucc i (by omega)
    have hlt : i < c.length := by omega
    obtain ⟨_, hx1, hx2⟩ := hc.2 i hlt
    refine Ev.step ?_ (fun k => impl_forced.l2.eq_2 ..)
    rw [hwi]
    refine Ev.pos (by omega) (Ev.pos (by omega) (Ev.pos (by omega) (Ev.bind (impl_abs (by omega) (by omega)) (Ev.pos (absI_pos _) (Ev.pos (by rw [absN]; omega) ?_)))))
    by_cases h0 : rd s (AbsI (rd c (i : Int))) = 0
    · exact Ev.pos h0 (ih (i + 1) _ _ (by omega))
    · refine Ev.neg h0 ?_
      by_cases h1 : ((decide (rd s (AbsI (rd c (i : Int))) > 0)) == (decide (rd c (i : Int) > 0))) = true
      · exact Ev.pos h1 (ih (i + 1) _ _ (by omega))
      · exact Ev.neg h1 (ih (i + 1) _ _ (by omega))
theorem scan (n : Nat) (hn : n ≤ 700) (l : List (List Int)) (v s : List Int) (hv : SignsOk n v s) (c : List Int) (hc : LitsOk n c) (x5 : Bool) (L : List (List Int)) (x16 x17 : Int) :
    ∀ (d i m : Nat) (last : Int), i + d = c.length → m ≤ i → (1 ≤ m → LitOk (n : Int) last ∧ rd v (AbsI last) = 0) →
      (Ev (fun k => spec_l11Left.l0 k c v (m : Int) last (i : Int)) ((-1 : Int), (0 : Int)) ∧ ∀ r, (∀ y8 y9 : Int, Ev (fun k => impl_forced.l2 k l s x5 y8 y9 true L x16 x17 c (c.length : Int) (c.length : Int)) r) → Ev (fun k => impl_forced.l2 k l s x5 last (m : Int) false L x16 x17 c (c.length : Int) (i : Int)) r) ∨
      (∃ (m' : Nat) (last' : Int), m' ≤ c.length ∧ (1 ≤ m' → LitOk (n : Int) last' ∧ rd v (AbsI last') = 0) ∧ Ev (fun k => spec_l11Left.l0 k c v (m : Int) last (i : Int)) ((m' : Int), last') ∧
        ∀ r, Ev (fun k => impl_forced.l2 k l s x5 last' (m' : Int) false L x16 x17 c (c.length : Int) (c.length : Int)) r → Ev (fun k => impl_forced.l2 k l s x5 last (m : Int) false L x16 x17 c (c.length : Int) (i : Int)) r) := by
  have hcl := hc.1
  obtain ⟨hvl, hsl, hat⟩ := hv
  intro d
  induction d with
  | zero =>
    intro i m last hi hm hlast
    have : i = c.length := by omega
    subst this
    exact Or.inr ⟨m, last, hm, hlast, Ev.step (Ev.neg (by omega) (Ev.val _)) (fun k => spec_l11Left.l0.eq_2 ..), fun r hr => hr⟩
  | succ d ih =>
    intro i m last hi hm hlast
    have hwi := wsucc i (by omega)
    have hwm := wsucc m (by omega)
    have hlt : i < c.length := by omega
    have hlit := hc.2 i hlt
    obtain ⟨hx0, hx1, hx2⟩ := hlit
    have ha := hat (rd c (i : Int)).natAbs (by omega)
    rw [AtomAt, ← absN] at ha
    have hax : AbsI (rd c (i : Int)) = rd c (i : Int) ∨ AbsI (rd c (i : Int)) = -(rd c (i : Int)) := by unfold AbsI; split <;> omega
    have hpos := absI_pos (rd c (i : Int))
    have hlen : AbsI (rd c (i : Int)) < (v.length : Int) := by rw [absN]; omega
    have hlen2 : AbsI (rd c (i : Int)) < (s.length : Int) := by rw [absN]; omega
    have hsg : AbsI (rd c (i : Int)) = if rd c (i : Int) < 0 then -(rd c (i : Int)) else rd c (i : Int) := rfl
    have specE : ∀ q, Ev (fun k => if rd v (AbsI (rd c (i : Int))) = rd c (i : Int) then some ((-1 : Int), (0 : Int)) else if rd v (AbsI (rd c (i : Int))) = 0 then spec_l11Left.l0 k c v ((m + 1 : Nat) : Int) (rd c (i : Int)) ((i + 1 : Nat) : Int) else spec_l11Left.l0 k c v (m : Int) last ((i + 1 : Nat) : Int)) q → Ev (fun k => spec_l11Left.l0 k c v (m : Int) last (i : Int)) q := by
      intro q hq
      refine Ev.step ?_ (fun k => spec_l11Left.l0.eq_2 ..)
      rw [hwi, hwm]
      exact Ev.pos (by omega) (Ev.pos (by omega) (Ev.bind (spec_abs (by omega) (by omega)) (Ev.pos hpos (Ev.pos hlen hq))))
    have implE : ∀ q, Ev (fun k => if rd s (AbsI (rd c (i : Int))) = 0 then impl_forced.l2 k l s x5 (rd c (i : Int)) ((m + 1 : Nat) : Int) false L x16 x17 c (c.length : Int) ((i + 1 : Nat) : Int) else if ((decide (rd s (AbsI (rd c (i : Int))) > 0)) == (decide (rd c (i : Int) > 0))) = true then impl_forced.l2 k l s x5 last (m : Int) true L x16 x17 c (c.length : Int) ((i + 1 : Nat) : Int) else impl_forced.l2 k l s x5 last (m : Int) false L x16 x17 c (c.length : Int) ((i + 1 : Nat) : Int)) q → Ev (fun k => impl_forced.l2 k l s x5 last (m : Int) false L x16 x17 c (c.length : Int) (i : Int)) q := by
      intro q hq
      refine Ev.step ?_ (fun k => impl_forced.l2.eq_2 ..)
      rw [hwi, hwm]
      exact Ev.pos (by omega) (Ev.pos (by omega) (Ev.pos (by omega) (Ev.bind (impl_abs (by omega) (by omega)) (Ev.pos hpos (Ev.pos hlen2 hq)))))
    by_cases hz : rd v (AbsI (rd c (i : Int))) = 0
    · have hs0 : rd s (AbsI (rd c (i : Int))) = 0 := by
        rcases ha with h | h | h
        · exact h.2
        · omega
        · omega
      rcases ih (i + 1) (m + 1) (rd c (i : Int)) (by omega) (by omega) (fun _ => ⟨⟨hx0, hx1, hx2⟩, hz⟩) with ⟨h1, h2⟩ | ⟨m', last', h1, h2, h3, h4⟩
      · exact Or.inl ⟨specE _ (Ev.neg (by omega) (Ev.pos hz h1)), fun r hr => implE r (Ev.pos hs0 (h2 r hr))⟩
      · exact Or.inr ⟨m', last', h1, h2, specE _ (Ev.neg (by omega) (Ev.pos hz h3)), fun r hr => implE r (Ev.pos hs0 (h4 r hr))⟩
    · have hs0 : rd s (AbsI (rd c (i : Int))) ≠ 0 := by
        rcases ha with h | h | h
        · exact absurd h.1 hz
        · omega
        · omega
      by_cases he : rd v (AbsI (rd c (i : Int))) = rd c (i : Int)
      · refine Or.inl ⟨specE _ (Ev.pos he (Ev.val _)), fun r hr => implE r (Ev.neg hs0 (Ev.pos ?_ (scan_sat n hn l s hsl c hc x5 L x16 x17 r hr d (i + 1) _ _ (by omega))))⟩
        rw [beq_iff_eq, decide_eq_decide]
        split at hsg <;> rcases ha with h | h | h <;> omega
      · have hne : ¬ ((decide (rd s (AbsI (rd c (i : Int))) > 0)) == (decide (rd c (i : Int) > 0))) = true := by
          rw [beq_iff_eq, decide_eq_decide]
          split at hsg <;> rcases ha with h | h | h <;> omega
        rcases ih (i + 1) m last (by omega) (by omega) hlast with ⟨h1, h2⟩ | ⟨m', last', h1, h2, h3, h4⟩
        · exact Or.inl ⟨specE _ (Ev.neg he (Ev.neg hz h1)), fun r hr => implE r (Ev.neg hs0 (Ev.neg hne (h2 r hr)))⟩
        · exact Or.inr ⟨m', last', h1, h2, specE _ (Ev.neg he (Ev.neg hz h3)), fun r hr => implE r (Ev.neg hs0 (Ev.neg hne (h4 r hr)))⟩
/-- The sign that the program gives to a literal. -/
def sgn (x : Int) : Int := if x < 0 then -1 else 1
theorem sgn_ev (x : Int) : wrap64 (1 - wrap64 (2 * (if (decide (x < 0)) = true then (1 : Int) else 0))) = sgn x := by
  unfold sgn
  by_cases h : x < 0
  · rw [if_pos h, show decide (x < 0) = true from decide_eq_true h, if_pos rfl, show (2 : Int) * 1 = 2 from rfl, w_id (x := 2) (by omega) (by omega), w_id (by omega) (by omega)]
    rfl
  · rw [if_neg h, show decide (x < 0) = false from decide_eq_false h, if_neg (by decide), show (2 : Int) * 0 = 0 from rfl, w_id (x := 0) (by omega) (by omega), w_id (by omega) (by omega)]
    rfl
theorem signs_set {n : Nat} {v s : List Int} (h : SignsOk n v s) {x : Int} (hx : LitOk (n : Int) x) : SignsOk n (v.set x.natAbs x) (s.set x.natAbs (sgn x)) := by
  obtain ⟨h1, h2, h3⟩ := h
  obtain ⟨hx0, hx1, hx2⟩ := hx
  refine ⟨by simpa using h1, by simpa using h2, fun a ha => ?_⟩
  by_cases e : a = x.natAbs
  · subst e
    unfold AtomAt
    rw [rd_set_eq (by omega), rd_set_eq (by omega)]
    unfold sgn
    split <;> omega
  · unfold AtomAt
    rw [rd_set_ne (fun h => e h.symm), rd_set_ne (fun h => e h.symm)]
    exact h3 a ha
theorem zeros_set {v : List Int} {a : Nat} {x : Int} (ha : a < v.length) (h0 : rd v (a : Int) = 0) (hx : x ≠ 0) : (v.set a x).count 0 < v.count 0 := by
  have hv : v[a] = 0 := by rw [← rd_lt ha]; exact h0
  have hm : 0 < v.count 0 := List.count_pos_iff.mpr (by rw [← hv]; exact List.getElem_mem ha)
  rw [List.count_set ha]
  simp [hv, hx]
  omega
def AllLits (n : Nat) (l : List (List Int)) : Prop := l.length ≤ 1048576 ∧ ∀ j : Nat, j < l.length → LitsOk n (rd_L1 l (j : Int))
theorem force_pass (n : Nat) (hn : n ≤ 700) (l : List (List Int)) (hl : AllLits n l) (z : Nat)
    (IH : ∀ v s, SignsOk n v s → v.count 0 < z → ∃ b v' s', Ev (fun k => spec_l11Force.l0 k l v true) (b, v') ∧ Ev (fun k => impl_forced.l0 k l s true) (b, s') ∧ SignsOk n v' s') :
    ∀ (d i : Nat) (x5 : Bool) (v s : List Int), i + d = l.length → SignsOk n v s → v.count 0 ≤ z → (x5 = true → v.count 0 < z) →
      ∃ b v' s', Ev (fun k => spec_l11Force.l1 k l v x5 (i : Int)) (b, v') ∧ Ev (fun k => impl_forced.l1 k l s x5 l (l.length : Int) (i : Int)) (b, s') ∧ SignsOk n v' s' := by
  have hll := hl.1
  intro d
  induction d with
  | zero =>
    intro i x5 v s hi hv hz hx
    cases x5 with
    | false =>
      exact ⟨true, v, s, Ev.step (Ev.neg (by omega) (Ev.step (Ev.neg (by decide) (Ev.val _)) (fun k => spec_l11Force.l0.eq_2 ..))) (fun k => spec_l11Force.l1.eq_2 ..),
        Ev.step (Ev.neg (by omega) (Ev.step (Ev.neg (by decide) (Ev.val _)) (fun k => impl_forced.l0.eq_2 ..))) (fun k => impl_forced.l1.eq_2 ..), hv⟩
    | true =>
      obtain ⟨b, v', s', h1, h2, h3⟩ := IH v s hv (hx rfl)
      exact ⟨b, v', s', Ev.step (Ev.neg (by omega) h1) (fun k => spec_l11Force.l1.eq_2 ..), Ev.step (Ev.neg (by omega) h2) (fun k => impl_forced.l1.eq_2 ..), h3⟩
  | succ d ih =>
    intro i x5 v s hi hv hz hx
    have hwi := wsucc i (by omega)
    have hlt : i < l.length := by omega
    have hcl := hl.2 i hlt
    have specE : ∀ (p : Int × Int) q, Ev (fun k => spec_l11Left.l0 k (rd_L1 l (i : Int)) v 0 0 0) p → Ev (fun k => if p.1 = 0 then some (false, v) else if p.1 = 1 then ((spec_l11Abs.f p.2).bind fun t => if 0 ≤ t then (if t < (v.length : Int) then spec_l11Force.l1 k l (v.set (t : Int).toNat p.2) true ((i + 1 : Nat) : Int) else none) else none) else spec_l11Force.l1 k l v x5 ((i + 1 : Nat) : Int)) q → Ev (fun k => spec_l11Force.l1 k l v x5 (i : Int)) q := by
      intro p q hp hq
      refine Ev.step ?_ (fun k => spec_l11Force.l1.eq_2 ..)
      rw [hwi]
      exact Ev.pos (by omega) (Ev.pos (by omega) (Ev.bind (by unfold spec_l11Left.f; exact hp) hq))
    have implE : ∀ q, Ev (fun k => impl_forced.l2 k l s x5 0 0 false l (l.length : Int) (i : Int) (rd_L1 l (i : Int)) ((rd_L1 l (i : Int)).length : Int) 0) q → Ev (fun k => impl_forced.l1 k l s x5 l (l.length : Int) (i : Int)) q := by
      intro q hq
      refine Ev.step ?_ (fun k => impl_forced.l1.eq_2 ..)
      exact Ev.pos (by omega) (Ev.pos (by omega) (Ev.pos (by omega) hq))
    rcases scan n hn l v s hv _ hcl x5 l (l.length : Int) (i : Int) _ 0 0 0 (Nat.zero_add _) (Nat.le_refl _) (fun h => by omega) with ⟨h1, h2⟩ | ⟨m, last, hm, hlast, h1, h2⟩
    · obtain ⟨b, v', s', e1, e2, e3⟩ := ih (i + 1) x5 v s (by omega) hv hz hx
      refine ⟨b, v', s', specE _ _ h1 (Ev.neg (by decide) (Ev.neg (by decide) e1)), implE _ (h2 _ (fun y8 y9 => Ev.step ?_ (fun k => impl_forced.l2.eq_2 ..))), e3⟩
      rw [hwi]
      exact Ev.neg (by omega) (Ev.pos rfl e2)
    · by_cases m0 : m = 0
      · subst m0
        exact ⟨false, v, s, specE _ _ h1 (Ev.pos rfl (Ev.val _)), implE _ (h2 _ (Ev.step (Ev.neg (by omega) (Ev.neg (by decide) (Ev.pos rfl (Ev.val _)))) (fun k => impl_forced.l2.eq_2 ..))), hv⟩
      · by_cases m1 : m = 1
        · subst m1
          obtain ⟨hlit, h0⟩ := hlast (Nat.le_refl _)
          have hx0 := hlit.1
          have hx1 := hlit.2.1
          have hx2 := hlit.2.2
          have hvl := hv.1
          have hsl := hv.2.1
          rw [absN] at h0
          have hzs := zeros_set (x := last) (by omega) h0 hx0
          obtain ⟨b, v', s', e1, e2, e3⟩ := ih (i + 1) true (v.set last.natAbs last) (s.set last.natAbs (sgn last)) (by omega) (signs_set hv hlit) (by omega) (fun _ => by omega)
          refine ⟨b, v', s', specE _ _ h1 (Ev.neg (by simp) (Ev.pos (by simp) (Ev.bind (spec_abs (by omega) (by omega)) (Ev.pos (absI_pos _) (Ev.pos (by rw [absN]; omega) ?_))))), implE _ (h2 _ (Ev.step ?_ (fun k => impl_forced.l2.eq_2 ..))), e3⟩
          · rw [absN, Int.toNat_natCast]
            exact e1
          · rw [hwi]
            refine Ev.neg (by omega) (Ev.neg (by decide) (Ev.neg (by simp) (Ev.pos (by simp) (Ev.bind (impl_abs (by omega) (by omega)) (Ev.bind (bit_ev _) (Ev.pos (absI_pos _) (Ev.pos (by rw [absN]; omega) ?_)))))))
            rw [sgn_ev, absN, Int.toNat_natCast]
            exact e2
        · obtain ⟨b, v', s', e1, e2, e3⟩ := ih (i + 1) x5 v s (by omega) hv hz hx
          refine ⟨b, v', s', specE _ _ h1 (Ev.neg (by show ¬ ((m : Int) = 0); omega) (Ev.neg (by show ¬ ((m : Int) = 1); omega) e1)), implE _ (h2 _ (Ev.step ?_ (fun k => impl_forced.l2.eq_2 ..))), e3⟩
          rw [hwi]
          exact Ev.neg (by omega) (Ev.neg (by decide) (Ev.neg (by omega) (Ev.neg (by omega) e2)))
theorem force_run (n : Nat) (hn : n ≤ 700) (l : List (List Int)) (hl : AllLits n l) : ∀ (z : Nat) (v s : List Int), v.count 0 < z → SignsOk n v s →
    ∃ b v' s', Ev (fun k => spec_l11Force.l0 k l v true) (b, v') ∧ Ev (fun k => impl_forced.l0 k l s true) (b, s') ∧ SignsOk n v' s' := by
  intro z
  induction z with
  | zero => intro v s hz; omega
  | succ z ih =>
    intro v s hz hv
    obtain ⟨b, v', s', h1, h2, h3⟩ := force_pass n hn l hl z (fun v s hv hz => ih v s hz hv) l.length 0 false v s (by omega) hv (by omega) (by simp)
    exact ⟨b, v', s', Ev.step (Ev.pos rfl h1) (fun k => spec_l11Force.l0.eq_2 ..), Ev.step (Ev.pos rfl h2) (fun k => impl_forced.l0.eq_2 ..), h3⟩
theorem force (n : Nat) (hn : n ≤ 700) (l : List (List Int)) (hl : AllLits n l) (v s : List Int) (hv : SignsOk n v s) :
    ∃ b v' s', Ev (fun k => spec_l11Force.f k l v) (b, v') ∧ Ev (fun k => impl_forced.f k l s) (b, s') ∧ SignsOk n v' s' := by
  unfold spec_l11Force.f impl_forced.f
  exact force_run n hn l hl (v.count 0 + 1) v s (by omega) hv
/-! #### a conclusion that follows by what is forced -/
theorem Ev.uniq {α : Type} {g : Nat → Option α} {a b : α} (h : Ev g a) (h' : Ev g b) : a = b := by
  obtain ⟨K, hK⟩ := h
  obtain ⟨L, hL⟩ := h'
  have := (hK (max K L) (by omega)).symm.trans (hL (max K L) (by omega))
  exact Option.some.inj this
theorem clause_lits {n : Nat} {c : List Int} (h : ClauseOk (n : Int) c) (hc : c.length ≤ 1048576) : LitsOk n c := ⟨hc, fun j hj => (h.2 j hj).1⟩
theorem clause_mono {n : Int} {c : List Int} (h : ClauseOk n c) : ∀ (i j : Nat), j < i → i < c.length → AbsI (rd c (j : Int)) < AbsI (rd c (i : Int)) := by
  intro i
  induction i with
  | zero => intro j hj; omega
  | succ i ih =>
    intro j hj hi
    have h1 := (h.2 (i + 1) hi).2 (by omega)
    rw [Nat.add_sub_cancel] at h1
    rcases Nat.lt_succ_iff_lt_or_eq.mp hj with h2 | rfl
    · have := ih j h2 (by omega)
      omega
    · exact h1
theorem zeros_ok (n : Nat) : SignsOk n (List.replicate (n + 1) 0) (List.replicate (n + 1) 0) := by
  refine ⟨by simp, by simp, fun a ha => Or.inl ?_⟩
  rw [rd_lt (by simp; omega)]
  simp
theorem rd_zeros (n : Nat) (a : Nat) (ha : a < n) : rd (List.replicate n 0) (a : Int) = 0 := by
  rw [rd_lt (by simpa using ha)]
  simp
/-! #### what unit propagation tells of the truth of clauses (the reference's marks) -/
/-- The marks of n atoms. -/
def VOk (n : Nat) (v : List Int) : Prop := v.length = n + 1 ∧ ∀ a : Nat, a ≤ n → rd v (a : Int) = 0 ∨ (0 < a ∧ (rd v (a : Int) = a ∨ rd v (a : Int) = -(a : Int)))
/-- A literal is true by an assignment. -/
def LT (T : Nat → Bool) (x : Int) : Prop := if 0 < x then T x.natAbs = true else T x.natAbs = false
instance (T : Nat → Bool) (x : Int) : Decidable (LT T x) := by unfold LT; infer_instance
def ClT (T : Nat → Bool) (c : List Int) : Prop := ∃ j : Nat, j < c.length ∧ LT T (rd c (j : Int))
def AllT (T : Nat → Bool) (l : List (List Int)) : Prop := ∀ j : Nat, j < l.length → ClT T (rd_L1 l (j : Int))
def Cons (n : Nat) (T : Nat → Bool) (v : List Int) : Prop := ∀ a : Nat, a ≤ n → rd v (a : Int) ≠ 0 → LT T (rd v (a : Int))
theorem lt_neg {T : Nat → Bool} {x : Int} (h0 : x ≠ 0) : LT T (-x) ↔ ¬ LT T x := by
  unfold LT
  rw [Int.natAbs_neg]
  by_cases h : 0 < x
  · rw [if_pos h, if_neg (by omega)]
    simp
  · rw [if_neg h, if_pos (by omega)]
    simp
theorem vok_set {n : Nat} {v : List Int} (h : VOk n v) {x : Int} (hx : LitOk (n : Int) x) : VOk n (v.set x.natAbs x) := by
  obtain ⟨h1, h2⟩ := h
  obtain ⟨hx0, hx1, hx2⟩ := hx
  refine ⟨by simpa using h1, fun a ha => ?_⟩
  by_cases e : a = x.natAbs
  · subst e
    rw [rd_set_eq (by omega)]
    exact Or.inr ⟨by omega, by omega⟩
  · rw [rd_set_ne (fun h => e h.symm)]
    exact h2 a ha
/-- What a scan of a clause has found in the first i places: none is true, m are open, the last of these. -/
structure Scanned (n : Nat) (v c : List Int) (i m : Nat) (last : Int) : Prop where
  no : ∀ j : Nat, j < i → rd v (AbsI (rd c (j : Int))) ≠ rd c (j : Int)
  lit : 1 ≤ m → LitOk (n : Int) last ∧ rd v (AbsI last) = 0 ∧ ∃ j : Nat, j < i ∧ rd c (j : Int) = last
  none : m = 0 → ∀ j : Nat, j < i → rd v (AbsI (rd c (j : Int))) = -(rd c (j : Int))
  one : m = 1 → ∀ j : Nat, j < i → rd c (j : Int) = last ∨ rd v (AbsI (rd c (j : Int))) = -(rd c (j : Int))
theorem scan_sem (n : Nat) (hn : n ≤ 700) (v : List Int) (hv : VOk n v) (c : List Int) (hc : LitsOk n c) : ∀ (d i m : Nat) (last : Int), i + d = c.length → m ≤ i → Scanned n v c i m last →
    (Ev (fun k => spec_l11Left.l0 k c v (m : Int) last (i : Int)) ((-1 : Int), (0 : Int)) ∧ ∃ j : Nat, j < c.length ∧ rd v (AbsI (rd c (j : Int))) = rd c (j : Int)) ∨
    ∃ (m' : Nat) (last' : Int), m' ≤ c.length ∧ Ev (fun k => spec_l11Left.l0 k c v (m : Int) last (i : Int)) ((m' : Int), last') ∧ Scanned n v c c.length m' last' := by
  have hcl := hc.1
  obtain ⟨hvl, hat⟩ := hv
  intro d
  induction d with
  | zero =>
    intro i m last hi hm hs
    have : i = c.length := by omega
    subst this
    exact Or.inr ⟨m, last, hm, Ev.step (Ev.neg (by omega) (Ev.val _)) (fun k => spec_l11Left.l0.eq_2 ..), hs⟩
  | succ d ih =>
    intro i m last hi hm hs
    have hwi := wsucc i (by omega)
    have hwm := wsucc m (by omega)
    have hlt : i < c.length := by omega
    obtain ⟨hx0, hx1, hx2⟩ := hc.2 i hlt
    have ha := hat (rd c (i : Int)).natAbs (by omega)
    rw [← absN] at ha
    have hpos := absI_pos (rd c (i : Int))
    have hax : AbsI (rd c (i : Int)) = rd c (i : Int) ∨ AbsI (rd c (i : Int)) = -(rd c (i : Int)) := by unfold AbsI; split <;> omega
    have hlen : AbsI (rd c (i : Int)) < (v.length : Int) := by rw [absN]; omega
    have specE : ∀ q, Ev (fun k => if rd v (AbsI (rd c (i : Int))) = rd c (i : Int) then some ((-1 : Int), (0 : Int)) else if rd v (AbsI (rd c (i : Int))) = 0 then spec_l11Left.l0 k c v ((m + 1 : Nat) : Int) (rd c (i : Int)) ((i + 1 : Nat) : Int) else spec_l11Left.l0 k c v (m : Int) last ((i + 1 : Nat) : Int)) q → Ev (fun k => spec_l11Left.l0 k c v (m : Int) last (i : Int)) q := by
      intro q hq
      refine Ev.step ?_ (fun k => spec_l11Left.l0.eq_2 ..)
      rw [hwi, hwm]
      exact Ev.pos (by omega) (Ev.pos (by omega) (Ev.bind (spec_abs (by omega) (by omega)) (Ev.pos hpos (Ev.pos hlen hq))))
    by_cases he : rd v (AbsI (rd c (i : Int))) = rd c (i : Int)
    · exact Or.inl ⟨specE _ (Ev.pos he (Ev.val _)), i, hlt, he⟩
    · by_cases hz : rd v (AbsI (rd c (i : Int))) = 0
      · have hs' : Scanned n v c (i + 1) (m + 1) (rd c (i : Int)) := by
          refine ⟨fun j hj => ?_, fun _ => ⟨⟨hx0, hx1, hx2⟩, hz, i, by omega, rfl⟩, fun h => by omega, fun h j hj => ?_⟩
          · rcases Nat.lt_succ_iff_lt_or_eq.mp hj with h | rfl
            · exact hs.no j h
            · exact he
          · rcases Nat.lt_succ_iff_lt_or_eq.mp hj with h2 | rfl
            · exact Or.inr (hs.none (by omega) j h2)
            · exact Or.inl rfl
        rcases ih (i + 1) (m + 1) (rd c (i : Int)) (by omega) (by omega) hs' with ⟨h1, h2⟩ | ⟨m', last', h1, h2, h3⟩
        · exact Or.inl ⟨specE _ (Ev.neg he (Ev.pos hz h1)), h2⟩
        · exact Or.inr ⟨m', last', h1, specE _ (Ev.neg he (Ev.pos hz h2)), h3⟩
      · have hneg : rd v (AbsI (rd c (i : Int))) = -(rd c (i : Int)) := by
          rcases ha with h | ⟨_, h | h⟩
          · exact absurd h hz
          · rcases hax with h2 | h2 <;> omega
          · rcases hax with h2 | h2 <;> omega
        have hs' : Scanned n v c (i + 1) m last := by
          refine ⟨fun j hj => ?_, fun h => ?_, fun h j hj => ?_, fun h j hj => ?_⟩
          · rcases Nat.lt_succ_iff_lt_or_eq.mp hj with h | rfl
            · exact hs.no j h
            · exact he
          · obtain ⟨e1, e2, j, e3, e4⟩ := hs.lit h
            exact ⟨e1, e2, j, by omega, e4⟩
          · rcases Nat.lt_succ_iff_lt_or_eq.mp hj with h2 | rfl
            · exact hs.none h j h2
            · exact hneg
          · rcases Nat.lt_succ_iff_lt_or_eq.mp hj with h2 | rfl
            · exact hs.one h j h2
            · exact Or.inr hneg
        rcases ih (i + 1) m last (by omega) (by omega) hs' with ⟨h1, h2⟩ | ⟨m', last', h1, h2, h3⟩
        · exact Or.inl ⟨specE _ (Ev.neg he (Ev.neg hz h1)), h2⟩
        · exact Or.inr ⟨m', last', h1, specE _ (Ev.neg he (Ev.neg hz h2)), h3⟩
/-- A clause that is true, or has an open literal. -/
def Fine (v c : List Int) : Prop := ∃ j : Nat, j < c.length ∧ (rd v (AbsI (rd c (j : Int))) = rd c (j : Int) ∨ rd v (AbsI (rd c (j : Int))) = 0)
/-- What is left of the truth when marks are made. -/
structure Forces (n : Nat) (l : List (List Int)) (v : List Int) (b : Bool) (v' : List Int) : Prop where
  ok : VOk n v'
  ext : ∀ a : Nat, a ≤ n → rd v (a : Int) ≠ 0 → rd v' (a : Int) = rd v (a : Int)
  sound : ∀ T, AllT T l → Cons n T v → b = true ∧ Cons n T v'
  fine : b = true → ∀ j : Nat, j < l.length → Fine v' (rd_L1 l (j : Int))
theorem lit_false {n : Nat} {T : Nat → Bool} {v : List Int} (hT : Cons n T v) {x : Int} (hx : LitOk (n : Int) x) (h : rd v (AbsI x) = -x) : ¬ LT T x := by
  obtain ⟨h0, h1, h2⟩ := hx
  have := hT x.natAbs (by omega) (by rw [← absN, h]; omega)
  rw [← absN, h] at this
  exact (lt_neg h0).mp this
theorem force_pass_sem (n : Nat) (hn : n ≤ 700) (l : List (List Int)) (hl : AllLits n l) (z : Nat)
    (IH : ∀ v, VOk n v → v.count 0 < z → ∃ b v', Ev (fun k => spec_l11Force.l0 k l v true) (b, v') ∧ Forces n l v b v') :
    ∀ (d i : Nat) (x5 : Bool) (v : List Int), i + d = l.length → VOk n v → v.count 0 ≤ z → (x5 = true → v.count 0 < z) → (x5 = false → ∀ j : Nat, j < i → Fine v (rd_L1 l (j : Int))) →
      ∃ b v', Ev (fun k => spec_l11Force.l1 k l v x5 (i : Int)) (b, v') ∧ Forces n l v b v' := by
  have hll := hl.1
  intro d
  induction d with
  | zero =>
    intro i x5 v hi hv hz hx hf
    cases x5 with
    | false =>
      exact ⟨true, v, Ev.step (Ev.neg (by omega) (Ev.step (Ev.neg (by decide) (Ev.val _)) (fun k => spec_l11Force.l0.eq_2 ..))) (fun k => spec_l11Force.l1.eq_2 ..), hv, fun _ _ _ => rfl, fun T _ h => ⟨rfl, h⟩, fun _ j hj => hf rfl j (by omega)⟩
    | true =>
      obtain ⟨b, v', h1, h2⟩ := IH v hv (hx rfl)
      exact ⟨b, v', Ev.step (Ev.neg (by omega) h1) (fun k => spec_l11Force.l1.eq_2 ..), h2⟩
  | succ d ih =>
    intro i x5 v hi hv hz hx hf
    have hwi := wsucc i (by omega)
    have hlt : i < l.length := by omega
    have hcl := hl.2 i hlt
    have specE : ∀ (p : Int × Int) q, Ev (fun k => spec_l11Left.l0 k (rd_L1 l (i : Int)) v 0 0 0) p → Ev (fun k => if p.1 = 0 then some (false, v) else if p.1 = 1 then ((spec_l11Abs.f p.2).bind fun t => if 0 ≤ t then (if t < (v.length : Int) then spec_l11Force.l1 k l (v.set (t : Int).toNat p.2) true ((i + 1 : Nat) : Int) else none) else none) else spec_l11Force.l1 k l v x5 ((i + 1 : Nat) : Int)) q → Ev (fun k => spec_l11Force.l1 k l v x5 (i : Int)) q := by
      intro p q hp hq
      refine Ev.step ?_ (fun k => spec_l11Force.l1.eq_2 ..)
      rw [hwi]
      exact Ev.pos (by omega) (Ev.pos (by omega) (Ev.bind (by unfold spec_l11Left.f; exact hp) hq))
    rcases scan_sem n hn v hv _ hcl _ 0 0 0 (Nat.zero_add _) (Nat.le_refl _) ⟨fun j hj => by omega, fun h => by omega, fun _ j hj => by omega, fun _ j hj => by omega⟩ with ⟨h1, h2⟩ | ⟨m, last, hm, h1, hs⟩
    · obtain ⟨b, v', e1, e2⟩ := ih (i + 1) x5 v (by omega) hv hz hx (fun h j hj => by
        rcases Nat.lt_succ_iff_lt_or_eq.mp hj with h3 | rfl
        · exact hf h j h3
        · obtain ⟨q, q1, q2⟩ := h2
          exact ⟨q, q1, Or.inl q2⟩)
      exact ⟨b, v', specE _ _ h1 (Ev.neg (by decide) (Ev.neg (by decide) e1)), e2⟩
    · by_cases m0 : m = 0
      · subst m0
        refine ⟨false, v, specE _ _ h1 (Ev.pos rfl (Ev.val _)), hv, fun _ _ _ => rfl, fun T hT hC => ?_, fun h => by cases h⟩
        obtain ⟨j, j1, j2⟩ := hT i hlt
        exact absurd j2 (lit_false hC (hcl.2 j j1) (hs.none rfl j j1))
      · by_cases m1 : m = 1
        · subst m1
          obtain ⟨hlit, h0, _⟩ := hs.lit (Nat.le_refl _)
          have hx0 := hlit.1
          have hx1 := hlit.2.1
          have hx2 := hlit.2.2
          have hvl := hv.1
          rw [absN] at h0
          have hzs := zeros_set (x := last) (by omega) h0 hx0
          obtain ⟨b, v', e1, e2⟩ := ih (i + 1) true (v.set last.natAbs last) (by omega) (vok_set hv hlit) (by omega) (fun _ => by omega) (fun h => by cases h)
          refine ⟨b, v', specE _ _ h1 (Ev.neg (by simp) (Ev.pos (by simp) (Ev.bind (spec_abs (by omega) (by omega)) (Ev.pos (absI_pos _) (Ev.pos (by rw [absN]; omega) ?_))))), e2.ok, fun a ha hz2 => ?_, fun T hT hC => ?_, e2.fine⟩
          · rw [absN, Int.toNat_natCast]
            exact e1
          · have hne : last.natAbs ≠ a := fun e => by subst e; exact hz2 h0
            rw [← rd_set_ne (l := v) (v := last) hne]
            exact e2.ext a ha (by rw [rd_set_ne hne]; exact hz2)
          · refine e2.sound T hT (fun a ha hz2 => ?_)
            by_cases e : last.natAbs = a
            · subst e
              rw [rd_set_eq (by omega)]
              obtain ⟨j, j1, j2⟩ := hT i hlt
              rcases hs.one rfl j j1 with h | h
              · rw [← h]
                exact j2
              · exact absurd j2 (lit_false hC (hcl.2 j j1) h)
            · rw [rd_set_ne e] at hz2 ⊢
              exact hC a ha hz2
        · obtain ⟨b, v', e1, e2⟩ := ih (i + 1) x5 v (by omega) hv hz hx (fun h j hj => by
            rcases Nat.lt_succ_iff_lt_or_eq.mp hj with h3 | rfl
            · exact hf h j h3
            · obtain ⟨_, q0, q, q1, q2⟩ := hs.lit (by omega)
              exact ⟨q, q1, Or.inr (by rw [q2]; exact q0)⟩)
          exact ⟨b, v', specE _ _ h1 (Ev.neg (by show ¬ ((m : Int) = 0); omega) (Ev.neg (by show ¬ ((m : Int) = 1); omega) e1)), e2⟩
theorem force_run_sem (n : Nat) (hn : n ≤ 700) (l : List (List Int)) (hl : AllLits n l) : ∀ (z : Nat) (v : List Int), v.count 0 < z → VOk n v →
    ∃ b v', Ev (fun k => spec_l11Force.l0 k l v true) (b, v') ∧ Forces n l v b v' := by
  intro z
  induction z with
  | zero => intro v hz; omega
  | succ z ih =>
    intro v hz hv
    obtain ⟨b, v', h1, h2⟩ := force_pass_sem n hn l hl z (fun v hv hz => ih v hz hv) l.length 0 false v (by omega) hv (by omega) (by simp) (fun _ j hj => by omega)
    exact ⟨b, v', Ev.step (Ev.pos rfl h1) (fun k => spec_l11Force.l0.eq_2 ..), h2⟩
theorem force_sem (n : Nat) (hn : n ≤ 700) (l : List (List Int)) (hl : AllLits n l) (v : List Int) (hv : VOk n v) :
    ∃ b v', Ev (fun k => spec_l11Force.f k l v) (b, v') ∧ Forces n l v b v' := by
  unfold spec_l11Force.f
  exact force_run_sem n hn l hl (v.count 0 + 1) v (by omega) hv
/-! #### what follows from clauses -/
theorem all_lits (n : Nat) (L : List (List Int)) (hL : Small L) (h : ClausesOk (n : Int) L) : AllLits n L := ⟨hL.1, fun i hi => clause_lits (h.2.2 i hi) (hL.2 i hi)⟩
/-- The reference's marks of a list of literals that has each atom at most once. -/
theorem marks_loop (n : Nat) (hn : n ≤ 700) (c : List Int) (hcl : c.length ≤ 1048576) (hc : ∀ j : Nat, j < c.length → LitOk (n : Int) (rd c (j : Int))) (hd : ∀ i j : Nat, j < i → i < c.length → (rd c (j : Int)).natAbs ≠ (rd c (i : Int)).natAbs) :
    ∀ (d i : Nat) (v : List Int), i + d = c.length → VOk n v → (∀ a : Nat, a ≤ n → (rd v (a : Int) ≠ 0 ↔ ∃ j : Nat, j < i ∧ (rd c (j : Int)).natAbs = a)) → (∀ j : Nat, j < i → rd v (((rd c (j : Int)).natAbs : Nat) : Int) = rd c (j : Int)) →
      ∃ v', Ev (fun k => spec_l11Given.l0 k c v (i : Int)) v' ∧ VOk n v' ∧ (∀ a : Nat, a ≤ n → (rd v' (a : Int) ≠ 0 ↔ ∃ j : Nat, j < c.length ∧ (rd c (j : Int)).natAbs = a)) ∧ (∀ j : Nat, j < c.length → rd v' (((rd c (j : Int)).natAbs : Nat) : Int) = rd c (j : Int)) := by
  intro d
  induction d with
  | zero =>
    intro i v hi hv h1 h2
    have : i = c.length := by omega
    subst this
    exact ⟨v, Ev.step (Ev.neg (by omega) (Ev.val _)) (fun k => spec_l11Given.l0.eq_2 ..), hv, h1, h2⟩
  | succ d ih =>
    intro i v hi hv h1 h2
    have hwi := wsucc i (by omega)
    have hvl := hv.1
    obtain ⟨hx0, hx1, hx2⟩ := hc i (by omega)
    obtain ⟨v', e1, e2⟩ := ih (i + 1) (v.set (rd c (i : Int)).natAbs (rd c (i : Int))) (by omega) (vok_set hv ⟨hx0, hx1, hx2⟩) (fun a ha => by
      by_cases e : (rd c (i : Int)).natAbs = a
      · subst e
        rw [rd_set_eq (by omega)]
        exact ⟨fun _ => ⟨i, by omega, rfl⟩, fun _ => hx0⟩
      · rw [rd_set_ne e, h1 a ha]
        constructor
        · rintro ⟨j, j1, j2⟩
          exact ⟨j, by omega, j2⟩
        · rintro ⟨j, j1, j2⟩
          rcases Nat.lt_succ_iff_lt_or_eq.mp j1 with h | rfl
          · exact ⟨j, h, j2⟩
          · exact absurd j2 e) (fun j hj => by
      rcases Nat.lt_succ_iff_lt_or_eq.mp hj with h | rfl
      · rw [rd_set_ne (fun e => hd i j h (by omega) e.symm)]
        exact h2 j h
      · rw [rd_set_eq (by omega)])
    refine ⟨v', Ev.step ?_ (fun k => spec_l11Given.l0.eq_2 ..), e2⟩
    rw [hwi]
    refine Ev.pos (by omega) (Ev.pos (by omega) (Ev.bind (spec_abs (by omega) (by omega)) (Ev.pos (absI_pos _) (Ev.pos (by rw [absN]; omega) ?_))))
    rw [absN, Int.toNat_natCast]
    exact e1
theorem vok_zeros (n : Nat) : VOk n (List.replicate (n + 1) 0) := ⟨by simp, fun a ha => Or.inl (rd_zeros (n + 1) a (by omega))⟩
/-- The marks of a list of literals, each atom once: consistent just with what makes them all true. -/
theorem given_sem (n : Nat) (hn : n ≤ 700) (c : List Int) (hcl : c.length ≤ 1048576) (hc : ∀ j : Nat, j < c.length → LitOk (n : Int) (rd c (j : Int))) (hd : ∀ i j : Nat, j < i → i < c.length → (rd c (j : Int)).natAbs ≠ (rd c (i : Int)).natAbs) :
    ∃ v, Ev (fun k => spec_l11Given.f k c (n : Int)) v ∧ VOk n v ∧ ∀ T, Cons n T v ↔ ∀ j : Nat, j < c.length → LT T (rd c (j : Int)) := by
  have hwn : wrap64 ((n : Int) + 1) = ((n + 1 : Nat) : Int) := wsucc n (by omega)
  obtain ⟨v, e1, e2, e3, e4⟩ := marks_loop n hn c hcl hc hd c.length 0 (List.replicate (n + 1) 0) (by omega) (vok_zeros n) (fun a ha => by
    rw [rd_zeros (n + 1) a (by omega)]
    simp) (fun j hj => by omega)
  refine ⟨v, ?_, e2, fun T => ⟨fun h j hj => ?_, fun h a ha hz => ?_⟩⟩
  · unfold spec_l11Given.f
    rw [hwn, Int.toNat_natCast]
    exact Ev.pos (by omega) (Ev.pos (by omega) e1)
  · obtain ⟨hx0, hx1, hx2⟩ := hc j hj
    have := h (rd c (j : Int)).natAbs (by omega) (by rw [e4 j hj]; exact hx0)
    rwa [e4 j hj] at this
  · obtain ⟨j, j1, j2⟩ := (e3 a ha).mp hz
    rw [← j2, e4 j j1]
    exact h j j1
theorem clause_apart {n : Int} {c : List Int} (h : ClauseOk n c) : ∀ i j : Nat, j < i → i < c.length → (rd c (j : Int)).natAbs ≠ (rd c (i : Int)).natAbs := by
  intro i j h1 h2
  have := clause_mono h i j h1 h2
  rw [absN, absN] at this
  omega
/-! #### both programs force the same literals, and these are true wherever the clauses and what is given are -/
theorem given_signs (n : Nat) (hn : n ≤ 700) (c : List Int) (hcl : c.length ≤ 1048576) (hc : ∀ j : Nat, j < c.length → LitOk (n : Int) (rd c (j : Int))) : ∀ (d i : Nat) (v s : List Int), i + d = c.length → SignsOk n v s →
    ∃ v' s', Ev (fun k => spec_l11Given.l0 k c v (i : Int)) v' ∧ Ev (fun k => impl_signs.l0 k s c (c.length : Int) (i : Int)) s' ∧ SignsOk n v' s' := by
  intro d
  induction d with
  | zero =>
    intro i v s hi hv
    exact ⟨v, s, Ev.step (Ev.neg (by omega) (Ev.val _)) (fun k => spec_l11Given.l0.eq_2 ..), Ev.step (Ev.neg (by omega) (Ev.val _)) (fun k => impl_signs.l0.eq_2 ..), hv⟩
  | succ d ih =>
    intro i v s hi hv
    have hwi := wsucc i (by omega)
    have hvl := hv.1
    have hsl := hv.2.1
    obtain ⟨hx0, hx1, hx2⟩ := hc i (by omega)
    obtain ⟨v', s', e1, e2, e3⟩ := ih (i + 1) _ _ (by omega) (signs_set hv (hc i (by omega)))
    refine ⟨v', s', Ev.step ?_ (fun k => spec_l11Given.l0.eq_2 ..), Ev.step ?_ (fun k => impl_signs.l0.eq_2 ..), e3⟩
    · rw [hwi]
      refine Ev.pos (by omega) (Ev.pos (by omega) (Ev.bind (spec_abs (by omega) (by omega)) (Ev.pos (absI_pos _) (Ev.pos (by rw [absN]; omega) ?_))))
      rw [absN, Int.toNat_natCast]
      exact e1
    · rw [hwi]
      refine Ev.pos (by omega) (Ev.pos (by omega) (Ev.pos (by omega) (Ev.bind (impl_abs (by omega) (by omega)) (Ev.bind (bit_ev _) (Ev.pos (absI_pos _) (Ev.pos (by rw [absN]; omega) ?_))))))
      rw [sgn_ev, absN, Int.toNat_natCast]
      exact e2
theorem given_both (n : Nat) (hn : n ≤ 700) (c : List Int) (hcl : c.length ≤ 1048576) (hc : ∀ j : Nat, j < c.length → LitOk (n : Int) (rd c (j : Int))) :
    ∃ v s, Ev (fun k => spec_l11Given.f k c (n : Int)) v ∧ Ev (fun k => impl_signs.f k (n : Int) c) s ∧ SignsOk n v s := by
  have hwn : wrap64 ((n : Int) + 1) = ((n + 1 : Nat) : Int) := wsucc n (by omega)
  obtain ⟨v, s, e1, e2, e3⟩ := given_signs n hn c hcl hc c.length 0 _ _ (by omega) (zeros_ok n)
  refine ⟨v, s, ?_, ?_, e3⟩
  · unfold spec_l11Given.f
    rw [hwn, Int.toNat_natCast]
    exact Ev.pos (by omega) (Ev.pos (by omega) e1)
  · unfold impl_signs.f
    rw [hwn, Int.toNat_natCast]
    exact Ev.pos (by omega) (Ev.pos (by omega) e2)
theorem told_loop (n : Nat) (hn : n ≤ 700) (v s : List Int) (hv : SignsOk n v s) : ∀ (d a : Nat) (out : List Int), a + d = n + 1 → 1 ≤ a → out.length ≤ a → (∀ j : Nat, j < out.length → LitOk (n : Int) (rd out (j : Int)) ∧ rd v (((rd out (j : Int)).natAbs : Nat) : Int) = rd out (j : Int)) →
    ∃ out', Ev (fun k => spec_l11Marked.l0 k v out (a : Int)) out' ∧ Ev (fun k => impl_Forced.l0 k out s ((n + 1 : Nat) : Int) (a : Int)) (out', true) ∧ out'.length ≤ n + 1 ∧ ∀ j : Nat, j < out'.length → LitOk (n : Int) (rd out' (j : Int)) ∧ rd v (((rd out' (j : Int)).natAbs : Nat) : Int) = rd out' (j : Int) := by
  obtain ⟨hvl, hsl, hat⟩ := hv
  intro d
  induction d with
  | zero =>
    intro a out ha h1 hl ho
    refine ⟨out, Ev.step (Ev.neg (by omega) (Ev.val _)) (fun k => spec_l11Marked.l0.eq_2 ..), Ev.step (Ev.neg (by omega) ?_) (fun k => impl_Forced.l0.eq_2 ..), by omega, ho⟩
    refine Ev.bind (a := out) ?_ (Ev.val _)
    unfold impl_clone_int.f
    exact Ev.pos (by omega) (Ev.val _)
  | succ d ih =>
    intro a out ha h1 hl ho
    have hwi := wsucc a (by omega)
    have hx := hat a (by omega)
    by_cases hz : rd v (a : Int) = 0
    · have hz2 : rd s (a : Int) = 0 := by
        rcases hx with h | h | h
        · exact h.2
        · omega
        · omega
      obtain ⟨out', e1, e2, e3⟩ := ih (a + 1) out (by omega) (by omega) (by omega) ho
      refine ⟨out', Ev.step ?_ (fun k => spec_l11Marked.l0.eq_2 ..), Ev.step ?_ (fun k => impl_Forced.l0.eq_2 ..), e3⟩
      · rw [hwi]
        exact Ev.pos (by omega) (Ev.pos (by omega) (Ev.pos hz e1))
      · rw [hwi]
        exact Ev.pos (by omega) (Ev.pos (by omega) (Ev.pos (by omega) (Ev.pos hz2 e2)))
    · have hz2 : rd s (a : Int) ≠ 0 ∧ wrap64 ((a : Int) * rd s (a : Int)) = rd v (a : Int) ∧ (rd v (a : Int)).natAbs = a := by
        rcases hx with h | ⟨h, h2, h3⟩ | ⟨h, h2, h3⟩
        · exact absurd h.1 hz
        · rw [h3, h2, Int.mul_one, w_id (by omega) (by omega)]
          exact ⟨by omega, rfl, by omega⟩
        · rw [h3, h2, show (a : Int) * (-1) = -(a : Int) by omega, w_id (by omega) (by omega)]
          exact ⟨by omega, rfl, by omega⟩
      obtain ⟨hz3, hz4, hz5⟩ := hz2
      obtain ⟨out', e1, e2, e3⟩ := ih (a + 1) (out ++ [rd v (a : Int)]) (by omega) (by omega) (by simp; omega) (fun j hj => by
        simp at hj
        by_cases e : j = out.length
        · subst e
          rw [rd_app_eq, hz5]
          exact ⟨⟨hz, by omega, by omega⟩, rfl⟩
        · rw [rd_app_lt (by omega)]
          exact ho j (by omega))
      refine ⟨out', Ev.step ?_ (fun k => spec_l11Marked.l0.eq_2 ..), Ev.step ?_ (fun k => impl_Forced.l0.eq_2 ..), e3⟩
      · rw [hwi]
        exact Ev.pos (by omega) (Ev.pos (by omega) (Ev.neg hz (Ev.pos (by omega) e1)))
      · rw [hwi, hz4]
        exact Ev.pos (by omega) (Ev.pos (by omega) (Ev.pos (by omega) (Ev.neg hz3 (Ev.pos (by omega) e2))))
theorem told_both (n : Nat) (hn : n ≤ 700) (v s : List Int) (hv : SignsOk n v s) :
    ∃ out, Ev (fun k => spec_l11Marked.f k v) out ∧ Ev (fun k => impl_Forced.l0 k [] s ((n + 1 : Nat) : Int) 0) (out, true) ∧ out.length ≤ n + 1 ∧ ∀ j : Nat, j < out.length → LitOk (n : Int) (rd out (j : Int)) ∧ rd v (((rd out (j : Int)).natAbs : Nat) : Int) = rd out (j : Int) := by
  obtain ⟨out, e1, e2, e3⟩ := told_loop n hn v s hv n 1 [] (by omega) (Nat.le_refl _) (by simp) (fun j hj => by simp at hj)
  have hsl := hv.2.1
  have h0 : rd s ((0 : Nat) : Int) = 0 := by
    rcases hv.2.2 0 (by omega) with h | h | h
    · exact h.2
    · omega
    · omega
  refine ⟨out, ?_, Ev.step ?_ (fun k => impl_Forced.l0.eq_2 ..), e3⟩
  · unfold spec_l11Marked.f
    exact e1
  · have hw : wrap64 (0 + 1) = ((1 : Nat) : Int) := wsucc 0 (by omega)
    rw [hw]
    exact Ev.pos (by omega) (Ev.pos (by omega) (Ev.pos (by omega) (Ev.pos h0 e2)))
/-- Clauses and literals that are ones. -/
def AskOk (n : Int) (L : List (List Int)) (g : List Int) : Prop := ClausesOk n L ∧ ClauseOk n g
theorem forced_yes (n : Nat) (L : List (List Int)) (g : List Int) (hL : Small L) (hg : g.length ≤ 1048576) (h : AskOk (n : Int) L g) :
    ∃ (out : List Int) (b : Bool), Ev (fun k => spec_Forced.f k (n : Int) L g) (out, b) ∧ Ev (fun k => impl_Forced.f k (n : Int) L g) (out, b) ∧ out.length ≤ n + 1 ∧ (∀ j : Nat, j < out.length → LitOk (n : Int) (rd out (j : Int))) ∧
      ∀ T, AllT T L → (∀ j : Nat, j < g.length → LT T (rd g (j : Int))) → b = true ∧ ∀ j : Nat, j < out.length → LT T (rd out (j : Int)) := by
  obtain ⟨h1, h2⟩ := h
  have hn : n ≤ 700 := by have := h1.1.2; omega
  have hlits : ∀ j : Nat, j < g.length → LitOk (n : Int) (rd g (j : Int)) := fun j hj => (h2.2 j hj).1
  obtain ⟨bs, hs1, hs2⟩ := spec_clauses (n : Int) L hL
  obtain rfl : bs = true := hs2.mpr h1
  obtain ⟨bi, hi1, hi2⟩ := impl_clauses (n : Int) L hL
  obtain rfl : bi = true := hi2.mpr h1
  obtain ⟨bt, ht1, ht2⟩ := spec_clause (n : Int) g hg
  obtain rfl : bt = true := ht2.mpr h2
  obtain ⟨bu, hu1, hu2⟩ := impl_clause (n : Int) g hg
  obtain rfl : bu = true := hu2.mpr h2
  obtain ⟨v, s, g1, g2, g3⟩ := given_both n hn g hg hlits
  obtain ⟨w, w1, w2, w3⟩ := given_sem n hn g hg hlits (clause_apart h2)
  obtain rfl := Ev.uniq g1 w1
  have hAL := all_lits n L hL h1
  obtain ⟨b, v', s', f1, f2, f3⟩ := force n hn L hAL v s g3
  obtain ⟨c, u, q1, q2⟩ := force_sem n hn L hAL v w2
  have e := Ev.uniq f1 q1
  injection e with e1 e2
  subst e1 e2
  obtain ⟨out, o1, o2, o3, o4⟩ := told_both n hn v' s' f3
  have hsl := g3.2.1
  have stS : ∀ r, Ev (fun k => (spec_l11Given.f k g (n : Int)).bind fun t141 => (spec_l11Force.f k L t141).bind fun bt144 => if bt144.1 = true then ((spec_l11Marked.f k bt144.2).bind fun t146 => some (t146, true)) else some (([] : List Int), false)) r → Ev (fun k => spec_Forced.f k (n : Int) L g) r := by
    intro r hr
    unfold spec_Forced.f
    exact Ev.bind hs1 (Ev.pos rfl (Ev.bind ht1 (Ev.step (Ev.neg (c := (!true) = true) (by decide) hr) (fun k => spec_Forced.j0.eq_2 ..))))
  have stI : ∀ r, Ev (fun k => (impl_signs.f k (n : Int) g).bind fun t172 => (impl_forced.f k L t172).bind fun bt175 => if bt175.1 = true then impl_Forced.l0 k ([] : List Int) bt175.2 (t172.length : Int) 0 else some (([] : List Int), false)) r → Ev (fun k => impl_Forced.f k (n : Int) L g) r := by
    intro r hr
    unfold impl_Forced.f
    exact Ev.bind hi1 (Ev.pos rfl (Ev.bind hu1 (Ev.step (Ev.neg (c := (!true) = true) (by decide) hr) (fun k => impl_Forced.j0.eq_2 ..))))
  cases b with
  | false =>
    refine ⟨[], false, stS _ (Ev.bind g1 (Ev.bind f1 (Ev.neg (by simp) (Ev.val _)))), stI _ (Ev.bind g2 (Ev.bind f2 (Ev.neg (by simp) (Ev.val _)))), by simp, fun j hj => by simp at hj, fun T hT hg => ?_⟩
    have := (q2.sound T hT ((w3 T).mpr hg)).1
    cases this
  | true =>
    refine ⟨out, true, stS _ (Ev.bind g1 (Ev.bind f1 (Ev.pos rfl (Ev.bind o1 (Ev.val _))))), stI _ (Ev.bind g2 (Ev.bind f2 (Ev.pos rfl ?_))), o3, fun j hj => (o4 j hj).1, fun T hT hg => ⟨rfl, fun j hj => ?_⟩⟩
    · rw [show (s.length : Int) = ((n + 1 : Nat) : Int) by omega]
      exact o2
    · have hC := (q2.sound T hT ((w3 T).mpr hg)).2
      obtain ⟨⟨x0, x1, x2⟩, x3⟩ := o4 j hj
      have := hC (rd out (j : Int)).natAbs (by omega) (by rw [x3]; exact x0)
      rwa [x3] at this
theorem forced_no (n : Int) (L : List (List Int)) (g : List Int) (hL : Small L) (hg : g.length ≤ 1048576) (h : ¬ AskOk n L g) :
    Ev (fun k => spec_Forced.f k n L g) (([] : List Int), false) ∧ Ev (fun k => impl_Forced.f k n L g) (([] : List Int), false) := by
  obtain ⟨bs, hs1, hs2⟩ := spec_clauses n L hL
  obtain ⟨bi, hi1, hi2⟩ := impl_clauses n L hL
  obtain ⟨bt, ht1, ht2⟩ := spec_clause n g hg
  obtain ⟨bu, hu1, hu2⟩ := impl_clause n g hg
  have e1 : bs = bi := by rw [Bool.eq_iff_iff, hs2, hi2]
  have e2 : bt = bu := by rw [Bool.eq_iff_iff, ht2, hu2]
  subst e1 e2
  have sE : ∀ x : Bool, x = true → Ev (fun k => spec_Forced.j0 k g x n L) (([] : List Int), false) := fun x hx => Ev.step (Ev.pos hx (Ev.val _)) (fun k => spec_Forced.j0.eq_2 ..)
  have iE : ∀ x : Bool, x = true → Ev (fun k => impl_Forced.j0 k g x n L) (([] : List Int), false) := fun x hx => Ev.step (Ev.pos hx (Ev.val _)) (fun k => impl_Forced.j0.eq_2 ..)
  unfold spec_Forced.f impl_Forced.f
  cases bs with
  | false => exact ⟨Ev.bind hs1 (Ev.neg (by decide) (sE _ rfl)), Ev.bind hi1 (Ev.neg (by decide) (iE _ rfl))⟩
  | true =>
    have : bt = false := by
      cases bt with
      | false => rfl
      | true => exact absurd ⟨hs2.mp rfl, ht2.mp rfl⟩ h
    subst this
    exact ⟨Ev.bind hs1 (Ev.pos rfl (Ev.bind ht1 (sE _ rfl))), Ev.bind hi1 (Ev.pos rfl (Ev.bind hu1 (iE _ rfl)))⟩
/-! #### the drawer of numbers -/
def Drawer (b : List Int) : Prop := b.length ≤ 2000 ∧ ∀ j : Nat, j < b.length → 0 ≤ rd b (j : Int) ∧ rd b (j : Int) ≤ 255
theorem xor_nonneg (a c : Int) (ha : 0 ≤ a) (ha2 : a < 4611686018427387904) (hc : 0 ≤ c) (hc2 : c < 4611686018427387904) : 0 ≤ Go.bits .xor .i64 a c := by
  obtain ⟨m, rfl⟩ := Int.eq_ofNat_of_zero_le ha
  obtain ⟨n, rfl⟩ := Int.eq_ofNat_of_zero_le hc
  have hm : m < 2 ^ 62 := by omega
  have hn : n < 2 ^ 62 := by omega
  have hx := Nat.xor_lt_two_pow hm hn
  have hm' : m % 2 ^ 64 = m := Nat.mod_eq_of_lt (by omega)
  have hn' : n % 2 ^ 64 = n := Nat.mod_eq_of_lt (by omega)
  have e : (BitVec.ofInt 64 (m : Int) ^^^ BitVec.ofInt 64 (n : Int)).toNat = m ^^^ n := by
    rw [BitVec.ofInt_natCast, BitVec.ofInt_natCast, BitVec.toNat_xor, BitVec.toNat_ofNat, BitVec.toNat_ofNat, hm', hn']
  have e2 : Go.bits .xor .i64 (m : Int) (n : Int) = IntKind.i64.wrap ((BitVec.ofInt 64 (m : Int) ^^^ BitVec.ofInt 64 (n : Int)).toNat : Int) := rfl
  rw [e2, e, IntKind.wrap_i64]
  omega
theorem tmod_range (x n : Int) (h0 : 0 ≤ x) (hn : 1 ≤ n) : 0 ≤ Int.tmod x n ∧ Int.tmod x n < n := by
  rw [Int.tmod_eq_emod_of_nonneg h0]
  exact ⟨Int.emod_nonneg _ (by omega), Int.emod_lt_of_pos _ (by omega)⟩
theorem pick_tot (b : List Int) (hb : Drawer b) (p n : Int) (hp : 0 ≤ p) (hp2 : p ≤ 1000000) :
    Tot (fun k => spec_l40Rd_pick.f k b p n) (fun r => r.2 = p + 1 ∧ 0 ≤ r.1 ∧ (1 ≤ n → r.1 < n)) := by
  obtain ⟨hl, hbb⟩ := hb
  have w1 : wrap64 (p + 1) = p + 1 := w_id (by omega) (by omega)
  have w2 : wrap64 (p + 1 - 1) = p := by rw [w_id (by omega) (by omega)]; omega
  have byte : ∀ z : Int, 0 ≤ z → z < (b.length : Int) → 0 ≤ rd b z ∧ rd b z ≤ 255 := by
    intro z h0 h1
    obtain ⟨m, rfl⟩ := Int.eq_ofNat_of_zero_le h0
    exact hbb m (by omega)
  unfold spec_l40Rd_pick.f
  rw [w1]
  refine Tot.ite (fun hn => ?_) (fun hn => ?_)
  · refine Tot.step (Tot.pos rfl (Tot.val ?_)) (fun k => spec_l40Rd_pick.j0.eq_2 ..)
    exact ⟨rfl, Int.le_refl _, fun h => by omega⟩
  · refine Tot.step ?_ (fun k => spec_l40Rd_pick.j0.eq_2 ..)
    refine Tot.ite (fun hz => Tot.val ⟨rfl, Int.le_refl _, fun h => by show (0 : Int) < n; omega⟩) (fun hz => ?_)
    have hlen : (b.length : Int) ≠ 0 := by simpa using hz
    rw [w2]
    refine Tot.ite (fun hpl => ?_) (fun hpl => ?_)
    · obtain ⟨y0, y1⟩ := byte p hp hpl
      refine Tot.pos hp (Tot.neg (by omega) (Tot.val ?_))
      rw [w_id (by omega) (by omega)]
      obtain ⟨z0, z1⟩ := tmod_range (rd b p) n y0 (by omega)
      exact ⟨rfl, z0, fun _ => z1⟩
    · obtain ⟨i0, i1⟩ := tmod_range p (b.length : Int) hp (by omega)
      have w3 : wrap64 (p * 7) = p * 7 := w_id (by omega) (by omega)
      have w4 : wrap64 (p * 7 + 3) = p * 7 + 3 := w_id (by omega) (by omega)
      rw [w3, w4]
      obtain ⟨j0, j1⟩ := tmod_range (p * 7 + 3) (b.length : Int) (by omega) (by omega)
      refine Tot.neg (by omega) (Tot.pos i0 (Tot.pos i1 (Tot.pos j0 (Tot.pos j1 (Tot.neg (by omega) (Tot.val ?_))))))
      obtain ⟨u0, u1⟩ := byte _ i0 i1
      obtain ⟨v0, v1⟩ := byte _ j0 j1
      generalize rd b (Int.tmod p (b.length : Int)) = u at u0 u1 ⊢
      generalize rd b (Int.tmod (p * 7 + 3) (b.length : Int)) = v at v0 v1 ⊢
      have q0 : 0 ≤ Int.tdiv p (b.length : Int) ∧ Int.tdiv p (b.length : Int) ≤ p := by
        rw [Int.tdiv_eq_ediv_of_nonneg hp]
        exact ⟨Int.ediv_nonneg hp (by omega), Int.ediv_le_self _ hp⟩
      generalize Int.tdiv p (b.length : Int) = q at q0 ⊢
      rw [w_id (x := u) (by omega) (by omega), w_id (x := v) (by omega) (by omega), w_id (x := q) (by omega) (by omega), w_id (x := u * 131) (by omega) (by omega), w_id (x := v * 1117) (by omega) (by omega),
        w_id (x := p * 29) (by omega) (by omega), w_id (x := q * 53) (by omega) (by omega), w_id (x := u * 131 + v * 1117) (by omega) (by omega), w_id (x := u * 131 + v * 1117 + p * 29) (by omega) (by omega), w_id (x := u * 131 + v * 1117 + p * 29 + q * 53) (by omega) (by omega)]
      generalize hA : u * 131 + v * 1117 + p * 29 + q * 53 = A
      have hA0 : 0 ≤ A ∧ A ≤ 1000000000 := by omega
      have hd : 0 ≤ Int.tdiv A 64 ∧ Int.tdiv A 64 ≤ A := by
        rw [Int.tdiv_eq_ediv_of_nonneg hA0.1]
        omega
      rw [w_id (x := Int.tdiv A 64) (by omega) (by omega)]
      have hx := xor_nonneg A (Int.tdiv A 64) hA0.1 (by omega) hd.1 (by omega)
      obtain ⟨z0, z1⟩ := tmod_range _ n hx (by omega)
      exact ⟨rfl, z0, fun _ => z1⟩
theorem num_tot (b : List Int) (hb : Drawer b) (p : Int) (l : List Int) (hp : 0 ≤ p) (hp2 : p ≤ 1000000) (hl : 1 ≤ l.length) :
    Tot (fun k => spec_l40Rd_num.f k b p l) (fun r => r.2 = p + 1 ∧ r.1 ∈ l) := by
  unfold spec_l40Rd_num.f
  refine Tot.bind (pick_tot b hb p (l.length : Int) hp hp2) ?_
  rintro ⟨x, q⟩ ⟨h1, h2, h3⟩
  have h4 := h3 (by omega)
  refine Tot.pos h2 (Tot.pos h4 (Tot.val ⟨h1, ?_⟩))
  show rd l x ∈ l
  obtain ⟨m, rfl⟩ := Int.eq_ofNat_of_zero_le h2
  rw [rd_lt (by show m < _; simp only at h4; omega)]
  exact List.getElem_mem _
theorem open_tot (code : List Int) (hc : ∀ x ∈ code, (Lit.int .u8 x).wf = true) : ∃ b, spec_l40Open.f code = some (b, 0) ∧ Drawer b := by
  have byte : ∀ b : List Int, (∀ x ∈ b, x ∈ code) → ∀ j : Nat, j < b.length → 0 ≤ rd b (j : Int) ∧ rd b (j : Int) ≤ 255 := by
    intro b hs j hj
    rw [rd_lt hj]
    have := hc _ (hs _ (List.getElem_mem hj))
    simp [Lit.wf, IntKind.min, IntKind.max, IntKind.signed, IntKind.bits] at this
    omega
  unfold spec_l40Open.f
  by_cases c : (code.length : Int) > 2000
  · rw [if_pos c, if_pos (by omega)]
    refine ⟨_, rfl, by simp; omega, byte _ (fun x hx => List.mem_of_mem_take hx)⟩
  · rw [if_neg c]
    exact ⟨_, rfl, by omega, byte _ (fun x hx => hx)⟩
/-! #### drawn clauses: something is drawn, and it isn't great -/
theorem has_tot (l : List Int) (hl : l.length ≤ 1048576) (x : Int) : ∀ (d i : Nat), i + d = l.length → Tot (fun k => spec_l2Has.l0 k l x (i : Int)) (fun b => b = true ↔ ∃ j : Nat, i ≤ j ∧ j < l.length ∧ rd l (j : Int) = x) := by
  intro d
  induction d with
  | zero =>
    intro i hi
    exact Tot.step (Tot.neg (by omega) (Tot.val ⟨(fun h => by cases h), (fun ⟨j, h1, h2, _⟩ => by omega)⟩)) (fun k => spec_l2Has.l0.eq_2 ..)
  | succ d ih =>
    intro i hi
    have hwi := wsucc i (by omega)
    refine Tot.step (Tot.pos (by omega) (Tot.pos (by omega) ?_)) (fun k => spec_l2Has.l0.eq_2 ..)
    rw [hwi]
    refine Tot.ite (fun h => Tot.val ⟨fun _ => ⟨i, Nat.le_refl _, by omega, h⟩, fun _ => rfl⟩) (fun h => (ih (i + 1) (by omega)).mono (fun b hb => hb.trans ?_))
    constructor
    · rintro ⟨j, h1, h2, h3⟩
      exact ⟨j, by omega, h2, h3⟩
    · rintro ⟨j, h1, h2, h3⟩
      rcases Nat.lt_or_eq_of_le h1 with h4 | rfl
      · exact ⟨j, h4, h2, h3⟩
      · exact absurd h3 h
theorem has_dec (l : List Int) (hl : l.length ≤ 1048576) (x : Int) : Dec (fun k => spec_l2Has.f k l x) (∃ j : Nat, j < l.length ∧ rd l (j : Int) = x) := by
  unfold spec_l2Has.f
  obtain ⟨b, h1, h2⟩ := has_tot l hl x l.length 0 (by omega)
  exact ⟨b, h1, h2.trans ⟨fun ⟨j, _, h3, h4⟩ => ⟨j, h3, h4⟩, fun ⟨j, h3, h4⟩ => ⟨j, Nat.zero_le _, h3, h4⟩⟩⟩
/-- The reference's clause of literals: something, and not more than there are atoms. -/
theorem clause_tell (n : Nat) (hn : n ≤ 1000) (v : List Int) (hv : v.length = n + 1) : ∀ (d a : Nat) (out : List Int), a + d = n → out.length ≤ a → Tot (fun k => spec_l11Clause.l1 k (n : Int) v out ((a + 1 : Nat) : Int)) (fun r => r.1.length ≤ n) := by
  intro d
  induction d with
  | zero =>
    intro a out ha h1
    exact Tot.step (Tot.neg (by omega) (Tot.val (by show out.length ≤ n; omega))) (fun k => spec_l11Clause.l1.eq_2 ..)
  | succ d ih =>
    intro a out ha h1
    have hwi := wsucc (a + 1) (by omega)
    refine Tot.step (Tot.pos (by omega) (Tot.pos (by omega) (Tot.pos (by omega) ?_))) (fun k => spec_l11Clause.l1.eq_2 ..)
    rw [hwi]
    exact Tot.ite (fun _ => ih (a + 1) out (by omega) (by omega)) (fun _ => Tot.pos (by omega) (ih (a + 1) _ (by omega) (by simp; omega)))
theorem clause_tot_loop (n : Nat) (hn : n ≤ 1000) (m : List Int) (hml : m.length ≤ 1048576) (hm : ∀ j : Nat, j < m.length → LitOk (n : Int) (rd m (j : Int))) : ∀ (d i : Nat) (v : List Int), i + d = m.length → v.length = n + 1 → Tot (fun k => spec_l11Clause.l0 k m (n : Int) v (i : Int)) (fun r => r.1.length ≤ n) := by
  intro d
  induction d with
  | zero =>
    intro i v hi hv
    exact Tot.step (Tot.neg (by omega) (clause_tell n hn v hv n 0 [] (by omega) (by simp))) (fun k => spec_l11Clause.l0.eq_2 ..)
  | succ d ih =>
    intro i v hi hv
    have hwi := wsucc i (by omega)
    obtain ⟨x0, x1, x2⟩ := hm i (by omega)
    refine Tot.step (Tot.pos (by omega) (Tot.pos (by omega) (Tot.bind (Tot.of (P := fun r => r = AbsI (rd m (i : Int))) (spec_abs (by omega) (by omega)) rfl) ?_))) (fun k => spec_l11Clause.l0.eq_2 ..)
    rintro _ rfl
    rw [absN, Int.toNat_natCast, hwi]
    refine Tot.pos (by omega) (Tot.pos (by omega) ?_)
    have hgo := ih (i + 1) (v.set (rd m (i : Int)).natAbs (rd m (i : Int))) (by omega) (by simpa using hv)
    exact Tot.ite (fun _ => hgo) (fun _ => Tot.ite (fun _ => hgo) (fun _ => Tot.val (by simp)))
theorem clause_tot (n : Nat) (hn : n ≤ 1000) (m : List Int) (hml : m.length ≤ 1048576) (hm : ∀ j : Nat, j < m.length → LitOk (n : Int) (rd m (j : Int))) : Tot (fun k => spec_l11Clause.f k m (n : Int)) (fun r => r.1.length ≤ n) := by
  have hwn : wrap64 ((n : Int) + 1) = ((n + 1 : Nat) : Int) := wsucc n (by omega)
  unfold spec_l11Clause.f
  rw [hwn, Int.toNat_natCast]
  exact Tot.pos (by omega) (Tot.pos (by omega) (clause_tot_loop n hn m hml hm m.length 0 _ (by omega) (by simp)))
theorem lits_loop (b : List Int) (hb : Drawer b) (n : Nat) (hn : n ≤ 1000) (w : Int) (hw : w ≤ 20) : ∀ (d : Nat) (i : Int) (l : List Int) (p : Int), (d : Int) = w - i → 0 ≤ i → (l.length : Int) ≤ i → (∀ j : Nat, j < l.length → LitOk (n : Int) (rd l (j : Int))) → 0 ≤ p → p + 2 * d ≤ 900000 →
    Tot (fun k => spec_l11Lits.l0 k (n : Int) w l i b p) (fun r => r.1.length ≤ n ∧ p ≤ r.2 ∧ r.2 ≤ p + 2 * d) := by
  intro d
  induction d with
  | zero =>
    intro i l p hd h0 hl hlit hp hp2
    refine Tot.step (Tot.neg (by omega) (Tot.step (Tot.neg (by decide) (Tot.bind (clause_tot n hn l (by omega) hlit) ?_)) (fun k => spec_l11Lits.j1.eq_2 ..))) (fun k => spec_l11Lits.l0.eq_2 ..)
    intro r hr
    exact Tot.val ⟨hr, Int.le_refl _, by simp⟩
  | succ d ih =>
    intro i l p hd h0 hl hlit hp hp2
    have hwi : wrap64 (i + 1) = i + 1 := w_id (by omega) (by omega)
    refine Tot.step (Tot.pos (by omega) (Tot.step (Tot.ite (fun hn0 => ?_) (fun hn0 => ?_)) (fun k => spec_l11Lits.j1.eq_2 ..))) (fun k => spec_l11Lits.l0.eq_2 ..)
    · have hn1 : 1 ≤ n := by
        have := of_decide_eq_true hn0
        omega
      refine Tot.bind (pick_tot b hb p (n : Int) hp (by omega)) ?_
      rintro ⟨x, q⟩ ⟨e1, e2, e3⟩
      simp only at e1 e2 e3 ⊢
      subst e1
      have e4 := e3 (by omega)
      refine Tot.bind (pick_tot b hb (p + 1) 2 (by omega) (by omega)) ?_
      rintro ⟨y, q⟩ ⟨e1, _, _⟩
      simp only at e1 ⊢
      subst e1
      have w1 : wrap64 (1 + x) = 1 + x := w_id (by omega) (by omega)
      have w2 : wrap64 (-(1 + x)) = -(1 + x) := w_id (by omega) (by omega)
      have w3 : wrap64 (- -(1 + x)) = 1 + x := by rw [Int.neg_neg]; exact w1
      rw [w1, w2, w3, hwi]
      have step : ∀ (z u : Int), LitOk (n : Int) z → Tot (fun k => (spec_l2Has.f k l u).bind fun t => if t = true then spec_l11Lits.l0 k (n : Int) w l (i + 1) b (p + 1 + 1) else if l.length < 17592186044416 then spec_l11Lits.l0 k (n : Int) w (l ++ [z]) (i + 1) b (p + 1 + 1) else none) (fun r => r.1.length ≤ n ∧ p ≤ r.2 ∧ r.2 ≤ p + 2 * ((d + 1 : Nat) : Int)) := by
        intro z u hz
        obtain ⟨bb, h1, _⟩ := has_dec l (by omega) u
        refine Tot.bind (Tot.of (P := fun _ => True) h1 trivial) (fun c _ => ?_)
        refine Tot.ite (fun _ => ?_) (fun _ => Tot.pos (by omega) ?_)
        · refine (ih (i + 1) l (p + 1 + 1) (by omega) (by omega) (by omega) hlit (by omega) (by omega)).mono ?_
          rintro r ⟨r1, r2, r3⟩
          exact ⟨r1, by omega, by omega⟩
        · refine (ih (i + 1) (l ++ [z]) (p + 1 + 1) (by omega) (by omega) (by simp; omega) (fun j hj => ?_) (by omega) (by omega)).mono ?_
          · simp at hj
            by_cases e : j = l.length
            · subst e
              rw [rd_app_eq]
              exact hz
            · rw [rd_app_lt (by omega)]
              exact hlit j (by omega)
          · rintro r ⟨r1, r2, r3⟩
            exact ⟨r1, by omega, by omega⟩
      exact Tot.ite (fun _ => step _ _ ⟨by omega, by omega, by omega⟩) (fun _ => step _ _ ⟨by omega, by omega, by omega⟩)
    · refine Tot.bind (clause_tot n hn l (by omega) hlit) ?_
      intro r hr
      exact Tot.val ⟨hr, Int.le_refl _, by show p ≤ p + 2 * ((d + 1 : Nat) : Int); omega⟩
theorem lits_tot (b : List Int) (hb : Drawer b) (n : Nat) (hn : n ≤ 1000) (w : Int) (hw : 0 ≤ w ∧ w ≤ 20) (p : Int) (hp : 0 ≤ p) (hp2 : p ≤ 890000) :
    Tot (fun k => spec_l11Lits.f k b p (n : Int) w) (fun r => r.1.length ≤ n ∧ p ≤ r.2 ∧ r.2 ≤ p + 40) := by
  obtain ⟨m, rfl⟩ := Int.eq_ofNat_of_zero_le hw.1
  unfold spec_l11Lits.f
  refine (lits_loop b hb n hn (m : Int) hw.2 m 0 [] p (by omega) (by omega) (by simp) (fun j hj => by simp at hj) hp (by omega)).mono ?_
  rintro r ⟨r1, r2, r3⟩
  exact ⟨r1, r2, by omega⟩
/-- The same for less than no atoms: no literals. -/
theorem lits_none (b : List Int) (w : Int) (hw : 0 ≤ w ∧ w ≤ 20) (p : Int) : Tot (fun k => spec_l11Lits.f k b p (-1) w) (fun r => r.1.length ≤ 1000 ∧ r.2 = p) := by
  have hcl : Tot (fun k => spec_l11Clause.f k ([] : List Int) (-1)) (fun r => r.1.length ≤ 1000) := by
    unfold spec_l11Clause.f
    rw [show wrap64 (-1 + 1) = 0 from by rw [w_id (by omega) (by omega)]; rfl]
    exact Tot.pos (by omega) (Tot.pos (by decide) (Tot.step (Tot.neg (by simp) (Tot.step (Tot.neg (by omega) (Tot.val (by simp))) (fun k => spec_l11Clause.l1.eq_2 ..))) (fun k => spec_l11Clause.l0.eq_2 ..)))
  have fin : Tot (fun k => spec_l11Lits.j1 k (-1) w ([] : List Int) 0 false b p) (fun r => r.1.length ≤ 1000 ∧ r.2 = p) := by
    refine Tot.step (Tot.neg (by decide) (Tot.bind hcl ?_)) (fun k => spec_l11Lits.j1.eq_2 ..)
    intro r hr
    exact Tot.val ⟨hr, rfl⟩
  unfold spec_l11Lits.f
  refine Tot.step (Tot.ite (fun _ => ?_) (fun _ => fin)) (fun k => spec_l11Lits.l0.eq_2 ..)
  exact fin
theorem draw_rows_loop (b : List Int) (hb : Drawer b) (n : Nat) (hn : n ≤ 6) (m : Int) (hm : m ≤ 20) : ∀ (d : Nat) (i : Int) (L : List (List Int)) (p : Int), (d : Int) = m - i → 0 ≤ i → (L.length : Int) ≤ i → (∀ x ∈ L, x.length ≤ 1000) → 0 ≤ p → p + 50 * d ≤ 800000 →
    Tot (fun k => spec_l11Draw.l0 k (n : Int) m i b p (n : Int) L) (fun r => r.1 = (n : Int) ∧ (r.2.1.length : Int) ≤ 20 ∧ (∀ x ∈ r.2.1, x.length ≤ 1000) ∧ p ≤ r.2.2 ∧ r.2.2 ≤ p + 50 * d) := by
  intro d
  induction d with
  | zero =>
    intro i L p hd h0 hl hx hp hp2
    exact Tot.step (Tot.neg (by omega) (Tot.val ⟨rfl, by show (L.length : Int) ≤ 20; omega, hx, Int.le_refl _, by simp⟩)) (fun k => spec_l11Draw.l0.eq_2 ..)
  | succ d ih =>
    intro i L p hd h0 hl hx hp hp2
    have hwi : wrap64 (i + 1) = i + 1 := w_id (by omega) (by omega)
    refine Tot.step (Tot.pos (by omega) (Tot.bind (num_tot b hb p _ hp (by omega) (by simp)) ?_)) (fun k => spec_l11Draw.l0.eq_2 ..)
    rintro ⟨x, q⟩ ⟨e1, e2⟩
    simp only at e1 e2 ⊢
    subst e1
    have hx3 : 0 ≤ x ∧ x ≤ 20 := by simp at e2; omega
    refine Tot.bind (lits_tot b hb n (by omega) x hx3 (p + 1) (by omega) (by omega)) ?_
    rintro ⟨c, q⟩ ⟨c1, c2, c3⟩
    simp only at c1 c2 c3 ⊢
    rw [hwi]
    refine Tot.pos (by omega) ((ih (i + 1) (L ++ [c]) q (by omega) (by omega) (by simp; omega) (fun y hy => ?_) (by omega) (by omega)).mono ?_)
    · rcases List.mem_append.mp hy with h | h
      · exact hx y h
      · rw [List.mem_singleton.mp h]
        omega
    · rintro r ⟨r1, r2, r3, r4, r5⟩
      exact ⟨r1, r2, r3, by omega, by omega⟩
/-- Drawn clauses are few and short, and their atoms are few, or far too many, or less than none. -/
theorem some_tot (b : List Int) (hb : Drawer b) (p : Int) (hp : 0 ≤ p) (hp2 : p ≤ 100000) :
    Tot (fun k => spec_l11Some.f k b p) (fun r => (r.1 = -1 ∨ r.1 = 701 ∨ (0 ≤ r.1 ∧ r.1 ≤ 6)) ∧ r.2.1.length ≤ 30 ∧ (∀ x ∈ r.2.1, x.length ≤ 1000) ∧ p ≤ r.2.2 ∧ r.2.2 ≤ p + 2000) := by
  unfold spec_l11Some.f
  refine Tot.bind (num_tot b hb p _ hp (by omega) (by simp)) ?_
  rintro ⟨a, q⟩ ⟨e1, e2⟩
  simp only at e1 e2 ⊢
  subst e1
  have ha : 0 ≤ a ∧ a ≤ 6 := by simp at e2; omega
  refine Tot.bind (num_tot b hb (p + 1) _ (by omega) (by omega) (by simp)) ?_
  rintro ⟨m, q⟩ ⟨e1, e3⟩
  simp only at e1 e3 ⊢
  subst e1
  have hm : 0 ≤ m ∧ m ≤ 20 := by simp at e3; omega
  obtain ⟨n, rfl⟩ := Int.eq_ofNat_of_zero_le ha.1
  obtain ⟨t, rfl⟩ := Int.eq_ofNat_of_zero_le hm.1
  have hd : Tot (fun k => spec_l11Draw.f k b (p + 1 + 1) (n : Int) (t : Int)) (fun r => r.1 = (n : Int) ∧ (r.2.1.length : Int) ≤ 20 ∧ (∀ x ∈ r.2.1, x.length ≤ 1000) ∧ p + 2 ≤ r.2.2 ∧ r.2.2 ≤ p + 1500) := by
    unfold spec_l11Draw.f
    refine (draw_rows_loop b hb n (by omega) (t : Int) hm.2 t 0 [] (p + 1 + 1) (by omega) (by omega) (by simp) (fun x hx => by simp at hx) (by omega) (by omega)).mono ?_
    rintro r ⟨r1, r2, r3, r4, r5⟩
    exact ⟨r1, r2, r3, by omega, by omega⟩
  refine Tot.bind hd ?_
  rintro ⟨a2, L, q⟩ ⟨e4, e5, e6, e7, e8⟩
  simp only at e4 e5 e6 e7 e8 ⊢
  subst e4
  have hmem : ∀ (c : List Int), c.length ≤ 1000 → ∀ x ∈ L ++ [c], x.length ≤ 1000 := by
    intro c hc x hx
    rcases List.mem_append.mp hx with h | h
    · exact e6 x h
    · rw [List.mem_singleton.mp h]
      exact hc
  refine Tot.bind (pick_tot b hb q 14 (by omega) (by omega)) ?_
  rintro ⟨y, q1⟩ ⟨e1, _, _⟩
  simp only at e1 ⊢
  subst e1
  refine Tot.ite (fun _ => ?_) (fun _ => Tot.val ⟨Or.inr (Or.inr ⟨by show (0 : Int) ≤ n; omega, by show (n : Int) ≤ 6; omega⟩), by show L.length ≤ 30; omega, e6, by show p ≤ q + 1; omega, by show q + 1 ≤ p + 2000; omega⟩)
  refine Tot.bind (pick_tot b hb (q + 1) 4 (by omega) (by omega)) ?_
  rintro ⟨y, q1⟩ ⟨e1, _, _⟩
  simp only at e1 ⊢
  subst e1
  refine Tot.ite (fun _ => ?_) (fun _ => Tot.ite (fun _ => ?_) (fun _ => Tot.ite (fun _ => ?_) (fun _ => ?_)))
  · refine Tot.bind (num_tot b hb (q + 1 + 1) _ (by omega) (by omega) (by simp)) ?_
    rintro ⟨z, q1⟩ ⟨e1, e9⟩
    simp only at e1 e9 ⊢
    subst e1
    refine Tot.val ⟨?_, by show L.length ≤ 30; omega, e6, by show p ≤ q + 1 + 1 + 1; omega, by show q + 1 + 1 + 1 ≤ p + 2000; omega⟩
    show z = -1 ∨ z = 701 ∨ (0 ≤ z ∧ z ≤ 6)
    simp at e9
    omega
  · exact Tot.pos (by omega) (Tot.val ⟨Or.inr (Or.inr ⟨by show (0 : Int) ≤ n; omega, by show (n : Int) ≤ 6; omega⟩), by simp; omega, hmem _ (by simp), by show p ≤ q + 1 + 1; omega, by show q + 1 + 1 ≤ p + 2000; omega⟩)
  · refine Tot.bind (num_tot b hb (q + 1 + 1) _ (by omega) (by omega) (by simp)) ?_
    rintro ⟨z, q1⟩ ⟨e1, e9⟩
    simp only at e1 e9 ⊢
    subst e1
    exact Tot.pos (by omega) (Tot.val ⟨Or.inr (Or.inr ⟨by show (0 : Int) ≤ n; omega, by show (n : Int) ≤ 6; omega⟩), by simp; omega, hmem _ (by simp), by show p ≤ q + 1 + 1 + 1; omega, by show q + 1 + 1 + 1 ≤ p + 2000; omega⟩)
  · exact Tot.pos (by omega) (Tot.val ⟨Or.inr (Or.inr ⟨by show (0 : Int) ≤ n; omega, by show (n : Int) ≤ 6; omega⟩), by simp; omega, hmem _ (by simp), by show p ≤ q + 1 + 1; omega, by show q + 1 + 1 ≤ p + 2000; omega⟩)
/-! #### the truth of clauses by a row of bits -/
def Bit01 (xs : List Int) : Prop := ∀ j : Nat, j < xs.length → rd xs (j : Int) = 0 ∨ rd xs (j : Int) = 1
/-- The assignment of a row of bits. -/
def TB (xs : List Int) : Nat → Bool := fun a => rd xs ((a - 1 : Nat) : Int) == 1
theorem lt_bits {xs : List Int} (hb : Bit01 xs) {x : Int} (hx : LitOk (xs.length : Int) x) : LT (TB xs) x ↔ (0 < x ↔ rd xs ((x.natAbs - 1 : Nat) : Int) = 1) := by
  obtain ⟨h0, h1, h2⟩ := hx
  unfold LT TB
  by_cases h : 0 < x
  · simp [h]
  · simp only [h, if_false, false_iff]
    simp
theorem bits_valid (xs : List Int) (hl : xs.length ≤ 1048576) (hb : Bit01 xs) : Ev (fun _ => impl_bitsValid.f xs) true := by
  unfold impl_bitsValid.f
  obtain ⟨r, h1, h2⟩ := idx_tot (fun _ => impl_bitsValid.p xs) (fun _ => False) xs.length (fun j hj => by
    unfold impl_bitsValid.p
    refine Dec.no (Ev.bind in_dec (Ev.valEq ?_)) id
    have := hb j hj
    simp
    omega) xs.length 0 (by omega)
  refine Ev.bind h1 (Ev.valEq ?_)
  have : ¬ 0 ≤ r := fun h => by
    obtain ⟨j, _, _, h3⟩ := h2.mp h
    exact h3
  simp [this]
theorem lit_true (xs : List Int) (hl : xs.length ≤ 1048576) (hb : Bit01 xs) {x : Int} (hx : LitOk (xs.length : Int) x) : Dec (fun _ => impl_litTrue.f x xs) (LT (TB xs) x) := by
  rw [lt_bits hb hx]
  obtain ⟨h0, h1, h2⟩ := hx
  have hw : wrap64 (AbsI x - 1) = ((x.natAbs - 1 : Nat) : Int) := by rw [absN, w_id (by omega) (by omega)]; omega
  unfold impl_litTrue.f
  refine ⟨_, Ev.bind (impl_abs (by omega) (by omega)) (Ev.pos (by rw [hw]; omega) (Ev.pos (by rw [hw]; omega) (Ev.bind (bit_ev _) (Ev.val _)))), ?_⟩
  rw [hw, beq_iff_eq]
  have := hb (x.natAbs - 1) (by omega)
  by_cases h : 0 < x
  · rw [show decide (x > 0) = true from decide_eq_true h, if_pos rfl]
    simp [h]
  · rw [show decide (x > 0) = false from decide_eq_false h, if_neg (by decide)]
    simp only [h, false_iff]
    omega
theorem true_in (n : Nat) (hn : n ≤ 700) (L : List (List Int)) (hL : Small L) (hC : ClausesOk (n : Int) L) (xs : List Int) (hx : xs.length = n) (hb : Bit01 xs) : Dec (fun k => impl_TrueIn.f k (n : Int) L xs) (AllT (TB xs) L) := by
  obtain ⟨bi, hi1, hi2⟩ := impl_clauses (n : Int) L hL
  obtain rfl : bi = true := hi2.mpr hC
  have hlits := all_lits n L hL hC
  have hq : ∀ i : Nat, i < L.length → Dec (fun _ => impl_trueIn.q L xs (i : Int)) (¬ ClT (TB xs) (rd_L1 L (i : Int))) := by
    intro i hi
    unfold impl_trueIn.q
    have hlit := hlits.2 i hi
    obtain ⟨r, h1, h2⟩ := idx_tot (fun _ => impl_trueIn.p xs (rd_L1 L (i : Int))) (fun j => LT (TB xs) (rd (rd_L1 L (i : Int)) (j : Int))) (rd_L1 L (i : Int)).length (fun j hj => by
      unfold impl_trueIn.p
      exact lit_true xs (by omega) hb (by rw [hx]; exact hlit.2 j hj)) (rd_L1 L (i : Int)).length 0 (by omega)
    refine ⟨_, Ev.bind h1 (Ev.val _), ?_⟩
    rw [Bool.not_eq_true', decide_eq_false_iff_not, h2]
    constructor
    · rintro h ⟨j, j1, j2⟩
      exact h ⟨j, Nat.zero_le _, j1, j2⟩
    · rintro h ⟨j, _, j1, j2⟩
      exact h ⟨j, j1, j2⟩
  obtain ⟨r, h1, h2⟩ := idx_tot (fun _ => impl_trueIn.q L xs) (fun i => ¬ ClT (TB xs) (rd_L1 L (i : Int))) L.length hq L.length 0 (by omega)
  unfold impl_TrueIn.f
  refine ⟨_, Ev.bind hi1 (Ev.pos rfl (Ev.pos (by omega) (Ev.bind (bits_valid xs (by omega) hb) (Ev.pos rfl (Ev.bind (a := !(decide (0 ≤ r))) ?_ (Ev.val _)))))), ?_⟩
  · unfold impl_trueIn.f
    exact Ev.bind h1 (Ev.val _)
  · rw [Bool.not_eq_true', decide_eq_false_iff_not, h2]
    constructor
    · intro h j hj
      apply Classical.byContradiction
      intro hn
      exact h ⟨j, Nat.zero_le _, hj, hn⟩
    · rintro h ⟨j, _, j1, j2⟩
      exact j2 (h j j1)
theorem wc_ints_loop (l : List Int) (hl : l.length ≤ 1048576) : ∀ (d i : Nat), i + d = l.length → Ev (fun k => laws_wcInts.l0 k l l (l.length : Int) (i : Int)) true := by
  intro d
  induction d with
  | zero =>
    intro i hi
    exact Ev.step (Ev.neg (by omega) (Ev.val _)) (fun k => laws_wcInts.l0.eq_2 ..)
  | succ d ih =>
    intro i hi
    have hwi := wsucc i (by omega)
    refine Ev.step ?_ (fun k => laws_wcInts.l0.eq_2 ..)
    rw [hwi]
    exact Ev.pos (by omega) (Ev.pos (by omega) (Ev.pos (by omega) (Ev.pos (by omega) (Ev.pos rfl (ih (i + 1) (by omega))))))
theorem wc_ints (l : List Int) (hl : l.length ≤ 1048576) : Ev (fun k => laws_wcInts.f k l l) true := by
  unfold laws_wcInts.f
  exact Ev.pos rfl (wc_ints_loop l hl l.length 0 (by omega))
theorem shl_le62 (n : Nat) : shl .i64 1 (n : Int) ≤ 4611686018427387904 := by
  unfold shl
  rw [Int.toNat_natCast, Int.one_mul, IntKind.wrap_i64]
  by_cases h : n ≤ 62
  · have e : min n IntKind.i64.bits = n := Nat.min_eq_left (by show n ≤ 64; omega)
    rw [e]
    have h1 : (2 : Nat) ^ n ≤ 2 ^ 62 := Nat.pow_le_pow_right (by decide) h
    have h2 : (2 : Int) ^ n = ((2 ^ n : Nat) : Int) := by simp
    have h3 : (2 : Nat) ^ 62 = 4611686018427387904 := by decide
    rw [h2]
    generalize (2 : Nat) ^ n = p at h1
    omega
  · by_cases h63 : n = 63
    · subst h63
      decide
    · have e : min n IntKind.i64.bits = 64 := Nat.min_eq_right (by show 64 ≤ n; omega)
      rw [e]
      decide
theorem shr_bit (v i : Nat) : Int.tmod (shr .i64 (v : Int) (i : Int)) 2 = 0 ∨ Int.tmod (shr .i64 (v : Int) (i : Int)) 2 = 1 := by
  unfold shr
  have h0 : 0 ≤ (v : Int) / 2 ^ min (i : Int).toNat IntKind.i64.bits := Int.ediv_nonneg (Int.natCast_nonneg _) (Int.le_of_lt (Int.pow_pos (by decide)))
  rw [Int.tmod_eq_emod_of_nonneg h0]
  omega
/-! #### the law of what is forced -/
theorem law_given (g bits out : List Int) (ok : Bool) (n : Int) (L : List (List Int)) (N v : Int) (hb : Bit01 bits) (hbl : bits.length ≤ 1000) (hgl : g.length ≤ 1048576) (hg : ∀ j : Nat, j < g.length → LitOk (bits.length : Int) (rd g (j : Int))) (r : Bool) :
    ∀ (d i : Nat) (all : Bool), i + d = g.length →
      (∀ all' : Bool, (all' = true ↔ all = true ∧ ∀ j : Nat, i ≤ j → j < g.length → LT (TB bits) (rd g (j : Int))) → Ev (fun k => if all' = true then laws_FnForced.j5 k g out ok bits all' N v (!ok) n L else laws_FnForced.j5 k g out ok bits all' N v false n L) r) →
      Ev (fun k => laws_FnForced.l2 k g out ok bits all N v g (g.length : Int) (i : Int) n L) r := by
  intro d
  induction d with
  | zero =>
    intro i all hi h
    exact Ev.step (Ev.neg (by omega) (h all ⟨fun h1 => ⟨h1, fun j h2 h3 => by omega⟩, fun h1 => h1.1⟩)) (fun k => laws_FnForced.l2.eq_2 ..)
  | succ d ih =>
    intro i all hi h
    have hwi := wsucc i (by omega)
    have hx := hg i (by omega)
    have hlt := lt_bits hb hx
    obtain ⟨h0, h1, h2⟩ := hx
    have hm : mx (rd g (i : Int)) (wrap64 (-(rd g (i : Int)))) = ((rd g (i : Int)).natAbs : Nat) := by
      rw [wneg (by omega) (by omega)]
      unfold mx
      split <;> omega
    have hw : wrap64 ((((rd g (i : Int)).natAbs : Nat) : Int) - 1) = (((rd g (i : Int)).natAbs - 1 : Nat) : Int) := by rw [w_id (by omega) (by omega)]; omega
    refine Ev.step (Ev.pos (by omega) (Ev.pos (by omega) (Ev.pos (by omega) ?_))) (fun k => laws_FnForced.l2.eq_2 ..)
    rw [hwi]
    cases all with
    | true =>
      rw [hm, hw]
      refine Ev.pos rfl (Ev.pos (by omega) (Ev.pos (by omega) (ih (i + 1) _ (by omega) (fun all' ha => h all' (ha.trans ?_)))))
      have e : ((decide (rd g (i : Int) > 0)) == (rd bits (((rd g (i : Int)).natAbs - 1 : Nat) : Int) == 1)) = true ↔ LT (TB bits) (rd g (i : Int)) := by
        rw [hlt, beq_iff_eq, Bool.eq_iff_iff]
        simp
      rw [e]
      constructor
      · rintro ⟨a, b⟩
        refine ⟨rfl, fun j h3 h4 => ?_⟩
        rcases Nat.lt_or_eq_of_le h3 with h5 | rfl
        · exact b j h5 h4
        · exact a
      · rintro ⟨_, b⟩
        exact ⟨b i (Nat.le_refl _) (by omega), fun j h3 h4 => b j (by omega) h4⟩
    | false =>
      exact Ev.neg (by decide) (ih (i + 1) false (by omega) (fun all' ha => h all' (ha.trans ⟨fun h3 => (by cases h3.1), fun h3 => (by cases h3.1)⟩)))
theorem law_list (g bits out : List Int) (ok all : Bool) (n : Int) (L : List (List Int)) (N v : Int) (hb : Bit01 bits) (hbl : bits.length ≤ 1000) (hol : out.length ≤ 1048576) (hg : ∀ j : Nat, j < out.length → LitOk (bits.length : Int) (rd out (j : Int)))
    (ha : all = true → ∀ j : Nat, j < out.length → LT (TB bits) (rd out (j : Int))) (r : Bool) (hend : Ev (fun k => laws_FnForced.l0 k g out ok N (wrap64 (v + 1)) n L) r) :
    ∀ (d i : Nat), i + d = out.length → Ev (fun k => laws_FnForced.l3 k g out ok bits all N v out (out.length : Int) (i : Int) n L) r := by
  intro d
  induction d with
  | zero =>
    intro i hi
    exact Ev.step (Ev.neg (by omega) hend) (fun k => laws_FnForced.l3.eq_2 ..)
  | succ d ih =>
    intro i hi
    have hwi := wsucc i (by omega)
    have hx := hg i (by omega)
    have hlt := lt_bits hb hx
    obtain ⟨h0, h1, h2⟩ := hx
    have hm : mx (rd out (i : Int)) (wrap64 (-(rd out (i : Int)))) = ((rd out (i : Int)).natAbs : Nat) := by
      rw [wneg (by omega) (by omega)]
      unfold mx
      split <;> omega
    have hw : wrap64 ((((rd out (i : Int)).natAbs : Nat) : Int) - 1) = (((rd out (i : Int)).natAbs - 1 : Nat) : Int) := by rw [w_id (by omega) (by omega)]; omega
    refine Ev.step (Ev.pos (by omega) (Ev.pos (by omega) (Ev.pos (by omega) ?_))) (fun k => laws_FnForced.l3.eq_2 ..)
    rw [hwi]
    cases all with
    | true =>
      rw [hm, hw]
      refine Ev.pos rfl (Ev.pos (by omega) (Ev.pos (by omega) (Ev.neg ?_ (ih (i + 1) (by omega)))))
      have := hlt.mp (ha rfl i (by omega))
      rw [bne_iff_ne, ne_eq, Classical.not_not, Bool.eq_iff_iff]
      simpa using this
    | false => exact Ev.neg (by decide) (ih (i + 1) (by omega))
theorem law_bits (g out : List Int) (ok : Bool) (n : Nat) (hn : n ≤ 700) (L : List (List Int)) (N : Int) (v : Nat) (r : Bool)
    (hend : ∀ bits : List Int, bits.length = n → Bit01 bits → Ev (fun k => (impl_TrueIn.f k (n : Int) L bits).bind fun t358 => laws_FnForced.l2 k g out ok bits t358 N (v : Int) g (g.length : Int) 0 (n : Int) L) r) :
    ∀ (d i : Nat) (bits : List Int), i + d = n → bits.length = i → Bit01 bits → Ev (fun k => laws_FnForced.l1 k g out ok (v : Int) bits N (v : Int) (n : Int) (i : Int) (n : Int) L) r := by
  intro d
  induction d with
  | zero =>
    intro i bits hi hl hb
    exact Ev.step (Ev.neg (by omega) (hend bits (by omega) hb)) (fun k => laws_FnForced.l1.eq_2 ..)
  | succ d ih =>
    intro i bits hi hl hb
    have hwi := wsucc i (by omega)
    refine Ev.step (Ev.pos (by omega) (Ev.pos (by omega) (Ev.pos (by omega) ?_))) (fun k => laws_FnForced.l1.eq_2 ..)
    rw [hwi]
    refine ih (i + 1) _ (by omega) (by simp [hl]) (fun j hj => ?_)
    simp at hj
    by_cases e : j = bits.length
    · subst e
      rw [rd_app_eq]
      exact shr_bit v i
    · rw [rd_app_lt (by omega)]
      exact hb j (by omega)
theorem law_rows (g out : List Int) (ok : Bool) (n : Nat) (hn : n ≤ 700) (L : List (List Int)) (hL : Small L) (hgl : g.length ≤ 1048576) (h : AskOk (n : Int) L g) (hol : out.length ≤ n + 1) (hout : ∀ j : Nat, j < out.length → LitOk (n : Int) (rd out (j : Int)))
    (hs : ∀ T, AllT T L → (∀ j : Nat, j < g.length → LT T (rd g (j : Int))) → ok = true ∧ ∀ j : Nat, j < out.length → LT T (rd out (j : Int))) (N : Int) (hN : N ≤ 4611686018427387904) :
    ∀ (d v : Nat), N - v ≤ d → Ev (fun k => laws_FnForced.l0 k g out ok N (v : Int) (n : Int) L) true := by
  intro d
  induction d with
  | zero =>
    intro v hv
    exact Ev.step (Ev.neg (by omega) (Ev.val _)) (fun k => laws_FnForced.l0.eq_2 ..)
  | succ d ih =>
    intro v hv
    by_cases hlt : (v : Int) < N
    · have hwv : wrap64 ((v : Int) + 1) = ((v + 1 : Nat) : Int) := wsucc v (by omega)
      have hend : Ev (fun k => laws_FnForced.l0 k g out ok N (wrap64 ((v : Int) + 1)) (n : Int) L) true := by
        rw [hwv]
        exact ih (v + 1) (by omega)
      refine Ev.step (Ev.pos hlt (law_bits g out ok n hn L N v true ?_ n 0 [] (by omega) rfl (fun j hj => by simp at hj))) (fun k => laws_FnForced.l0.eq_2 ..)
      intro bits hbl hb
      obtain ⟨t, t1, t2⟩ := true_in n hn L hL h.1 bits hbl hb
      refine Ev.bind t1 (law_given g bits out ok (n : Int) L N (v : Int) hb (by omega) hgl (fun j hj => by rw [hbl]; exact (h.2.2 j hj).1) true g.length 0 t (by omega) ?_)
      intro all ha
      have hall : all = true → ok = true ∧ ∀ j : Nat, j < out.length → LT (TB bits) (rd out (j : Int)) := by
        intro h1
        obtain ⟨h2, h3⟩ := ha.mp h1
        exact hs _ (t2.mp h2) (fun j hj => h3 j (Nat.zero_le _) hj)
      have fin : Ev (fun k => laws_FnForced.j5 k g out ok bits all N (v : Int) false (n : Int) L) true :=
        Ev.step (Ev.neg (by decide) (law_list g bits out ok all (n : Int) L N (v : Int) hb (by omega) (by omega) (fun j hj => by rw [hbl]; exact hout j hj) (fun h1 => (hall h1).2) true hend out.length 0 (by omega))) (fun k => laws_FnForced.j5.eq_2 ..)
      cases all with
      | true =>
        have hok := (hall rfl).1
        subst hok
        exact Ev.pos rfl fin
      | false => exact Ev.neg (by decide) fin
    · exact Ev.step (Ev.neg (by omega) (Ev.val _)) (fun k => laws_FnForced.l0.eq_2 ..)

theorem drawforced_tot (code : List Int) (hc : ∀ x ∈ code, (Lit.int .u8 x).wf = true) :
    Tot (fun k => spec_DrawForced.f k code) (fun r => (r.1 = -1 ∨ r.1 = 701 ∨ (0 ≤ r.1 ∧ r.1 ≤ 6)) ∧ r.2.1.length ≤ 30 ∧ (∀ x ∈ r.2.1, x.length ≤ 1000) ∧ r.2.2.length ≤ 1000) := by
  unfold spec_DrawForced.f
  obtain ⟨b, ho, hb⟩ := open_tot code hc
  refine Tot.bind (Tot.of (P := fun r => r = (b, 0)) (Ev.const ho) rfl) ?_
  rintro _ rfl
  simp only
  refine Tot.bind (some_tot b hb 0 (by omega) (by omega)) ?_
  rintro ⟨n, L, q⟩ ⟨e1, e2, e3, e4, e5⟩
  simp only at e1 e2 e3 e4 e5 ⊢
  refine Tot.bind (pick_tot b hb q 16 (by omega) (by omega)) ?_
  rintro ⟨y, q1⟩ ⟨e6, _, _⟩
  simp only at e6 ⊢
  subst e6
  refine Tot.ite (fun _ => ?_) (fun _ => ?_)
  · refine Tot.bind (num_tot b hb (q + 1) _ (by omega) (by omega) (by simp)) ?_
    rintro ⟨z, q1⟩ _
    exact Tot.val ⟨e1, e2, e3, by simp⟩
  · refine Tot.bind (pick_tot b hb (q + 1) 4 (by omega) (by omega)) ?_
    rintro ⟨z, q1⟩ ⟨e6, e7, e8⟩
    simp only at e6 e7 e8 ⊢
    subst e6
    have e9 := e8 (by omega)
    have hl : Tot (fun k => spec_l11Lits.f k b (q + 1 + 1) n z) (fun r => r.1.length ≤ 1000) := by
      rcases e1 with rfl | rfl | h
      · exact (lits_none b z ⟨e7, by omega⟩ _).mono (fun r hr => hr.1)
      · refine (lits_tot b hb 701 (by omega) z ⟨e7, by omega⟩ _ (by omega) (by omega)).mono (fun r hr => by have := hr.1; omega)
      · obtain ⟨m, rfl⟩ := Int.eq_ofNat_of_zero_le h.1
        exact (lits_tot b hb m (by omega) z ⟨e7, by omega⟩ _ (by omega) (by omega)).mono (fun r hr => by have := hr.1; omega)
    refine Tot.bind hl (fun r hr => Tot.val ⟨e1, e2, e3, hr⟩)
theorem FnForced : laws_FnForced.Pure := by
  intro code _ _ hcode
  apply Ev.get
  unfold laws_FnForced.f
  by_cases hb : (code.length : Int) > 1048576
  · exact Ev.pos hb (Ev.val _)
  refine Ev.neg hb ?_
  obtain ⟨⟨n, L, g⟩, hdraw, hn, hLl, hLx, hgl⟩ := drawforced_tot code hcode
  simp only at hn hLl hLx hgl
  refine Ev.bind hdraw ?_
  simp only
  have sL : Small L := ⟨by omega, fun j hj => by have := hLx _ (rows_mem hj); omega⟩
  have sg : g.length ≤ 1048576 := by omega
  obtain ⟨bc, hc1, hc2⟩ := spec_clauses n L sL
  obtain ⟨bi, hi1, hi2⟩ := impl_clauses n L sL
  have e1 : bc = bi := by rw [Bool.eq_iff_iff, hc2, hi2]
  subst e1
  obtain ⟨bg, hg1, hg2⟩ := spec_clause n g sg
  have head : ∀ (out : List Int) (ok : Bool), out.length ≤ 1048576 → Ev (fun k => spec_Forced.f k n L g) (out, ok) → Ev (fun k => impl_Forced.f k n L g) (out, ok) →
      ∀ r, Ev (fun k => laws_FnForced.j0 k g out ok false n L) r → Ev (fun k => (impl_Forced.f k n L g).bind fun bt339 => (spec_Forced.f k n L g).bind fun bt343 => if (bt339.2 != bt343.2) = true then laws_FnForced.j0 k g bt339.1 bt339.2 true n L else ((laws_wcInts.f k bt339.1 bt343.1).bind fun t347 => if t347 = true then ((impl_ClausesValid.f k n L).bind fun t348 => (spec_ClausesValid.f k n L).bind fun t349 => laws_FnForced.j0 k g bt339.1 bt339.2 (t348 != t349) n L) else laws_FnForced.j0 k g bt339.1 bt339.2 true n L)) r := by
    intro out ok ho hs hi r hr
    refine Ev.bind hi (Ev.bind hs (Ev.neg (by simp) (Ev.bind (wc_ints out ho) (Ev.pos rfl (Ev.bind hi1 (Ev.bind hc1 ?_))))))
    rw [show (bc != bc) = false by simp]
    exact hr
  by_cases hask : AskOk n L g
  · obtain ⟨m, rfl⟩ := Int.eq_ofNat_of_zero_le hask.1.1.1
    have hm : m ≤ 700 := by have := hask.1.1.2; omega
    obtain ⟨out, ok, f1, f2, f3, f4, f5⟩ := forced_yes m L g sL sg hask
    refine head out ok (by omega) f1 f2 true (Ev.step (Ev.neg (by decide) (Ev.bind hc1 ?_)) (fun k => laws_FnForced.j0.eq_2 ..))
    obtain rfl : bc = true := hc2.mpr hask.1
    obtain rfl : bg = true := hg2.mpr hask.2
    refine Ev.pos rfl (Ev.bind hg1 (Ev.step (Ev.neg (by decide) (Ev.pos (by omega) ?_)) (fun k => laws_FnForced.j1.eq_2 ..)))
    have := law_rows g out ok m hm L sL sg hask f3 f4 f5 (shl .i64 1 (m : Int)) (shl_le62 m) (shl .i64 1 (m : Int)).toNat 0 (by omega)
    exact this
  · obtain ⟨f1, f2⟩ := forced_no n L g sL sg hask
    refine head [] false (by simp) f1 f2 true (Ev.step (Ev.neg (by decide) (Ev.bind hc1 ?_)) (fun k => laws_FnForced.j0.eq_2 ..))
    have fin : ∀ x : Bool, x = true → Ev (fun k => laws_FnForced.j1 k g ([] : List Int) false x n L) true := fun x hx => Ev.step (Ev.pos hx (Ev.neg (by decide) (Ev.valEq (by simp)))) (fun k => laws_FnForced.j1.eq_2 ..)
    cases bc with
    | false => exact Ev.neg (by decide) (fin _ rfl)
    | true =>
      have : bg = false := by
        cases bg with
        | false => rfl
        | true => exact absurd ⟨hc2.mp rfl, hg2.mp rfl⟩ hask
      subst this
      exact Ev.pos rfl (Ev.bind hg1 (fin _ rfl))

end Go.Proofs.Ytkfmgfdbdgjfiaa.Pure
