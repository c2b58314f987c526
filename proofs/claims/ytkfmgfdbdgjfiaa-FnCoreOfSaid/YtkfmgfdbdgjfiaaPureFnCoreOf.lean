/- FnCoreOf: a core is not satisfiable, and without any one of its clauses it is; for every input. -/
import Derived.Test.YtkfmgfdbdgjfiaaQFnCoreOfx12
namespace Go.Proofs.Ytkfmgfdbdgjfiaa.Pure
open Go.RowKit Go.Proofs.Ytkfmgfdbdgjfiaa.QFnCoreOf Go.Proofs.YtkfmgfdbdgjfiaaW.PrintWords Go.Proofs.YtkfmgfdbdgjfiaaW.PrintLast Go.Proofs.YtkfmgfdbdgjfiaaW.PrintMore
set_option linter.unusedVariables false
set_option linter.unusedSimpArgs false

/-! #### rounds -/
/-- From some number of rounds on, g tells r. -/
def Ev {α : Type} (g : Nat → Option α) (r : α) : Prop := ∃ K, ∀ k, K ≤ k → g k = some r
theorem Ev.val {α : Type} (r : α) : Ev (fun _ => some r) r := ⟨0, fun _ _ => rfl⟩
theorem Ev.valEq {α : Type} {r r' : α} (h : r = r') : Ev (fun _ => some r) r' := ⟨0, fun _ _ => by rw [h]⟩
theorem Ev.const {α : Type} {g : Option α} {r : α} (h : g = some r) : Ev (fun _ => g) r := ⟨0, fun _ _ => h⟩
theorem Ev.bind {α β : Type} {g : Nat → Option α} {f : Nat → α → Option β} {a : α} {b : β} (h : Ev g a) (h2 : Ev (fun k => f k a) b) : Ev (fun k => (g k).bind (f k)) b := by
  obtain ⟨K, hK⟩ := h
  obtain ⟨L, hL⟩ := h2
  exact ⟨max K L, fun k hk => by show (g k).bind (f k) = _; rw [hK k (by omega)]; exact hL k (by omega)⟩
theorem Ev.step {α : Type} {g g' : Nat → Option α} {r : α} (h : Ev g' r) (e : ∀ k, g (k + 1) = g' k) : Ev g r := by
  obtain ⟨K, hK⟩ := h
  exact ⟨K + 1, fun k hk => by
    obtain ⟨m, rfl⟩ : ∃ m, k = m + 1 := ⟨k - 1, by omega⟩
    rw [e]
    exact hK m (by omega)⟩
theorem Ev.eq {α : Type} {g g' : Nat → Option α} {r : α} (h : Ev g' r) (e : ∀ k, g k = g' k) : Ev g r := by
  obtain ⟨K, hK⟩ := h
  exact ⟨K, fun k hk => by rw [e]; exact hK k hk⟩
theorem Ev.pos {α : Type} {c : Prop} [Decidable c] {g g' : Nat → Option α} {r : α} (hc : c) (h : Ev g r) : Ev (fun k => if c then g k else g' k) r := by
  obtain ⟨K, hK⟩ := h
  exact ⟨K, fun k hk => by simp only [if_pos hc]; exact hK k hk⟩
theorem Ev.neg {α : Type} {c : Prop} [Decidable c] {g g' : Nat → Option α} {r : α} (hc : ¬ c) (h : Ev g' r) : Ev (fun k => if c then g k else g' k) r := by
  obtain ⟨K, hK⟩ := h
  exact ⟨K, fun k hk => by simp only [if_neg hc]; exact hK k hk⟩
theorem Ev.get {α : Type} {g : Nat → Option α} {r : α} (h : Ev g r) : ∃ k, g k = some r := by
  obtain ⟨K, hK⟩ := h
  exact ⟨K, hK K (Nat.le_refl _)⟩
theorem Ev.to {α : Type} {g : Nat → Option α} {r r' : α} (h : Ev g r) (e : r = r') : Ev g r' := e ▸ h
/-! #### numbers -/
theorem w_id {x : Int} (h0 : -9223372036854775808 ≤ x) (h1 : x ≤ 9223372036854775807) : wrap64 x = x := by
  unfold wrap64
  omega
/-! #### lists -/
theorem rd_nat (l : List Int) (i : Nat) : rd l (i : Int) = l.getD i 0 := by
  unfold rd
  rw [Int.toNat_natCast]
theorem getD_lt {α : Type} {l : List α} {i : Nat} (h : i < l.length) (d : α) : l.getD i d = l[i] := by
  rw [List.getD_eq_getElem?_getD, List.getElem?_eq_getElem h]
  rfl
theorem rd_lt {l : List Int} {i : Nat} (h : i < l.length) : rd l (i : Int) = l[i] := by rw [rd_nat, getD_lt h]
theorem rd_set_eq {l : List Int} {i : Nat} {v : Int} (h : i < l.length) : rd (l.set i v) (i : Int) = v := by
  rw [rd_lt (by simpa using h)]
  simp
theorem rd_set_ne {l : List Int} {i j : Nat} {v : Int} (h : i ≠ j) : rd (l.set i v) (j : Int) = rd l (j : Int) := by
  rw [rd_nat, rd_nat, List.getD_eq_getElem?_getD, List.getD_eq_getElem?_getD, List.getElem?_set_ne h]
theorem rd_app_lt {l m : List Int} {j : Nat} (h : j < l.length) : rd (l ++ m) (j : Int) = rd l (j : Int) := by
  rw [rd_nat, rd_nat, List.getD_eq_getElem?_getD, List.getD_eq_getElem?_getD, List.getElem?_append_left h]
theorem rd_app_eq {l : List Int} {v : Int} : rd (l ++ [v]) (l.length : Int) = v := by
  rw [rd_nat, List.getD_eq_getElem?_getD, List.getElem?_append_right (Nat.le_refl _)]
  simp
theorem list_eq_rd {l m : List Int} (hl : l.length = m.length) (h : ∀ j : Nat, j < l.length → rd l (j : Int) = rd m (j : Int)) : l = m := by
  apply List.ext_getElem hl
  intro i h1 h2
  rw [← rd_lt h1, ← rd_lt h2]
  exact h i h1
theorem wsucc (i : Nat) (h : i ≤ 4611686018427387904) : wrap64 ((i : Int) + 1) = ((i + 1 : Nat) : Int) := by
  unfold wrap64
  omega
/-- g tells in the end whether p is so. -/
def Dec (g : Nat → Option Bool) (p : Prop) : Prop := ∃ b, Ev g b ∧ (b = true ↔ p)
theorem Dec.yes {g : Nat → Option Bool} {p : Prop} (h : Ev g true) (hp : p) : Dec g p := ⟨true, h, by simp [hp]⟩
theorem Dec.no {g : Nat → Option Bool} {p : Prop} (h : Ev g false) (hp : ¬ p) : Dec g p := ⟨false, h, by simp [hp]⟩
theorem Dec.iff {g : Nat → Option Bool} {p q : Prop} (h : Dec g p) (e : p ↔ q) : Dec g q := by
  obtain ⟨b, h1, h2⟩ := h
  exact ⟨b, h1, h2.trans e⟩
theorem all_from {P : Nat → Prop} {i n : Nat} (hi : i < n) : (∀ j, i ≤ j → j < n → P j) ↔ P i ∧ ∀ j, i + 1 ≤ j → j < n → P j := by
  constructor
  · intro h
    exact ⟨h i (Nat.le_refl _) hi, fun j h1 h2 => h j (by omega) h2⟩
  · rintro ⟨h1, h2⟩ j h3 h4
    rcases Nat.lt_or_eq_of_le h3 with h | rfl
    · exact h2 j h h4
    · exact h1
theorem all_none {P : Nat → Prop} {i n : Nat} (hi : n ≤ i) : ∀ j, i ≤ j → j < n → P j := fun j h1 h2 => by omega
/-! #### it tells something, of which P holds -/
def Tot {α : Type} (g : Nat → Option α) (P : α → Prop) : Prop := ∃ r, Ev g r ∧ P r
theorem Tot.of {α : Type} {g : Nat → Option α} {P : α → Prop} {r : α} (h : Ev g r) (hp : P r) : Tot g P := ⟨r, h, hp⟩
theorem Tot.val {α : Type} {P : α → Prop} {r : α} (h : P r) : Tot (fun _ => some r) P := ⟨r, Ev.val r, h⟩
theorem Tot.mono {α : Type} {g : Nat → Option α} {P Q : α → Prop} (h : Tot g P) (hq : ∀ r, P r → Q r) : Tot g Q := by
  obtain ⟨r, h1, h2⟩ := h
  exact ⟨r, h1, hq r h2⟩
theorem Tot.step {α : Type} {g g' : Nat → Option α} {P : α → Prop} (h : Tot g' P) (e : ∀ k, g (k + 1) = g' k) : Tot g P := by
  obtain ⟨r, h1, h2⟩ := h
  exact ⟨r, Ev.step h1 e, h2⟩
theorem Tot.bind {α β : Type} {g : Nat → Option α} {f : Nat → α → Option β} {Q : α → Prop} {P : β → Prop} (h : Tot g Q) (h2 : ∀ a, Q a → Tot (fun k => f k a) P) : Tot (fun k => (g k).bind (f k)) P := by
  obtain ⟨a, ha, hq⟩ := h
  obtain ⟨r, h1, h3⟩ := h2 a hq
  exact ⟨r, Ev.bind ha h1, h3⟩
theorem Tot.pos {α : Type} {c : Prop} [Decidable c] {g g' : Nat → Option α} {P : α → Prop} (hc : c) (h : Tot g P) : Tot (fun k => if c then g k else g' k) P := by
  obtain ⟨r, h1, h2⟩ := h
  exact ⟨r, Ev.pos hc h1, h2⟩
theorem Tot.neg {α : Type} {c : Prop} [Decidable c] {g g' : Nat → Option α} {P : α → Prop} (hc : ¬ c) (h : Tot g' P) : Tot (fun k => if c then g k else g' k) P := by
  obtain ⟨r, h1, h2⟩ := h
  exact ⟨r, Ev.neg hc h1, h2⟩
theorem Tot.ite {α : Type} {c : Prop} [Decidable c] {g g' : Nat → Option α} {P : α → Prop} (h1 : c → Tot g P) (h2 : ¬ c → Tot g' P) : Tot (fun k => if c then g k else g' k) P := by
  by_cases hc : c
  · exact Tot.pos hc (h1 hc)
  · exact Tot.neg hc (h2 hc)
theorem rows_nat (l : List (List Int)) (i : Nat) : rd_L1 l (i : Int) = l.getD i [] := by
  unfold rd_L1
  rw [Int.toNat_natCast]
theorem rows_lt {l : List (List Int)} {i : Nat} (h : i < l.length) : rd_L1 l (i : Int) = l[i] := by rw [rows_nat, getD_lt h]
theorem rows_mem {l : List (List Int)} {i : Nat} (h : i < l.length) : rd_L1 l (i : Int) ∈ l := by
  rw [rows_lt h]
  exact List.getElem_mem h
/-! #### clauses -/
theorem wneg {x : Int} (h0 : -9223372036854775807 ≤ x) (h1 : x ≤ 9223372036854775807) : wrap64 (-x) = -x := w_id (by omega) (by omega)
/-- The atom of a literal. -/
def AbsI (x : Int) : Int := if x < 0 then -x else x
theorem absI_pos (x : Int) : 0 ≤ AbsI x := by unfold AbsI; split <;> omega
theorem spec_abs {x : Int} (h0 : -9223372036854775807 ≤ x) (h1 : x ≤ 9223372036854775807) : Ev (fun _ => spec_l11Abs.f x) (AbsI x) := by
  unfold spec_l11Abs.f AbsI
  by_cases h : x < 0
  · exact Ev.pos h (Ev.valEq (by rw [wneg h0 h1, if_pos h]))
  · exact Ev.neg h (Ev.valEq (by rw [if_neg h]))
theorem impl_abs {x : Int} (h0 : -9223372036854775807 ≤ x) (h1 : x ≤ 9223372036854775807) : Ev (fun _ => impl_atomOf.f x) (AbsI x) := by
  unfold impl_atomOf.f
  rw [wneg h0 h1]
  refine Ev.valEq ?_
  unfold mx AbsI
  split <;> split <;> omega
theorem in_dec {x a b : Int} : Ev (fun _ => impl_in.f x a b) (decide (a ≤ x ∧ x ≤ b)) := by
  unfold impl_in.f
  by_cases h : x ≥ a
  · refine Ev.pos h (Ev.valEq ?_)
    simp only [decide_eq_decide]
    omega
  · refine Ev.neg h (Ev.valEq ?_)
    symm
    rw [decide_eq_false_iff_not]
    omega
theorem sin_dec {x a b : Int} : Ev (fun _ => spec_l1In.f x a b) (decide (a ≤ x ∧ x ≤ b)) := by
  unfold spec_l1In.f
  by_cases h : x ≥ a
  · refine Ev.pos h (Ev.valEq ?_)
    simp only [decide_eq_decide]
    omega
  · refine Ev.neg h (Ev.valEq ?_)
    symm
    rw [decide_eq_false_iff_not]
    omega
/-- A literal of n atoms. -/
def LitOk (n x : Int) : Prop := x ≠ 0 ∧ -n ≤ x ∧ x ≤ n
instance (n x : Int) : Decidable (LitOk n x) := by unfold LitOk; infer_instance
theorem spec_lit {n x : Int} (hn : -9223372036854775807 ≤ n) (hn2 : n ≤ 9223372036854775807) : Ev (fun _ => spec_l11Lit.f x n) (decide (LitOk n x)) := by
  unfold spec_l11Lit.f
  by_cases h : x = 0
  · exact Ev.pos h (Ev.valEq (by symm; rw [decide_eq_false_iff_not]; exact fun h1 => h1.1 h))
  · rw [wneg hn hn2]
    refine Ev.neg h (Ev.bind sin_dec (Ev.valEq ?_))
    simp only [decide_eq_decide]
    unfold LitOk
    omega
/-- Place j of a clause of n atoms. -/
def PlaceOk (n : Int) (c : List Int) (j : Nat) : Prop := LitOk n (rd c (j : Int)) ∧ (0 < j → AbsI (rd c ((j - 1 : Nat) : Int)) < AbsI (rd c (j : Int)))
def ClauseOk (n : Int) (c : List Int) : Prop := (0 ≤ n ∧ n ≤ 700) ∧ ∀ j : Nat, j < c.length → PlaceOk n c j
theorem spec_clause_loop (n : Int) (hn : 0 ≤ n ∧ n ≤ 700) (c : List Int) (hc : c.length ≤ 1048576) : ∀ (d i : Nat), i + d = c.length → (∀ j : Nat, j < i → PlaceOk n c j) →
    Dec (fun k => spec_ClauseValid.l0 k c n (i : Int)) (∀ j : Nat, i ≤ j → j < c.length → PlaceOk n c j) := by
  intro d
  induction d with
  | zero =>
    intro i hi hp
    refine Dec.yes (Ev.step (Ev.neg (by omega) (Ev.bind sin_dec (Ev.valEq ?_))) (fun k => spec_ClauseValid.l0.eq_2 ..)) (all_none (by omega))
    simp [hn]
  | succ d ih =>
    intro i hi hp
    have hwi := wsucc i (by omega)
    have hlt : i < c.length := by omega
    by_cases h : LitOk n (rd c (i : Int))
    · by_cases h0 : 0 < i
      · have hw : wrap64 ((i : Int) - 1) = ((i - 1 : Nat) : Int) := by rw [w_id (by omega) (by omega)]; omega
        have hq := (hp (i - 1) (by omega)).1
        by_cases h2 : AbsI (rd c (i : Int)) ≤ AbsI (rd c ((i - 1 : Nat) : Int))
        · refine Dec.no (Ev.step ?_ (fun k => spec_ClauseValid.l0.eq_2 ..)) (fun h3 => ?_)
          · rw [hwi, hw]
            refine Ev.pos (by omega) (Ev.pos (by omega) (Ev.bind (spec_lit (by omega) (by omega)) (Ev.pos (by simpa using h) (Ev.pos (by omega) (Ev.bind (spec_abs (by have := h.2; omega) (by have := h.2; omega)) (Ev.pos (by omega) (Ev.pos (by omega) (Ev.bind (spec_abs (by have := hq.2; omega) (by have := hq.2; omega)) (Ev.pos h2 (Ev.val _))))))))))
          · have := (h3 i (Nat.le_refl _) hlt).2 h0
            omega
        · obtain ⟨b, hb, hbi⟩ := ih (i + 1) (by omega) (fun j hj => by
            rcases Nat.lt_succ_iff_lt_or_eq.mp hj with h5 | rfl
            · exact hp j h5
            · exact ⟨h, fun _ => by omega⟩)
          refine ⟨b, Ev.step ?_ (fun k => spec_ClauseValid.l0.eq_2 ..), ?_⟩
          · rw [hwi, hw]
            refine Ev.pos (by omega) (Ev.pos (by omega) (Ev.bind (spec_lit (by omega) (by omega)) (Ev.pos (by simpa using h) (Ev.pos (by omega) (Ev.bind (spec_abs (by have := h.2; omega) (by have := h.2; omega)) (Ev.pos (by omega) (Ev.pos (by omega) (Ev.bind (spec_abs (by have := hq.2; omega) (by have := hq.2; omega)) (Ev.neg h2 hb)))))))))
          · rw [hbi, all_from (P := PlaceOk n c) hlt]
            exact ⟨fun h3 => ⟨⟨h, fun _ => by omega⟩, h3⟩, fun h3 => h3.2⟩
      · obtain ⟨b, hb, hbi⟩ := ih (i + 1) (by omega) (fun j hj => by
          rcases Nat.lt_succ_iff_lt_or_eq.mp hj with h5 | rfl
          · exact hp j h5
          · exact ⟨h, fun h6 => absurd h6 h0⟩)
        refine ⟨b, Ev.step ?_ (fun k => spec_ClauseValid.l0.eq_2 ..), ?_⟩
        · rw [hwi]
          exact Ev.pos (by omega) (Ev.pos (by omega) (Ev.bind (spec_lit (by omega) (by omega)) (Ev.pos (by simpa using h) (Ev.neg (by omega) hb))))
        · rw [hbi, all_from (P := PlaceOk n c) hlt]
          exact ⟨fun h3 => ⟨⟨h, fun h6 => absurd h6 h0⟩, h3⟩, fun h3 => h3.2⟩
    · refine Dec.no (Ev.step (Ev.pos (by omega) (Ev.pos (by omega) (Ev.bind (spec_lit (by omega) (by omega)) (Ev.neg (by simpa using h) (Ev.val _))))) (fun k => spec_ClauseValid.l0.eq_2 ..)) (fun h3 => h (h3 i (Nat.le_refl _) hlt).1)
theorem impl_clause_loop (n : Int) (hn : 0 ≤ n ∧ n ≤ 700) (c : List Int) (hc : c.length ≤ 1048576) : ∀ (d i : Nat), i + d = c.length → (∀ j : Nat, j < i → PlaceOk n c j) →
    Dec (fun k => impl_ClauseValid.l0 k c n c (c.length : Int) (i : Int)) (∀ j : Nat, i ≤ j → j < c.length → PlaceOk n c j) := by
  intro d
  have hwn := wneg (x := n) (by omega) (by omega)
  induction d with
  | zero =>
    intro i hi hp
    exact Dec.yes (Ev.step (Ev.neg (by omega) (Ev.val _)) (fun k => impl_ClauseValid.l0.eq_2 ..)) (all_none (by omega))
  | succ d ih =>
    intro i hi hp
    have hwi := wsucc i (by omega)
    have hlt : i < c.length := by omega
    by_cases hr : -n ≤ rd c (i : Int) ∧ rd c (i : Int) ≤ n
    · by_cases hz : rd c (i : Int) = 0
      · refine Dec.no (Ev.step ?_ (fun k => impl_ClauseValid.l0.eq_2 ..)) (fun h3 => (h3 i (Nat.le_refl _) hlt).1.1 hz)
        rw [hwn]
        exact Ev.pos (by omega) (Ev.pos (by omega) (Ev.pos (by omega) (Ev.bind in_dec (Ev.pos (by simpa using hr) (Ev.pos hz (Ev.val _))))))
      · have h : LitOk n (rd c (i : Int)) := ⟨hz, hr⟩
        by_cases h0 : 0 < i
        · have hw : wrap64 ((i : Int) - 1) = ((i - 1 : Nat) : Int) := by rw [w_id (by omega) (by omega)]; omega
          have hq := (hp (i - 1) (by omega)).1
          by_cases h2 : AbsI (rd c ((i - 1 : Nat) : Int)) ≥ AbsI (rd c (i : Int))
          · refine Dec.no (Ev.step ?_ (fun k => impl_ClauseValid.l0.eq_2 ..)) (fun h3 => ?_)
            · rw [hwi, hw, hwn]
              exact Ev.pos (by omega) (Ev.pos (by omega) (Ev.pos (by omega) (Ev.bind in_dec (Ev.pos (by simpa using hr) (Ev.neg hz (Ev.pos (by omega) (Ev.pos (by omega) (Ev.pos (by omega) (Ev.bind (impl_abs (by have := hq.2; omega) (by have := hq.2; omega)) (Ev.bind (impl_abs (by have := h.2; omega) (by have := h.2; omega)) (Ev.pos h2 (Ev.val _))))))))))))
            · have := (h3 i (Nat.le_refl _) hlt).2 h0
              omega
          · obtain ⟨b, hb, hbi⟩ := ih (i + 1) (by omega) (fun j hj => by
              rcases Nat.lt_succ_iff_lt_or_eq.mp hj with h5 | rfl
              · exact hp j h5
              · exact ⟨h, fun _ => by omega⟩)
            refine ⟨b, Ev.step ?_ (fun k => impl_ClauseValid.l0.eq_2 ..), ?_⟩
            · rw [hwi, hw, hwn]
              exact Ev.pos (by omega) (Ev.pos (by omega) (Ev.pos (by omega) (Ev.bind in_dec (Ev.pos (by simpa using hr) (Ev.neg hz (Ev.pos (by omega) (Ev.pos (by omega) (Ev.pos (by omega) (Ev.bind (impl_abs (by have := hq.2; omega) (by have := hq.2; omega)) (Ev.bind (impl_abs (by have := h.2; omega) (by have := h.2; omega)) (Ev.neg h2 hb)))))))))))
            · rw [hbi, all_from (P := PlaceOk n c) hlt]
              exact ⟨fun h3 => ⟨⟨h, fun _ => by omega⟩, h3⟩, fun h3 => h3.2⟩
        · obtain ⟨b, hb, hbi⟩ := ih (i + 1) (by omega) (fun j hj => by
            rcases Nat.lt_succ_iff_lt_or_eq.mp hj with h5 | rfl
            · exact hp j h5
            · exact ⟨h, fun h6 => absurd h6 h0⟩)
          refine ⟨b, Ev.step ?_ (fun k => impl_ClauseValid.l0.eq_2 ..), ?_⟩
          · rw [hwi, hwn]
            exact Ev.pos (by omega) (Ev.pos (by omega) (Ev.pos (by omega) (Ev.bind in_dec (Ev.pos (by simpa using hr) (Ev.neg hz (Ev.neg (by omega) hb))))))
          · rw [hbi, all_from (P := PlaceOk n c) hlt]
            exact ⟨fun h3 => ⟨⟨h, fun h6 => absurd h6 h0⟩, h3⟩, fun h3 => h3.2⟩
    · refine Dec.no (Ev.step ?_ (fun k => impl_ClauseValid.l0.eq_2 ..)) (fun h3 => hr (h3 i (Nat.le_refl _) hlt).1.2)
      rw [hwn]
      exact Ev.pos (by omega) (Ev.pos (by omega) (Ev.pos (by omega) (Ev.bind in_dec (Ev.neg (by simpa using hr) (Ev.val _)))))
/-- Of any number of atoms, the reference tells something. -/
theorem spec_clause_any_loop (n : Int) (hn : ¬ (0 ≤ n ∧ n ≤ 700)) (c : List Int) (hc : c.length ≤ 1048576) : ∀ (d i : Nat), i + d = c.length → Ev (fun k => spec_ClauseValid.l0 k c n (i : Int)) false := by
  intro d
  induction d with
  | zero =>
    intro i hi
    refine Ev.step (Ev.neg (by omega) (Ev.bind sin_dec (Ev.valEq ?_))) (fun k => spec_ClauseValid.l0.eq_2 ..)
    simpa using hn
  | succ d ih =>
    intro i hi
    have hwi := wsucc i (by omega)
    have hlit : ∃ b, Ev (fun _ => spec_l11Lit.f (rd c (i : Int)) n) b := by
      unfold spec_l11Lit.f
      by_cases h : rd c (i : Int) = 0
      · exact ⟨_, Ev.pos h (Ev.val _)⟩
      · exact ⟨_, Ev.neg h (Ev.bind sin_dec (Ev.val _))⟩
    have habs : ∀ x : Int, ∃ b, Ev (fun _ => spec_l11Abs.f x) b := by
      intro x
      unfold spec_l11Abs.f
      by_cases h : x < 0
      · exact ⟨_, Ev.pos h (Ev.val _)⟩
      · exact ⟨_, Ev.neg h (Ev.val _)⟩
    obtain ⟨b, hb⟩ := hlit
    refine Ev.step ?_ (fun k => spec_ClauseValid.l0.eq_2 ..)
    rw [hwi]
    refine Ev.pos (by omega) (Ev.pos (by omega) (Ev.bind hb ?_))
    cases b with
    | false => exact Ev.neg (by decide) (Ev.val _)
    | true =>
      refine Ev.pos rfl ?_
      by_cases h0 : (i : Int) > 0
      · have hw : wrap64 ((i : Int) - 1) = ((i - 1 : Nat) : Int) := by rw [w_id (by omega) (by omega)]; omega
        rw [hw]
        obtain ⟨p, hp⟩ := habs (rd c (i : Int))
        obtain ⟨q, hq⟩ := habs (rd c ((i - 1 : Nat) : Int))
        refine Ev.pos h0 (Ev.bind hp (Ev.pos (by omega) (Ev.pos (by omega) (Ev.bind hq ?_))))
        by_cases h2 : p ≤ q
        · exact Ev.pos h2 (Ev.val _)
        · exact Ev.neg h2 (ih (i + 1) (by omega))
      · exact Ev.neg h0 (ih (i + 1) (by omega))
theorem spec_clause (n : Int) (c : List Int) (hc : c.length ≤ 1048576) : Dec (fun k => spec_ClauseValid.f k c n) (ClauseOk n c) := by
  unfold spec_ClauseValid.f
  by_cases hn : 0 ≤ n ∧ n ≤ 700
  · exact (spec_clause_loop n hn c hc c.length 0 (by omega) (fun j hj => by omega)).iff ⟨fun h => ⟨hn, fun j hj => h j (by omega) hj⟩, fun h j _ hj => h.2 j hj⟩
  · exact Dec.no (spec_clause_any_loop n hn c hc c.length 0 (by omega)) (fun h => hn h.1)
theorem impl_clause (n : Int) (c : List Int) (hc : c.length ≤ 1048576) : Dec (fun k => impl_ClauseValid.f k c n) (ClauseOk n c) := by
  unfold impl_ClauseValid.f
  by_cases hn : 0 ≤ n ∧ n ≤ 700
  · obtain ⟨b, h1, h2⟩ := impl_clause_loop n hn c hc c.length 0 (by omega) (fun j hj => by omega)
    exact ⟨b, Ev.bind in_dec (Ev.pos (by simpa using hn) h1), h2.trans ⟨fun h => ⟨hn, fun j hj => h j (by omega) hj⟩, fun h j _ hj => h.2 j hj⟩⟩
  · exact Dec.no (Ev.bind in_dec (Ev.neg (by simpa using hn) (Ev.val _))) (fun h => hn h.1)
/-- Clauses of n atoms. -/
def ClausesOk (n : Int) (l : List (List Int)) : Prop := (0 ≤ n ∧ n ≤ 700) ∧ l.length ≤ 2500 ∧ ∀ j : Nat, j < l.length → ClauseOk n (rd_L1 l (j : Int))
def Small (l : List (List Int)) : Prop := l.length ≤ 1048576 ∧ ∀ j : Nat, j < l.length → (rd_L1 l (j : Int)).length ≤ 1048576
theorem spec_clauses_loop (n : Int) (l : List (List Int)) (hl : Small l) : ∀ (d i : Nat), i + d = l.length →
    Dec (fun k => spec_ClausesValid.l0 k (i : Int) n l) (∀ j : Nat, i ≤ j → j < l.length → ClauseOk n (rd_L1 l (j : Int))) := by
  intro d
  have h1 := hl.1
  induction d with
  | zero =>
    intro i hi
    exact Dec.yes (Ev.step (Ev.neg (by omega) (Ev.val _)) (fun k => spec_ClausesValid.l0.eq_2 ..)) (all_none (by omega))
  | succ d ih =>
    intro i hi
    have hwi := wsucc i (by omega)
    have hlt : i < l.length := by omega
    obtain ⟨b, hb, hbi⟩ := spec_clause n (rd_L1 l (i : Int)) (hl.2 i hlt)
    cases b with
    | false => exact Dec.no (Ev.step (Ev.pos (by omega) (Ev.pos (by omega) (Ev.bind hb (Ev.neg (by decide) (Ev.val _))))) (fun k => spec_ClausesValid.l0.eq_2 ..)) (fun h => by simpa using hbi.mpr (h i (Nat.le_refl _) hlt))
    | true =>
      obtain ⟨b2, hb2, hbi2⟩ := ih (i + 1) (by omega)
      refine ⟨b2, Ev.step ?_ (fun k => spec_ClausesValid.l0.eq_2 ..), ?_⟩
      · rw [hwi]
        exact Ev.pos (by omega) (Ev.pos (by omega) (Ev.bind hb (Ev.pos rfl hb2)))
      · rw [hbi2, all_from (P := fun j => ClauseOk n (rd_L1 l (j : Int))) hlt]
        exact ⟨fun h => ⟨hbi.mp rfl, h⟩, fun h => h.2⟩
theorem spec_clauses (n : Int) (l : List (List Int)) (hl : Small l) : Dec (fun k => spec_ClausesValid.f k n l) (ClausesOk n l) := by
  unfold spec_ClausesValid.f
  by_cases hn : 0 ≤ n ∧ n ≤ 700
  · by_cases h2 : (l.length : Int) > 2500
    · refine Dec.no (Ev.bind sin_dec (Ev.pos (by simpa using hn) (Ev.step (Ev.pos (by simpa using h2) (Ev.val _)) (fun k => spec_ClausesValid.j0.eq_2 ..)))) (fun h => by have := h.2.1; omega)
    · obtain ⟨b, hb, hbi⟩ := spec_clauses_loop n l hl l.length 0 (by omega)
      exact ⟨b, Ev.bind sin_dec (Ev.pos (by simpa using hn) (Ev.step (Ev.neg (by simpa using h2) hb) (fun k => spec_ClausesValid.j0.eq_2 ..))), hbi.trans ⟨fun h => ⟨hn, by omega, fun j hj => h j (by omega) hj⟩, fun h j _ hj => h.2.2 j hj⟩⟩
  · exact Dec.no (Ev.bind sin_dec (Ev.neg (by simpa using hn) (Ev.step (Ev.pos rfl (Ev.val _)) (fun k => spec_ClausesValid.j0.eq_2 ..)))) (fun h => hn h.1)
theorem idx_tot (p : Nat → Int → Option Bool) (P : Nat → Prop) (m : Nat) (hp : ∀ j : Nat, j < m → Dec (fun k => p k (j : Int)) (P j)) : ∀ (d i : Nat), i + d = m →
    Tot (fun k => Copy.idxO (p k) d (i : Int)) (fun r => 0 ≤ r ↔ ∃ j : Nat, i ≤ j ∧ j < m ∧ P j) := by
  intro d
  induction d with
  | zero =>
    intro i hi
    exact Tot.val ⟨fun h => by omega, fun ⟨j, h1, h2, _⟩ => by omega⟩
  | succ d ih =>
    intro i hi
    obtain ⟨b, hb, hbi⟩ := hp i (by omega)
    cases b with
    | true => exact ⟨(i : Int), Ev.bind hb (Ev.pos rfl (Ev.val _)), fun _ => ⟨i, Nat.le_refl _, by omega, hbi.mp rfl⟩, fun _ => by omega⟩
    | false =>
      obtain ⟨r, hr, hri⟩ := ih (i + 1) (by omega)
      refine ⟨r, Ev.bind hb (Ev.neg (by decide) ?_), hri.trans ?_⟩
      · have e : ((i + 1 : Nat) : Int) = (i : Int) + 1 := by omega
        rw [← e]
        exact hr
      · constructor
        · rintro ⟨j, h1, h2, h3⟩
          exact ⟨j, by omega, h2, h3⟩
        · rintro ⟨j, h1, h2, h3⟩
          rcases Nat.lt_or_eq_of_le h1 with h4 | rfl
          · exact ⟨j, h4, h2, h3⟩
          · exact absurd (hbi.mpr h3) (by decide)
theorem impl_clauses (n : Int) (l : List (List Int)) (hl : Small l) : Dec (fun k => impl_ClausesValid.f k n l) (ClausesOk n l) := by
  unfold impl_ClausesValid.f
  by_cases hn : 0 ≤ n ∧ n ≤ 700
  · by_cases h2 : (l.length : Int) ≤ 2500
    · obtain ⟨r, hr, hri⟩ := idx_tot (fun k i => impl_ClausesValid.p k n l i) (fun j => ¬ ClauseOk n (rd_L1 l (j : Int))) l.length (fun j hj => by
        unfold impl_ClausesValid.p
        obtain ⟨b, hb, hbi⟩ := impl_clause n (rd_L1 l (j : Int)) (hl.2 j hj)
        exact ⟨!b, Ev.bind hb (Ev.val _), by rw [← hbi]; cases b <;> simp⟩) l.length 0 (by omega)
      refine ⟨!(decide (0 ≤ r)), Ev.bind in_dec (Ev.pos (by simpa using hn) (Ev.pos h2 (Ev.bind hr (Ev.val _)))), ?_⟩
      rw [Bool.not_eq_true', decide_eq_false_iff_not, hri]
      constructor
      · intro h
        refine ⟨hn, by omega, fun j hj => Classical.byContradiction fun h3 => h ⟨j, by omega, hj, h3⟩⟩
      · rintro h ⟨j, _, hj, h3⟩
        exact h3 (h.2.2 j hj)
    · exact Dec.no (Ev.bind in_dec (Ev.pos (by simpa using hn) (Ev.neg h2 (Ev.val _)))) (fun h => by have := h.2.1; omega)
  · exact Dec.no (Ev.bind in_dec (Ev.neg (by simpa using hn) (Ev.val _))) (fun h => hn h.1)
/-! #### what clauses force: the reference's signs are literals, the program's are 1 and -1 -/
theorem absN (x : Int) : AbsI x = ((x.natAbs : Nat) : Int) := by unfold AbsI; split <;> omega
def LitsOk (n : Nat) (c : List Int) : Prop := c.length ≤ 1048576 ∧ ∀ j : Nat, j < c.length → LitOk (n : Int) (rd c (j : Int))
theorem zeros_set {v : List Int} {a : Nat} {x : Int} (ha : a < v.length) (h0 : rd v (a : Int) = 0) (hx : x ≠ 0) : (v.set a x).count 0 < v.count 0 := by
  have hv : v[a] = 0 := by rw [← rd_lt ha]; exact h0
  have hm : 0 < v.count 0 := List.count_pos_iff.mpr (by rw [← hv]; exact List.getElem_mem ha)
  rw [List.count_set ha]
  simp [hv, hx]
  omega
def AllLits (n : Nat) (l : List (List Int)) : Prop := l.length ≤ 1048576 ∧ ∀ j : Nat, j < l.length → LitsOk n (rd_L1 l (j : Int))
theorem clause_lits {n : Nat} {c : List Int} (h : ClauseOk (n : Int) c) (hc : c.length ≤ 1048576) : LitsOk n c := ⟨hc, fun j hj => (h.2 j hj).1⟩
theorem rd_zeros (n : Nat) (a : Nat) (ha : a < n) : rd (List.replicate n 0) (a : Int) = 0 := by
  rw [rd_lt (by simpa using ha)]
  simp
/-! #### what unit propagation tells of the truth of clauses (the reference's marks) -/
/-- The marks of n atoms. -/
def VOk (n : Nat) (v : List Int) : Prop := v.length = n + 1 ∧ ∀ a : Nat, a ≤ n → rd v (a : Int) = 0 ∨ (0 < a ∧ (rd v (a : Int) = a ∨ rd v (a : Int) = -(a : Int)))
/-- A literal is true by an assignment. -/
def LT (T : Nat → Bool) (x : Int) : Prop := if 0 < x then T x.natAbs = true else T x.natAbs = false
instance (T : Nat → Bool) (x : Int) : Decidable (LT T x) := by unfold LT; infer_instance
def ClT (T : Nat → Bool) (c : List Int) : Prop := ∃ j : Nat, j < c.length ∧ LT T (rd c (j : Int))
def AllT (T : Nat → Bool) (l : List (List Int)) : Prop := ∀ j : Nat, j < l.length → ClT T (rd_L1 l (j : Int))
def Cons (n : Nat) (T : Nat → Bool) (v : List Int) : Prop := ∀ a : Nat, a ≤ n → rd v (a : Int) ≠ 0 → LT T (rd v (a : Int))
theorem lt_neg {T : Nat → Bool} {x : Int} (h0 : x ≠ 0) : LT T (-x) ↔ ¬ LT T x := by
  unfold LT
  rw [Int.natAbs_neg]
  by_cases h : 0 < x
  · rw [if_pos h, if_neg (by omega)]
    simp
  · rw [if_neg h, if_pos (by omega)]
    simp
theorem vok_set {n : Nat} {v : List Int} (h : VOk n v) {x : Int} (hx : LitOk (n : Int) x) : VOk n (v.set x.natAbs x) := by
  obtain ⟨h1, h2⟩ := h
  obtain ⟨hx0, hx1, hx2⟩ := hx
  refine ⟨by simpa using h1, fun a ha => ?_⟩
  by_cases e : a = x.natAbs
  · subst e
    rw [rd_set_eq (by omega)]
    exact Or.inr ⟨by omega, by omega⟩
  · rw [rd_set_ne (fun h => e h.symm)]
    exact h2 a ha
/-- What a scan of a clause has found in the first i places: none is true, m are open, the last of these. -/
structure Scanned (n : Nat) (v c : List Int) (i m : Nat) (last : Int) : Prop where
  no : ∀ j : Nat, j < i → rd v (AbsI (rd c (j : Int))) ≠ rd c (j : Int)
  lit : 1 ≤ m → LitOk (n : Int) last ∧ rd v (AbsI last) = 0 ∧ ∃ j : Nat, j < i ∧ rd c (j : Int) = last
  none : m = 0 → ∀ j : Nat, j < i → rd v (AbsI (rd c (j : Int))) = -(rd c (j : Int))
  one : m = 1 → ∀ j : Nat, j < i → rd c (j : Int) = last ∨ rd v (AbsI (rd c (j : Int))) = -(rd c (j : Int))
theorem scan_sem (n : Nat) (hn : n ≤ 700) (v : List Int) (hv : VOk n v) (c : List Int) (hc : LitsOk n c) : ∀ (d i m : Nat) (last : Int), i + d = c.length → m ≤ i → Scanned n v c i m last →
    (Ev (fun k => spec_l11Left.l0 k c v (m : Int) last (i : Int)) ((-1 : Int), (0 : Int)) ∧ ∃ j : Nat, j < c.length ∧ rd v (AbsI (rd c (j : Int))) = rd c (j : Int)) ∨
    ∃ (m' : Nat) (last' : Int), m' ≤ c.length ∧ Ev (fun k => spec_l11Left.l0 k c v (m : Int) last (i : Int)) ((m' : Int), last') ∧ Scanned n v c c.length m' last' := by
  have hcl := hc.1
  obtain ⟨hvl, hat⟩ := hv
  intro d
  induction d with
  | zero =>
    intro i m last hi hm hs
    have : i = c.length := by omega
    subst this
    exact Or.inr ⟨m, last, hm, Ev.step (Ev.neg (by omega) (Ev.val _)) (fun k => spec_l11Left.l0.eq_2 ..), hs⟩
  | succ d ih =>
    intro i m last hi hm hs
    have hwi := wsucc i (by omega)
    have hwm := wsucc m (by omega)
    have hlt : i < c.length := by omega
    obtain ⟨hx0, hx1, hx2⟩ := hc.2 i hlt
    have ha := hat (rd c (i : Int)).natAbs (by omega)
    rw [← absN] at ha
    have hpos := absI_pos (rd c (i : Int))
    have hax : AbsI (rd c (i : Int)) = rd c (i : Int) ∨ AbsI (rd c (i : Int)) = -(rd c (i : Int)) := by unfold AbsI; split <;> omega
    have hlen : AbsI (rd c (i : Int)) < (v.length : Int) := by rw [absN]; omega
    have specE : ∀ q, Ev (fun k => if rd v (AbsI (rd c (i : Int))) = rd c (i : Int) then some ((-1 : Int), (0 : Int)) else if rd v (AbsI (rd c (i : Int))) = 0 then spec_l11Left.l0 k c v ((m + 1 : Nat) : Int) (rd c (i : Int)) ((i + 1 : Nat) : Int) else spec_l11Left.l0 k c v (m : Int) last ((i + 1 : Nat) : Int)) q → Ev (fun k => spec_l11Left.l0 k c v (m : Int) last (i : Int)) q := by
      intro q hq
      refine Ev.step ?_ (fun k => spec_l11Left.l0.eq_2 ..)
      rw [hwi, hwm]
      exact Ev.pos (by omega) (Ev.pos (by omega) (Ev.bind (spec_abs (by omega) (by omega)) (Ev.pos hpos (Ev.pos hlen hq))))
    by_cases he : rd v (AbsI (rd c (i : Int))) = rd c (i : Int)
    · exact Or.inl ⟨specE _ (Ev.pos he (Ev.val _)), i, hlt, he⟩
    · by_cases hz : rd v (AbsI (rd c (i : Int))) = 0
      · have hs' : Scanned n v c (i + 1) (m + 1) (rd c (i : Int)) := by
          refine ⟨fun j hj => ?_, fun _ => ⟨⟨hx0, hx1, hx2⟩, hz, i, by omega, rfl⟩, fun h => by omega, fun h j hj => ?_⟩
          · rcases Nat.lt_succ_iff_lt_or_eq.mp hj with h | rfl
            · exact hs.no j h
            · exact he
          · rcases Nat.lt_succ_iff_lt_or_eq.mp hj with h2 | rfl
            · exact Or.inr (hs.none (by omega) j h2)
            · exact Or.inl rfl
        rcases ih (i + 1) (m + 1) (rd c (i : Int)) (by omega) (by omega) hs' with ⟨h1, h2⟩ | ⟨m', last', h1, h2, h3⟩
        · exact Or.inl ⟨specE _ (Ev.neg he (Ev.pos hz h1)), h2⟩
        · exact Or.inr ⟨m', last', h1, specE _ (Ev.neg he (Ev.pos hz h2)), h3⟩
      · have hneg : rd v (AbsI (rd c (i : Int))) = -(rd c (i : Int)) := by
          rcases ha with h | ⟨_, h | h⟩
          · exact absurd h hz
          · rcases hax with h2 | h2 <;> omega
          · rcases hax with h2 | h2 <;> omega
        have hs' : Scanned n v c (i + 1) m last := by
          refine ⟨fun j hj => ?_, fun h => ?_, fun h j hj => ?_, fun h j hj => ?_⟩
          · rcases Nat.lt_succ_iff_lt_or_eq.mp hj with h | rfl
            · exact hs.no j h
            · exact he
          · obtain ⟨e1, e2, j, e3, e4⟩ := hs.lit h
            exact ⟨e1, e2, j, by omega, e4⟩
          · rcases Nat.lt_succ_iff_lt_or_eq.mp hj with h2 | rfl
            · exact hs.none h j h2
            · exact hneg
          · rcases Nat.lt_succ_iff_lt_or_eq.mp hj with h2 | rfl
            · exact hs.one h j h2
            · exact Or.inr hneg
        rcases ih (i + 1) m last (by omega) (by omega) hs' with ⟨h1, h2⟩ | ⟨m', last', h1, h2, h3⟩
        · exact Or.inl ⟨specE _ (Ev.neg he (Ev.neg hz h1)), h2⟩
        · exact Or.inr ⟨m', last', h1, specE _ (Ev.neg he (Ev.neg hz h2)), h3⟩
/-- A clause that is true, or has an open literal. -/
def Fine (v c : List Int) : Prop := ∃ j : Nat, j < c.length ∧ (rd v (AbsI (rd c (j : Int))) = rd c (j : Int) ∨ rd v (AbsI (rd c (j : Int))) = 0)
/-- What is left of the truth when marks are made. -/
structure Forces (n : Nat) (l : List (List Int)) (v : List Int) (b : Bool) (v' : List Int) : Prop where
  ok : VOk n v'
  ext : ∀ a : Nat, a ≤ n → rd v (a : Int) ≠ 0 → rd v' (a : Int) = rd v (a : Int)
  sound : ∀ T, AllT T l → Cons n T v → b = true ∧ Cons n T v'
  fine : b = true → ∀ j : Nat, j < l.length → Fine v' (rd_L1 l (j : Int))
theorem lit_false {n : Nat} {T : Nat → Bool} {v : List Int} (hT : Cons n T v) {x : Int} (hx : LitOk (n : Int) x) (h : rd v (AbsI x) = -x) : ¬ LT T x := by
  obtain ⟨h0, h1, h2⟩ := hx
  have := hT x.natAbs (by omega) (by rw [← absN, h]; omega)
  rw [← absN, h] at this
  exact (lt_neg h0).mp this
theorem force_pass_sem (n : Nat) (hn : n ≤ 700) (l : List (List Int)) (hl : AllLits n l) (z : Nat)
    (IH : ∀ v, VOk n v → v.count 0 < z → ∃ b v', Ev (fun k => spec_l11Force.l0 k l v true) (b, v') ∧ Forces n l v b v') :
    ∀ (d i : Nat) (x5 : Bool) (v : List Int), i + d = l.length → VOk n v → v.count 0 ≤ z → (x5 = true → v.count 0 < z) → (x5 = false → ∀ j : Nat, j < i → Fine v (rd_L1 l (j : Int))) →
      ∃ b v', Ev (fun k => spec_l11Force.l1 k l v x5 (i : Int)) (b, v') ∧ Forces n l v b v' := by
  have hll := hl.1
  intro d
  induction d with
  | zero =>
    intro i x5 v hi hv hz hx hf
    cases x5 with
    | false =>
      exact ⟨true, v, Ev.step (Ev.neg (by omega) (Ev.step (Ev.neg (by decide) (Ev.val _)) (fun k => spec_l11Force.l0.eq_2 ..))) (fun k => spec_l11Force.l1.eq_2 ..), hv, fun _ _ _ => rfl, fun T _ h => ⟨rfl, h⟩, fun _ j hj => hf rfl j (by omega)⟩
    | true =>
      obtain ⟨b, v', h1, h2⟩ := IH v hv (hx rfl)
      exact ⟨b, v', Ev.step (Ev.neg (by omega) h1) (fun k => spec_l11Force.l1.eq_2 ..), h2⟩
  | succ d ih =>
    intro i x5 v hi hv hz hx hf
    have hwi := wsucc i (by omega)
    have hlt : i < l.length := by omega
    have hcl := hl.2 i hlt
    have specE : ∀ (p : Int × Int) q, Ev (fun k => spec_l11Left.l0 k (rd_L1 l (i : Int)) v 0 0 0) p → Ev (fun k => if p.1 = 0 then some (false, v) else if p.1 = 1 then ((spec_l11Abs.f p.2).bind fun t => if 0 ≤ t then (if t < (v.length : Int) then spec_l11Force.l1 k l (v.set (t : Int).toNat p.2) true ((i + 1 : Nat) : Int) else none) else none) else spec_l11Force.l1 k l v x5 ((i + 1 : Nat) : Int)) q → Ev (fun k => spec_l11Force.l1 k l v x5 (i : Int)) q := by
      intro p q hp hq
      refine Ev.step ?_ (fun k => spec_l11Force.l1.eq_2 ..)
      rw [hwi]
      exact Ev.pos (by omega) (Ev.pos (by omega) (Ev.bind (by unfold spec_l11Left.f; exact hp) hq))
    rcases scan_sem n hn v hv _ hcl _ 0 0 0 (Nat.zero_add _) (Nat.le_refl _) ⟨fun j hj => by omega, fun h => by omega, fun _ j hj => by omega, fun _ j hj => by omega⟩ with ⟨h1, h2⟩ | ⟨m, last, hm, h1, hs⟩
    · obtain ⟨b, v', e1, e2⟩ := ih (i + 1) x5 v (by omega) hv hz hx (fun h j hj => by
        rcases Nat.lt_succ_iff_lt_or_eq.mp hj with h3 | rfl
        · exact hf h j h3
        · obtain ⟨q, q1, q2⟩ := h2
          exact ⟨q, q1, Or.inl q2⟩)
      exact ⟨b, v', specE _ _ h1 (Ev.neg (by decide) (Ev.neg (by decide) e1)), e2⟩
    · by_cases m0 : m = 0
      · subst m0
        refine ⟨false, v, specE _ _ h1 (Ev.pos rfl (Ev.val _)), hv, fun _ _ _ => rfl, fun T hT hC => ?_, fun h => by cases h⟩
        obtain ⟨j, j1, j2⟩ := hT i hlt
        exact absurd j2 (lit_false hC (hcl.2 j j1) (hs.none rfl j j1))
      · by_cases m1 : m = 1
        · subst m1
          obtain ⟨hlit, h0, _⟩ := hs.lit (Nat.le_refl _)
          have hx0 := hlit.1
          have hx1 := hlit.2.1
          have hx2 := hlit.2.2
          have hvl := hv.1
          rw [absN] at h0
          have hzs := zeros_set (x := last) (by omega) h0 hx0
          obtain ⟨b, v', e1, e2⟩ := ih (i + 1) true (v.set last.natAbs last) (by omega) (vok_set hv hlit) (by omega) (fun _ => by omega) (fun h => by cases h)
          refine ⟨b, v', specE _ _ h1 (Ev.neg (by simp) (Ev.pos (by simp) (Ev.bind (spec_abs (by omega) (by omega)) (Ev.pos (absI_pos _) (Ev.pos (by rw [absN]; omega) ?_))))), e2.ok, fun a ha hz2 => ?_, fun T hT hC => ?_, e2.fine⟩
          · rw [absN, Int.toNat_natCast]
            exact e1
          · have hne : last.natAbs ≠ a := fun e => by subst e; exact hz2 h0
            rw [← rd_set_ne (l := v) (v := last) hne]
            exact e2.ext a ha (by rw [rd_set_ne hne]; exact hz2)
          · refine e2.sound T hT (fun a ha hz2 => ?_)
            by_cases e : last.natAbs = a
            · subst e
              rw [rd_set_eq (by omega)]
              obtain ⟨j, j1, j2⟩ := hT i hlt
              rcases hs.one rfl j j1 with h | h
              · rw [← h]
                exact j2
              · exact absurd j2 (lit_false hC (hcl.2 j j1) h)
            · rw [rd_set_ne e] at hz2 ⊢
              exact hC a ha hz2
        · obtain ⟨b, v', e1, e2⟩ := ih (i + 1) x5 v (by omega) hv hz hx (fun h j hj => by
            rcases Nat.lt_succ_iff_lt_or_eq.mp hj with h3 | rfl
            · exact hf h j h3
            · obtain ⟨_, q0, q, q1, q2⟩ := hs.lit (by omega)
              exact ⟨q, q1, Or.inr (by rw [q2]; exact q0)⟩)
          exact ⟨b, v', specE _ _ h1 (Ev.neg (by show ¬ ((m : Int) = 0); omega) (Ev.neg (by show ¬ ((m : Int) = 1); omega) e1)), e2⟩
theorem force_run_sem (n : Nat) (hn : n ≤ 700) (l : List (List Int)) (hl : AllLits n l) : ∀ (z : Nat) (v : List Int), v.count 0 < z → VOk n v →
    ∃ b v', Ev (fun k => spec_l11Force.l0 k l v true) (b, v') ∧ Forces n l v b v' := by
  intro z
  induction z with
  | zero => intro v hz; omega
  | succ z ih =>
    intro v hz hv
    obtain ⟨b, v', h1, h2⟩ := force_pass_sem n hn l hl z (fun v hv hz => ih v hz hv) l.length 0 false v (by omega) hv (by omega) (by simp) (fun _ j hj => by omega)
    exact ⟨b, v', Ev.step (Ev.pos rfl h1) (fun k => spec_l11Force.l0.eq_2 ..), h2⟩
theorem force_sem (n : Nat) (hn : n ≤ 700) (l : List (List Int)) (hl : AllLits n l) (v : List Int) (hv : VOk n v) :
    ∃ b v', Ev (fun k => spec_l11Force.f k l v) (b, v') ∧ Forces n l v b v' := by
  unfold spec_l11Force.f
  exact force_run_sem n hn l hl (v.count 0 + 1) v (by omega) hv
/-! #### the reference's search: clauses can be true when marked literals are -/
theorem copy_ints_loop (l : List Int) (hl : l.length ≤ 1048576) : ∀ (d i : Nat) (ys : List Int), i + d = l.length → ys.length = i → (∀ j : Nat, j < i → rd ys (j : Int) = rd l (j : Int)) →
    Ev (fun k => spec_l3Copy.l0 k l ys (i : Int)) l := by
  intro d
  induction d with
  | zero =>
    intro i ys hi hy h
    refine Ev.step (Ev.neg (by omega) (Ev.valEq ?_)) (fun k => spec_l3Copy.l0.eq_2 ..)
    exact list_eq_rd (by omega) (fun j hj => h j (by omega))
  | succ d ih =>
    intro i ys hi hy h
    have hwi := wsucc i (by omega)
    refine Ev.step (Ev.pos (by omega) (Ev.pos (by omega) (Ev.pos (by omega) ?_))) (fun k => spec_l3Copy.l0.eq_2 ..)
    rw [hwi]
    refine ih (i + 1) _ (by omega) (by simp [hy]) ?_
    intro j hj
    by_cases e : j = i
    · subst e
      subst hy
      exact rd_app_eq
    · rw [rd_app_lt (by omega)]
      exact h j (by omega)
theorem copy_ints (l : List Int) (hl : l.length ≤ 1048576) : Ev (fun k => spec_l3Copy.f k l) l := by
  unfold spec_l3Copy.f
  exact copy_ints_loop l hl l.length 0 [] (by omega) rfl (fun j hj => by omega)
theorem next_loop (n : Nat) (hn : n ≤ 700) (v : List Int) (hv : v.length = n + 1) : ∀ (d i : Nat), i + d = n + 1 → 1 ≤ i → (∀ b : Nat, 1 ≤ b → b < i → rd v (b : Int) ≠ 0) →
    (Ev (fun k => spec_l12Next.l0 k v (i : Int)) 0 ∧ ∀ b : Nat, 1 ≤ b → b ≤ n → rd v (b : Int) ≠ 0) ∨ ∃ m : Nat, 1 ≤ m ∧ m ≤ n ∧ rd v (m : Int) = 0 ∧ Ev (fun k => spec_l12Next.l0 k v (i : Int)) (m : Int) := by
  intro d
  induction d with
  | zero =>
    intro i hi h1 h
    exact Or.inl ⟨Ev.step (Ev.neg (by omega) (Ev.val _)) (fun k => spec_l12Next.l0.eq_2 ..), fun b hb hb2 => h b hb (by omega)⟩
  | succ d ih =>
    intro i hi h1 h
    have hwi := wsucc i (by omega)
    by_cases hz : rd v (i : Int) = 0
    · exact Or.inr ⟨i, h1, by omega, hz, Ev.step (Ev.pos (by omega) (Ev.pos (by omega) (Ev.pos hz (Ev.val _)))) (fun k => spec_l12Next.l0.eq_2 ..)⟩
    · have st : ∀ q, Ev (fun k => spec_l12Next.l0 k v ((i + 1 : Nat) : Int)) q → Ev (fun k => spec_l12Next.l0 k v (i : Int)) q := by
        intro q hq
        refine Ev.step ?_ (fun k => spec_l12Next.l0.eq_2 ..)
        rw [hwi]
        exact Ev.pos (by omega) (Ev.pos (by omega) (Ev.neg hz hq))
      rcases ih (i + 1) (by omega) (by omega) (fun b hb hb2 => by
        rcases Nat.lt_succ_iff_lt_or_eq.mp hb2 with h3 | rfl
        · exact h b hb h3
        · exact hz) with ⟨e1, e2⟩ | ⟨m, m1, m2, m3, e1⟩
      · exact Or.inl ⟨st _ e1, e2⟩
      · exact Or.inr ⟨m, m1, m2, m3, st _ e1⟩
theorem next_sem (n : Nat) (hn : n ≤ 700) (v : List Int) (hv : v.length = n + 1) :
    (Ev (fun k => spec_l12Next.f k v) 0 ∧ ∀ b : Nat, 1 ≤ b → b ≤ n → rd v (b : Int) ≠ 0) ∨ ∃ m : Nat, 1 ≤ m ∧ m ≤ n ∧ rd v (m : Int) = 0 ∧ Ev (fun k => spec_l12Next.f k v) (m : Int) := by
  unfold spec_l12Next.f
  exact next_loop n hn v hv n 1 (by omega) (Nat.le_refl _) (fun b h1 h2 => by omega)
/-- Clauses can be true when marked literals are. -/
def Can (n : Nat) (l : List (List Int)) (v : List Int) : Prop := ∃ T, AllT T l ∧ Cons n T v
theorem lt_marks (v : List Int) (x : Int) : LT (fun a => decide (0 < rd v (a : Int))) x ↔ (0 < x ↔ 0 < rd v ((x.natAbs : Nat) : Int)) := by
  unfold LT
  by_cases h : 0 < x
  · simp [h]
  · simp [h]
theorem full_can {n : Nat} {l : List (List Int)} (hl : AllLits n l) {v : List Int} (hv : VOk n v) (hf : ∀ j : Nat, j < l.length → Fine v (rd_L1 l (j : Int))) (hz : ∀ b : Nat, 1 ≤ b → b ≤ n → rd v (b : Int) ≠ 0) : Can n l v := by
  refine ⟨fun a => decide (0 < rd v (a : Int)), fun j hj => ?_, fun a ha h0 => ?_⟩
  · obtain ⟨i, i1, i2⟩ := hf j hj
    obtain ⟨hx0, hx1, hx2⟩ := (hl.2 j hj).2 i i1
    refine ⟨i, i1, ?_⟩
    rw [absN] at i2
    have := hz (rd (rd_L1 l (j : Int)) (i : Int)).natAbs (by omega) (by omega)
    rcases i2 with h | h
    · rw [lt_marks, h]
    · exact absurd h this
  · rw [lt_marks]
    rcases hv.2 a ha with h | ⟨h1, h | h⟩
    · exact absurd h h0
    · have e : (rd v (a : Int)).natAbs = a := by omega
      rw [e]
    · have e : (rd v (a : Int)).natAbs = a := by omega
      rw [e]
theorem cons_set {n : Nat} {T : Nat → Bool} {v : List Int} (hvl : v.length = n + 1) {x : Int} (hx : LitOk (n : Int) x) (h0 : rd v ((x.natAbs : Nat) : Int) = 0) : Cons n T (v.set x.natAbs x) ↔ Cons n T v ∧ LT T x := by
  obtain ⟨hx0, hx1, hx2⟩ := hx
  constructor
  · intro h
    refine ⟨fun a ha hz => ?_, ?_⟩
    · have hne : x.natAbs ≠ a := fun e => by subst e; exact hz h0
      have := h a ha (by rw [rd_set_ne hne]; exact hz)
      rwa [rd_set_ne hne] at this
    · have := h x.natAbs (by omega) (by rw [rd_set_eq (by omega)]; exact hx0)
      rwa [rd_set_eq (by omega)] at this
  · rintro ⟨h, hx⟩ a ha hz
    by_cases e : x.natAbs = a
    · subst e
      rw [rd_set_eq (by omega)]
      exact hx
    · rw [rd_set_ne e] at hz ⊢
      exact h a ha hz
theorem forces_can {n : Nat} {l : List (List Int)} {v v' : List Int} {b : Bool} (h : Forces n l v b v') : Can n l v ↔ b = true ∧ Can n l v' := by
  constructor
  · rintro ⟨T, h1, h2⟩
    obtain ⟨e, h3⟩ := h.sound T h1 h2
    exact ⟨e, T, h1, h3⟩
  · rintro ⟨_, T, h1, h2⟩
    refine ⟨T, h1, fun a ha hz => ?_⟩
    have e := h.ext a ha hz
    rw [← e]
    exact h2 a ha (by rw [e]; exact hz)
theorem forces_count {n : Nat} {l : List (List Int)} {v v' : List Int} {b : Bool} (hv : VOk n v) (h : Forces n l v b v') : v'.count 0 ≤ v.count 0 := by
  have h1 := hv.1
  have h2 := h.ok.1
  have key : ∀ (xs ys : List Int), ys.length = xs.length → (∀ j : Nat, j < xs.length → rd xs (j : Int) ≠ 0 → rd ys (j : Int) = rd xs (j : Int)) → ys.count 0 ≤ xs.count 0 := by
    intro xs
    induction xs with
    | nil =>
      intro ys hy _
      rw [List.eq_nil_of_length_eq_zero hy]
      exact Nat.le_refl _
    | cons x xs ih =>
      intro ys hy hh
      cases ys with
      | nil => simp
      | cons y ys =>
        have h0 := hh 0 (by simp)
        have hi := ih ys (by simpa using hy) (fun j hj hz => by
          have := hh (j + 1) (by simp; omega)
          simp only [rd_nat, List.getD_cons_succ] at this hz ⊢
          exact this hz)
        rw [rd_nat, rd_nat] at h0
        simp only [List.getD_cons_zero] at h0
        rw [List.count_cons, List.count_cons]
        by_cases hx : x = 0
        · subst hx
          split <;> simp <;> omega
        · have := h0 hx
          subst this
          split <;> omega
  exact key v v' (by omega) (fun j hj hz => h.ext j (by omega) hz)
theorem open_sem (n : Nat) (hn : n ≤ 700) (l : List (List Int)) (hl : AllLits n l) : ∀ (z : Nat) (v : List Int), v.count 0 < z → VOk n v → Dec (fun k => spec_l12Open.f k l v) (Can n l v) := by
  intro z
  induction z with
  | zero => intro v hz; omega
  | succ z ih =>
    intro v hz hv
    have hvl := hv.1
    obtain ⟨b, v', e1, hF⟩ := force_sem n hn l hl v hv
    have hv' := hF.ok
    have hvl' := hv'.1
    have hcnt := forces_count hv hF
    have hcan := forces_can hF
    have st : ∀ q, Ev (fun k => if b = true then ((spec_l12Next.f k v').bind fun t176 => if t176 = 0 then some true else ((spec_l3Copy.f k v').bind fun t177 => if 0 ≤ t176 then (if t176 < (t177.length : Int) then ((spec_l12Open.f k l (t177.set (t176 : Int).toNat (wrap64 (-t176)))).bind fun t181 => if t181 = true then some true else (if t176 < (v.length : Int) then ((spec_l12Open.f k l (v'.set (t176 : Int).toNat t176)).bind fun t183 => some t183) else none)) else none) else none)) else some false) q → Ev (fun k => spec_l12Open.f k l v) q := by
      intro q hq
      refine Ev.step ?_ (fun k => spec_l12Open.f.eq_2 ..)
      exact Ev.bind (copy_ints v (by omega)) (Ev.bind e1 hq)
    cases b with
    | false => exact Dec.no (st _ (Ev.neg (by decide) (Ev.val _))) (fun h => by simpa using (hcan.mp h).1)
    | true =>
      rcases next_sem n hn v' hvl' with ⟨a1, a2⟩ | ⟨m, m1, m2, m3, a1⟩
      · exact Dec.yes (st _ (Ev.pos rfl (Ev.bind a1 (Ev.pos rfl (Ev.val _))))) (hcan.mpr ⟨rfl, full_can hl hv' (hF.fine rfl) a2⟩)
      · have hlow : LitOk (n : Int) (-(m : Int)) := ⟨by omega, by omega, by omega⟩
        have hhigh : LitOk (n : Int) (m : Int) := ⟨by omega, by omega, by omega⟩
        have nl : (-(m : Int)).natAbs = m := by omega
        have nh : ((m : Int)).natAbs = m := by omega
        have vl := vok_set hv' hlow
        have vh := vok_set hv' hhigh
        have cl := fun T => cons_set (T := T) hvl' hlow (by rw [nl]; exact m3)
        have ch := fun T => cons_set (T := T) hvl' hhigh (by rw [nh]; exact m3)
        rw [nl] at vl
        rw [nh] at vh
        simp only [nl] at cl
        simp only [nh] at ch
        have z1 := zeros_set (x := -(m : Int)) (a := m) (v := v') (by omega) m3 (by omega)
        have z2 := zeros_set (x := (m : Int)) (a := m) (v := v') (by omega) m3 (by omega)
        obtain ⟨b1, f1, f2⟩ := ih (v'.set m (-(m : Int))) (by omega) vl
        obtain ⟨b2, g1, g2⟩ := ih (v'.set m (m : Int)) (by omega) vh
        have hsplit : Can n l v ↔ Can n l (v'.set m (-(m : Int))) ∨ Can n l (v'.set m (m : Int)) := by
          rw [hcan]
          constructor
          · rintro ⟨_, T, h1, h2⟩
            by_cases hm : LT T (m : Int)
            · exact Or.inr ⟨T, h1, (ch T).mpr ⟨h2, hm⟩⟩
            · exact Or.inl ⟨T, h1, (cl T).mpr ⟨h2, (lt_neg (by omega)).mpr hm⟩⟩
          · rintro (⟨T, h1, h2⟩ | ⟨T, h1, h2⟩)
            · exact ⟨rfl, T, h1, ((cl T).mp h2).1⟩
            · exact ⟨rfl, T, h1, ((ch T).mp h2).1⟩
        have hw : wrap64 (-(m : Int)) = -(m : Int) := wneg (by omega) (by omega)
        have run : ∀ q, Ev (fun k => (spec_l12Open.f k l (v'.set m (-(m : Int)))).bind fun t181 => if t181 = true then some true else (if (m : Int) < (v.length : Int) then ((spec_l12Open.f k l (v'.set m (m : Int))).bind fun t183 => some t183) else none)) q → Ev (fun k => spec_l12Open.f k l v) q := by
          intro q hq
          refine st q (Ev.pos rfl (Ev.bind a1 (Ev.neg (by omega) (Ev.bind (copy_ints v' (by omega)) (Ev.pos (by omega) (Ev.pos (by omega) ?_))))))
          rw [hw, Int.toNat_natCast]
          exact hq
        cases b1 with
        | true => exact Dec.yes (run _ (Ev.bind f1 (Ev.pos rfl (Ev.val _)))) (hsplit.mpr (Or.inl (f2.mp rfl)))
        | false =>
          refine ⟨b2, run _ (Ev.bind f1 (Ev.neg (by decide) (Ev.pos (by omega) (Ev.bind g1 (Ev.val _))))), g2.trans ?_⟩
          rw [hsplit]
          exact ⟨Or.inr, fun h => h.elim (fun h2 => by simpa using f2.mpr h2) id⟩
/-! #### bits of whole numbers -/
theorem wrap_pos62 (n : Int) (h0 : 0 ≤ n) (h1 : n < 2 ^ 62) : IntKind.i64.wrap n = n := by
  rw [IntKind.wrap_i64]
  have : (2 : Int) ^ 62 = 4611686018427387904 := by decide
  omega
theorem band_nat (a b : Nat) (ha : a < 2 ^ 62) (hb : b < 2 ^ 62) : Go.bits .and .i64 (a : Int) (b : Int) = ((a &&& b : Nat) : Int) := (bits_nat .i64 62 (by decide) wrap_pos62 a b ha hb).1
theorem bor_nat (a b : Nat) (ha : a < 2 ^ 62) (hb : b < 2 ^ 62) : Go.bits .or .i64 (a : Int) (b : Int) = ((a ||| b : Nat) : Int) := (bits_nat .i64 62 (by decide) wrap_pos62 a b ha hb).2
theorem wrap_zero (n : Nat) (h : n < 2 ^ 64) : IntKind.i64.wrap (n : Int) = 0 ↔ n = 0 := by
  rw [IntKind.wrap_i64]
  have : (2 : Nat) ^ 64 = 18446744073709551616 := by decide
  omega
theorem ofInt_wrap (x : BitVec 64) : BitVec.ofInt 64 (IntKind.i64.wrap (x.toNat : Int)) = x := by
  apply BitVec.eq_of_toNat_eq
  rw [IntKind.wrap_i64, BitVec.toNat_ofInt]
  have := x.isLt
  generalize x.toNat = n at this ⊢
  have e : (2 : Nat) ^ 64 = 18446744073709551616 := by decide
  rw [e] at *
  omega
theorem and_zero (a b : Nat) : a &&& b = 0 ↔ ∀ i, b.testBit i = true → a.testBit i = false := by
  constructor
  · intro h i hi
    have := congrArg (fun n => n.testBit i) h
    simp only [Nat.testBit_and, Nat.zero_testBit, Bool.and_eq_false_iff] at this
    rcases this with h | h
    · exact h
    · rw [hi] at h; cases h
  · intro h
    apply Nat.eq_of_testBit_eq
    intro i
    rw [Nat.testBit_and, Nat.zero_testBit]
    cases hb : b.testBit i with
    | false => simp
    | true => simp [h i hb]
theorem bnot_zero (r y : Nat) (hr : r < 2 ^ 62) (hy : y < 2 ^ 62) : Go.bits .and .i64 (Go.bits .xor .i64 (-1) (r : Int)) (y : Int) = 0 ↔ ∀ i, y.testBit i = true → r.testBit i = true := by
  have e62 : (2 : Nat) ^ 62 = 4611686018427387904 := by decide
  have e64 : (2 : Nat) ^ 64 = 18446744073709551616 := by decide
  have h1 : Go.bits .xor .i64 (-1) (r : Int) = IntKind.i64.wrap (((BitVec.ofInt 64 (-1)) ^^^ (BitVec.ofInt 64 (r : Int))).toNat : Int) := rfl
  have h2 : Go.bits .and .i64 (Go.bits .xor .i64 (-1) (r : Int)) (y : Int) = IntKind.i64.wrap (((BitVec.ofInt 64 (Go.bits .xor .i64 (-1) (r : Int))) &&& (BitVec.ofInt 64 (y : Int))).toNat : Int) := rfl
  rw [h2, h1, ofInt_wrap, wrap_zero _ (BitVec.isLt _), BitVec.toNat_and, BitVec.ofInt_natCast, BitVec.ofInt_natCast, BitVec.toNat_ofNat, Nat.mod_eq_of_lt (by omega), and_zero]
  have key : ∀ i, i < 64 → ((BitVec.ofInt 64 (-1)) ^^^ (BitVec.ofNat 64 r)).toNat.testBit i = !(r.testBit i) := by
    intro i hi
    rw [BitVec.testBit_toNat, BitVec.getLsbD_xor]
    have : (BitVec.ofInt 64 (-1)) = BitVec.allOnes 64 := by decide
    rw [this, BitVec.getLsbD_allOnes, BitVec.getLsbD_ofNat]
    simp [hi]
  constructor
  · intro h i hi
    have hi64 : i < 64 := by
      rcases Nat.lt_or_ge i 64 with h3 | h3
      · exact h3
      · have := Nat.testBit_lt_two_pow (Nat.lt_of_lt_of_le (by omega : y < 2 ^ 64) (Nat.pow_le_pow_right (by decide) h3))
        rw [this] at hi; cases hi
    have := h i hi
    rw [key i hi64] at this
    simpa using this
  · intro h i hi
    have hi64 : i < 64 := by
      rcases Nat.lt_or_ge i 64 with h3 | h3
      · exact h3
      · have := Nat.testBit_lt_two_pow (Nat.lt_of_lt_of_le (by omega : y < 2 ^ 64) (Nat.pow_le_pow_right (by decide) h3))
        rw [this] at hi; cases hi
    rw [key i hi64, h i hi]
    rfl
theorem shl_one (j : Nat) (hj : j ≤ 40) : shl .i64 1 (j : Int) = ((2 ^ j : Nat) : Int) := by
  unfold shl
  rw [Int.toNat_natCast, show min j IntKind.i64.bits = j from Nat.min_eq_left (by show j ≤ 64; omega), Int.one_mul]
  have h1 : (2 : Nat) ^ j ≤ 2 ^ 40 := Nat.pow_le_pow_right (by decide) hj
  have e40 : (2 : Nat) ^ 40 = 1099511627776 := by decide
  have e : (2 : Int) ^ j = ((2 ^ j : Nat) : Int) := by simp
  rw [e]
  generalize (2 : Nat) ^ j = p at h1 ⊢
  apply wrap_pos62
  · exact Int.natCast_nonneg _
  · have : (2 : Int) ^ 62 = 4611686018427387904 := by decide
    omega
theorem bits_of (n : Nat) (T : Nat → Bool) : ∃ r : Nat, r < 2 ^ n ∧ ∀ i, i < n → r.testBit i = T i := by
  induction n with
  | zero => exact ⟨0, by decide, fun i hi => by omega⟩
  | succ n ih =>
    obtain ⟨r, h1, h2⟩ := ih
    refine ⟨r ||| (if T n = true then 2 ^ n else 0), ?_, fun i hi => ?_⟩
    · apply Nat.or_lt_two_pow
      · exact Nat.lt_of_lt_of_le h1 (Nat.pow_le_pow_right (by decide) (Nat.le_succ n))
      · split
        · exact Nat.pow_lt_pow_right (by decide) (Nat.lt_succ_self n)
        · exact Nat.two_pow_pos _
    · rw [Nat.testBit_or]
      rcases Nat.lt_succ_iff_lt_or_eq.mp hi with h | rfl
      · rw [h2 i h]
        split
        · rw [Nat.testBit_two_pow]
          simp; omega
        · simp
      · rw [Nat.testBit_lt_two_pow h1]
        split
        · rename_i h; simp [h]
        · rename_i h; simpa using h
/-! #### the rows of bits that make clauses true, one after the other -/
/-- The assignment of a row of bits. -/
def TR (r : Nat) : Nat → Bool := fun a => r.testBit (a - 1)
structure PosOk (n : Nat) (c : List Int) (p : Nat) (y : Int) (Y : Nat) : Prop where
  eq : y = (Y : Int)
  lt : Y < 2 ^ n
  bit : ∀ b, Y.testBit b = true ↔ ∃ j : Nat, j < p ∧ rd c (j : Int) = (b : Int) + 1
structure NegOk (n : Nat) (c : List Int) (p : Nat) (y : Int) (Y : Nat) : Prop where
  eq : y = (Y : Int)
  lt : Y < 2 ^ n
  bit : ∀ b, Y.testBit b = true ↔ ∃ j : Nat, j < p ∧ rd c (j : Int) = -((b : Int) + 1)
theorem two20 {n : Nat} (hn : n ≤ 20) : 2 ^ n ≤ 1048576 := Nat.le_trans (Nat.pow_le_pow_right (by decide) hn) (by decide)
theorem two62 : (2 : Nat) ^ 62 = 4611686018427387904 := by decide
theorem pos_set {n : Nat} (hn : n ≤ 20) {c : List Int} {p Y : Nat} {y : Int} (h : PosOk n c p y Y) {b : Nat} (hb : b < n) (hx : rd c (p : Int) = (b : Int) + 1) : PosOk n c (p + 1) (Go.bits .or .i64 y (shl .i64 1 (b : Int))) (Y ||| 2 ^ b) := by
  obtain ⟨h1, h2, h3⟩ := h
  have h20 := two20 hn
  have hb2 : 2 ^ b < 2 ^ n := Nat.pow_lt_pow_right (by decide) hb
  have e := two62
  refine ⟨?_, Nat.or_lt_two_pow h2 hb2, fun i => ?_⟩
  · rw [h1, shl_one b (by omega), bor_nat Y (2 ^ b) (by omega) (by omega)]
  · rw [Nat.testBit_or, Nat.testBit_two_pow, Bool.or_eq_true, h3, decide_eq_true_eq]
    constructor
    · rintro (⟨j, j1, j2⟩ | rfl)
      · exact ⟨j, by omega, j2⟩
      · exact ⟨p, by omega, hx⟩
    · rintro ⟨j, j1, j2⟩
      rcases Nat.lt_succ_iff_lt_or_eq.mp j1 with h4 | rfl
      · exact Or.inl ⟨j, h4, j2⟩
      · exact Or.inr (by omega)
theorem neg_set {n : Nat} (hn : n ≤ 20) {c : List Int} {p Y : Nat} {y : Int} (h : NegOk n c p y Y) {b : Nat} (hb : b < n) (hx : rd c (p : Int) = -((b : Int) + 1)) : NegOk n c (p + 1) (Go.bits .or .i64 y (shl .i64 1 (b : Int))) (Y ||| 2 ^ b) := by
  obtain ⟨h1, h2, h3⟩ := h
  have h20 := two20 hn
  have hb2 : 2 ^ b < 2 ^ n := Nat.pow_lt_pow_right (by decide) hb
  have e := two62
  refine ⟨?_, Nat.or_lt_two_pow h2 hb2, fun i => ?_⟩
  · rw [h1, shl_one b (by omega), bor_nat Y (2 ^ b) (by omega) (by omega)]
  · rw [Nat.testBit_or, Nat.testBit_two_pow, Bool.or_eq_true, h3, decide_eq_true_eq]
    constructor
    · rintro (⟨j, j1, j2⟩ | rfl)
      · exact ⟨j, by omega, j2⟩
      · exact ⟨p, by omega, hx⟩
    · rintro ⟨j, j1, j2⟩
      rcases Nat.lt_succ_iff_lt_or_eq.mp j1 with h4 | rfl
      · exact Or.inl ⟨j, h4, j2⟩
      · exact Or.inr (by omega)
theorem pos_skip {n : Nat} {c : List Int} {p Y : Nat} {y : Int} (h : PosOk n c p y Y) (hx : rd c (p : Int) < 0) : PosOk n c (p + 1) y Y := by
  obtain ⟨h1, h2, h3⟩ := h
  refine ⟨h1, h2, fun b => ?_⟩
  rw [h3]
  constructor
  · rintro ⟨j, j1, j2⟩
    exact ⟨j, by omega, j2⟩
  · rintro ⟨j, j1, j2⟩
    rcases Nat.lt_succ_iff_lt_or_eq.mp j1 with h4 | rfl
    · exact ⟨j, h4, j2⟩
    · omega
theorem neg_skip {n : Nat} {c : List Int} {p Y : Nat} {y : Int} (h : NegOk n c p y Y) (hx : 0 < rd c (p : Int)) : NegOk n c (p + 1) y Y := by
  obtain ⟨h1, h2, h3⟩ := h
  refine ⟨h1, h2, fun b => ?_⟩
  rw [h3]
  constructor
  · rintro ⟨j, j1, j2⟩
    exact ⟨j, by omega, j2⟩
  · rintro ⟨j, j1, j2⟩
    rcases Nat.lt_succ_iff_lt_or_eq.mp j1 with h4 | rfl
    · exact ⟨j, h4, j2⟩
    · omega
theorem models_inner {σ : Type} (step : σ → Int → Bool × σ) (n : Nat) (hn : n ≤ 20) (s : σ) (l : List (List Int)) (i : Nat) (c : List Int) (hc : LitsOk n c) : ∀ (d p : Nat) (x6 x7 : List Int) (Y Z : Nat), p + d = c.length → i < x6.length → i < x7.length → PosOk n c p (rd x6 (i : Int)) Y → NegOk n c p (rd x7 (i : Int)) Z →
    ∃ (x6' x7' : List Int) (Y' Z' : Nat), x6'.length = x6.length ∧ x7'.length = x7.length ∧ PosOk n c c.length (rd x6' (i : Int)) Y' ∧ NegOk n c c.length (rd x7' (i : Int)) Z' ∧ (∀ j : Nat, j ≠ i → rd x6' (j : Int) = rd x6 (j : Int) ∧ rd x7' (j : Int) = rd x7 (j : Int)) ∧
      ∀ q, Ev (fun k => impl_models.l0 step k s (n : Int) l x6' x7' l (l.length : Int) (wrap64 ((i : Int) + 1))) q → Ev (fun k => impl_models.l1 step k s (n : Int) l x6 x7 (i : Int) l (l.length : Int) (i : Int) c (c.length : Int) (p : Int)) q := by
  have hcl := hc.1
  intro d
  induction d with
  | zero =>
    intro p x6 x7 Y Z hp h6 h7 hY hZ
    have : p = c.length := by omega
    subst this
    exact ⟨x6, x7, Y, Z, rfl, rfl, hY, hZ, fun j _ => ⟨rfl, rfl⟩, fun q hq => Ev.step (Ev.neg (by omega) hq) (fun k => impl_models.l1.eq_2 ..)⟩
  | succ d ih =>
    intro p x6 x7 Y Z hp h6 h7 hY hZ
    have hwp := wsucc p (by omega)
    have hlt : p < c.length := by omega
    obtain ⟨hx0, hx1, hx2⟩ := hc.2 p hlt
    by_cases hpos : rd c (p : Int) > 0
    · obtain ⟨b, hb⟩ : ∃ b : Nat, rd c (p : Int) = (b : Int) + 1 := ⟨(rd c (p : Int)).toNat - 1, by omega⟩
      have hw : wrap64 (rd c (p : Int) - 1) = (b : Int) := by rw [w_id (by omega) (by omega)]; omega
      have hset : rd (x6.set i (Go.bits .or .i64 (rd x6 (i : Int)) (shl .i64 1 (b : Int)))) (i : Int) = Go.bits .or .i64 (rd x6 (i : Int)) (shl .i64 1 (b : Int)) := rd_set_eq h6
      obtain ⟨x6', x7', Y', Z', e1, e2, e3, e4, e5, e6⟩ := ih (p + 1) (x6.set i (Go.bits .or .i64 (rd x6 (i : Int)) (shl .i64 1 (b : Int)))) x7 (Y ||| 2 ^ b) Z (by omega) (by simpa using h6) h7 (by rw [hset]; exact pos_set hn hY (by omega) hb) (neg_skip hZ hpos)
      refine ⟨x6', x7', Y', Z', by simpa using e1, e2, e3, e4, fun j hj => ⟨by rw [(e5 j hj).1, rd_set_ne (fun h => hj h.symm)], (e5 j hj).2⟩, fun q hq => Ev.step ?_ (fun k => impl_models.l1.eq_2 ..)⟩
      rw [hw, hwp, Int.toNat_natCast]
      exact Ev.pos (by omega) (Ev.pos (by omega) (Ev.pos (by omega) (Ev.pos hpos (Ev.pos (by omega) (Ev.pos (by omega) (Ev.pos (by omega) (e6 q hq)))))))
    · obtain ⟨b, hb⟩ : ∃ b : Nat, rd c (p : Int) = -((b : Int) + 1) := ⟨(-(rd c (p : Int))).toNat - 1, by omega⟩
      have hw : wrap64 (wrap64 (-(rd c (p : Int))) - 1) = (b : Int) := by rw [wneg (by omega) (by omega), w_id (by omega) (by omega)]; omega
      have hset : rd (x7.set i (Go.bits .or .i64 (rd x7 (i : Int)) (shl .i64 1 (b : Int)))) (i : Int) = Go.bits .or .i64 (rd x7 (i : Int)) (shl .i64 1 (b : Int)) := rd_set_eq h7
      obtain ⟨x6', x7', Y', Z', e1, e2, e3, e4, e5, e6⟩ := ih (p + 1) x6 (x7.set i (Go.bits .or .i64 (rd x7 (i : Int)) (shl .i64 1 (b : Int)))) Y (Z ||| 2 ^ b) (by omega) h6 (by simpa using h7) (pos_skip hY (by omega)) (by rw [hset]; exact neg_set hn hZ (by omega) hb)
      refine ⟨x6', x7', Y', Z', e1, by simpa using e2, e3, e4, fun j hj => ⟨(e5 j hj).1, by rw [(e5 j hj).2, rd_set_ne (fun h => hj h.symm)]⟩, fun q hq => Ev.step ?_ (fun k => impl_models.l1.eq_2 ..)⟩
      rw [hw, hwp, Int.toNat_natCast]
      exact Ev.pos (by omega) (Ev.pos (by omega) (Ev.pos (by omega) (Ev.neg hpos (Ev.pos (by omega) (Ev.pos (by omega) (Ev.pos (by omega) (e6 q hq)))))))
theorem zero_pos (n : Nat) (c : List Int) : PosOk n c 0 0 0 := ⟨rfl, Nat.two_pow_pos n, fun b => by simp⟩
theorem zero_neg (n : Nat) (c : List Int) : NegOk n c 0 0 0 := ⟨rfl, Nat.two_pow_pos n, fun b => by simp⟩
theorem models_outer {σ : Type} (step : σ → Int → Bool × σ) (n : Nat) (hn : n ≤ 20) (s : σ) (l : List (List Int)) (hl : AllLits n l) : ∀ (d i : Nat) (x6 x7 : List Int), i + d = l.length → x6.length = l.length → x7.length = l.length →
    (∀ j : Nat, j < i → (∃ Y, PosOk n (rd_L1 l (j : Int)) (rd_L1 l (j : Int)).length (rd x6 (j : Int)) Y) ∧ ∃ Z, NegOk n (rd_L1 l (j : Int)) (rd_L1 l (j : Int)).length (rd x7 (j : Int)) Z) → (∀ j : Nat, i ≤ j → j < l.length → rd x6 (j : Int) = 0 ∧ rd x7 (j : Int) = 0) →
    ∃ x6' x7' : List Int, x6'.length = l.length ∧ x7'.length = l.length ∧ (∀ j : Nat, j < l.length → (∃ Y, PosOk n (rd_L1 l (j : Int)) (rd_L1 l (j : Int)).length (rd x6' (j : Int)) Y) ∧ ∃ Z, NegOk n (rd_L1 l (j : Int)) (rd_L1 l (j : Int)).length (rd x7' (j : Int)) Z) ∧
      ∀ q, Ev (fun k => impl_models.l2 step k s l x6' x7' ((2 ^ n : Nat) : Int) ((0 : Nat) : Int)) q → Ev (fun k => impl_models.l0 step k s (n : Int) l x6 x7 l (l.length : Int) (i : Int)) q := by
  have hll := hl.1
  intro d
  induction d with
  | zero =>
    intro i x6 x7 hi h6 h7 hd hz
    refine ⟨x6, x7, h6, h7, fun j hj => hd j (by omega), fun q hq => Ev.step (Ev.neg (by omega) (Ev.pos (by omega) ?_)) (fun k => impl_models.l0.eq_2 ..)⟩
    rw [shl_one n (by omega)]
    exact hq
  | succ d ih =>
    intro i x6 x7 hi h6 h7 hd hz
    have hwi := wsucc i (by omega)
    have hlt : i < l.length := by omega
    obtain ⟨z6, z7⟩ := hz i (Nat.le_refl _) hlt
    obtain ⟨y6, y7, Y, Z, e1, e2, e3, e4, e5, e6⟩ := models_inner step n hn s l i (rd_L1 l (i : Int)) (hl.2 i hlt) (rd_L1 l (i : Int)).length 0 x6 x7 0 0 (by omega) (by omega) (by omega) (by rw [z6]; exact zero_pos _ _) (by rw [z7]; exact zero_neg _ _)
    obtain ⟨x6', x7', f1, f2, f3, f4⟩ := ih (i + 1) y6 y7 (by omega) (by omega) (by omega) (fun j hj => by
      rcases Nat.lt_succ_iff_lt_or_eq.mp hj with h | rfl
      · rw [(e5 j (by omega)).1, (e5 j (by omega)).2]
        exact hd j h
      · exact ⟨⟨Y, e3⟩, ⟨Z, e4⟩⟩) (fun j h1 h2 => by
      rw [(e5 j (by omega)).1, (e5 j (by omega)).2]
      exact hz j (by omega) h2)
    refine ⟨x6', x7', f1, f2, f3, fun q hq => Ev.step (Ev.pos (by omega) (Ev.pos (by omega) (Ev.pos (by omega) (e6 q ?_)))) (fun k => impl_models.l0.eq_2 ..)⟩
    rw [hwi]
    exact f4 q hq
theorem clause_false {n : Nat} (hn : n ≤ 20) {c : List Int} (hc : LitsOk n c) {y z : Int} {Y Z : Nat} (hY : PosOk n c c.length y Y) (hZ : NegOk n c c.length z Z) {r : Nat} (hr : r < 2 ^ n) :
    (Go.bits .and .i64 (r : Int) y = 0 ∧ Go.bits .and .i64 (Go.bits .xor .i64 (-1) (r : Int)) z = 0) ↔ ¬ ClT (TR r) c := by
  have h20 := two20 hn
  have e := two62
  have hy := hY.lt
  have hz := hZ.lt
  rw [hY.eq, hZ.eq, band_nat r Y (by omega) (by omega), bnot_zero r Z (by omega) (by omega)]
  have e0 : ((r &&& Y : Nat) : Int) = 0 ↔ r &&& Y = 0 := by omega
  rw [e0, and_zero]
  constructor
  · rintro ⟨h1, h2⟩ ⟨j, j1, j2⟩
    obtain ⟨hx0, hx1, hx2⟩ := hc.2 j j1
    unfold LT TR at j2
    by_cases hp : 0 < rd c (j : Int)
    · rw [if_pos hp] at j2
      have := h1 ((rd c (j : Int)).natAbs - 1) ((hY.bit _).mpr ⟨j, j1, by omega⟩)
      rw [this] at j2
      cases j2
    · rw [if_neg hp] at j2
      have := h2 ((rd c (j : Int)).natAbs - 1) ((hZ.bit _).mpr ⟨j, j1, by omega⟩)
      rw [this] at j2
      cases j2
  · intro h
    refine ⟨fun i hi => ?_, fun i hi => ?_⟩
    · obtain ⟨j, j1, j2⟩ := (hY.bit i).mp hi
      cases hb : r.testBit i with
      | false => rfl
      | true =>
        refine absurd ⟨j, j1, ?_⟩ h
        unfold LT TR
        rw [j2, if_pos (by omega)]
        have : ((i : Int) + 1).natAbs - 1 = i := by omega
        rw [this]
        exact hb
    · obtain ⟨j, j1, j2⟩ := (hZ.bit i).mp hi
      cases hb : r.testBit i with
      | true => rfl
      | false =>
        refine absurd ⟨j, j1, ?_⟩ h
        unfold LT TR
        rw [j2, if_neg (by omega)]
        have : (-((i : Int) + 1)).natAbs - 1 = i := by omega
        rw [this]
        exact hb
def allB (T : Nat → Bool) (l : List (List Int)) : Bool := l.all fun c => c.any fun x => decide (LT T x)
theorem any_iff (T : Nat → Bool) (c : List Int) : (c.any fun x => decide (LT T x)) = true ↔ ClT T c := by
  rw [List.any_eq_true]
  constructor
  · rintro ⟨x, hx, h⟩
    obtain ⟨j, hj, rfl⟩ := List.getElem_of_mem hx
    exact ⟨j, hj, by rw [rd_lt hj]; simpa using h⟩
  · rintro ⟨j, hj, h⟩
    exact ⟨c[j], List.getElem_mem hj, by rw [rd_lt hj] at h; simpa using h⟩
theorem allB_iff (T : Nat → Bool) (l : List (List Int)) : allB T l = true ↔ AllT T l := by
  unfold allB
  rw [List.all_eq_true]
  constructor
  · intro h j hj
    exact (any_iff T _).mp (h _ (rows_mem hj))
  · intro h c hc
    obtain ⟨j, hj, rfl⟩ := List.getElem_of_mem hc
    have := h j hj
    rw [rows_lt hj] at this
    exact (any_iff T _).mpr this
def visit {σ : Type} (step : σ → Int → Bool × σ) : List Nat → σ → σ
  | [], s => s
  | r :: rs, s => if (step s (r : Int)).1 = true then visit step rs (step s (r : Int)).2 else (step s (r : Int)).2
def rowsOf (l : List (List Int)) : Nat → Nat → List Nat
  | 0, _ => []
  | d + 1, r => if allB (TR r) l = true then r :: rowsOf l d (r + 1) else rowsOf l d (r + 1)
theorem mem_rowsOf (l : List (List Int)) : ∀ (d a r : Nat), r ∈ rowsOf l d a ↔ (a ≤ r ∧ r < a + d) ∧ AllT (TR r) l := by
  intro d
  induction d with
  | zero => intro a r; simp [rowsOf]; omega
  | succ d ih =>
    intro a r
    unfold rowsOf
    by_cases h : allB (TR a) l = true
    · rw [if_pos h, List.mem_cons, ih]
      constructor
      · rintro (rfl | ⟨h1, h2⟩)
        · exact ⟨by omega, (allB_iff _ _).mp h⟩
        · exact ⟨by omega, h2⟩
      · rintro ⟨h1, h2⟩
        by_cases e : r = a
        · exact Or.inl e
        · exact Or.inr ⟨by omega, h2⟩
    · rw [if_neg h, ih]
      constructor
      · rintro ⟨h1, h2⟩
        exact ⟨by omega, h2⟩
      · rintro ⟨h1, h2⟩
        have : r ≠ a := fun e => by subst e; exact h ((allB_iff _ _).mpr h2)
        exact ⟨by omega, h2⟩
theorem models_row {σ : Type} (step : σ → Int → Bool × σ) (n : Nat) (hn : n ≤ 20) (s : σ) (l : List (List Int)) (hl : AllLits n l) (x6 x7 : List Int) (h6 : x6.length = l.length) (h7 : x7.length = l.length)
    (hx : ∀ j : Nat, j < l.length → (∃ Y, PosOk n (rd_L1 l (j : Int)) (rd_L1 l (j : Int)).length (rd x6 (j : Int)) Y) ∧ ∃ Z, NegOk n (rd_L1 l (j : Int)) (rd_L1 l (j : Int)).length (rd x7 (j : Int)) Z) (N : Int) (r : Nat) (hr : r < 2 ^ n) :
    ∀ (d i : Nat), i + d = l.length → (∀ j : Nat, j < i → ClT (TR r) (rd_L1 l (j : Int))) →
      (allB (TR r) l = false → ∀ q, Ev (fun k => impl_models.l2 step k s l x6 x7 N ((r + 1 : Nat) : Int)) q → Ev (fun k => impl_models.l3 step k s l x6 x7 (r : Int) N (r : Int) (l.length : Int) (i : Int)) q) ∧
      (allB (TR r) l = true → ∀ q, Ev (fun k => if (step s (r : Int)).1 = true then impl_models.l2 step k (step s (r : Int)).2 l x6 x7 N ((r + 1 : Nat) : Int) else some (step s (r : Int)).2) q → Ev (fun k => impl_models.l3 step k s l x6 x7 (r : Int) N (r : Int) (l.length : Int) (i : Int)) q) := by
  have hll := hl.1
  have h20 := two20 hn
  have hwr := wsucc r (by omega)
  intro d
  induction d with
  | zero =>
    intro i hi h
    refine ⟨fun hb => ?_, fun hb q hq => Ev.step (Ev.neg (by omega) ?_) (fun k => impl_models.l3.eq_2 ..)⟩
    · have : AllT (TR r) l := fun j hj => h j (by omega)
      rw [(allB_iff _ _).mpr this] at hb
      cases hb
    · rw [hwr]
      exact hq
  | succ d ih =>
    intro i hi h
    have hwi := wsucc i (by omega)
    have hlt : i < l.length := by omega
    obtain ⟨⟨Y, hY⟩, ⟨Z, hZ⟩⟩ := hx i hlt
    have hf := clause_false hn (hl.2 i hlt) hY hZ hr
    by_cases hc : ClT (TR r) (rd_L1 l (i : Int))
    · have hi2 := ih (i + 1) (by omega) (fun j hj => by
        rcases Nat.lt_succ_iff_lt_or_eq.mp hj with h2 | rfl
        · exact h j h2
        · exact hc)
      have st : ∀ q, Ev (fun k => impl_models.l3 step k s l x6 x7 (r : Int) N (r : Int) (l.length : Int) ((i + 1 : Nat) : Int)) q → Ev (fun k => impl_models.l3 step k s l x6 x7 (r : Int) N (r : Int) (l.length : Int) (i : Int)) q := by
        intro q hq
        refine Ev.step ?_ (fun k => impl_models.l3.eq_2 ..)
        rw [hwi]
        by_cases h1 : Go.bits .and .i64 (r : Int) (rd x6 (i : Int)) = 0
        · have h2 : ¬ Go.bits .and .i64 (Go.bits .xor .i64 (-1) (r : Int)) (rd x7 (i : Int)) = 0 := fun h2 => (hf.mp ⟨h1, h2⟩) hc
          exact Ev.pos (by omega) (Ev.pos (by omega) (Ev.pos (by omega) (Ev.pos h1 (Ev.pos (by omega) (Ev.neg h2 hq)))))
        · exact Ev.pos (by omega) (Ev.pos (by omega) (Ev.pos (by omega) (Ev.neg h1 hq)))
      exact ⟨fun hb q hq => st q (hi2.1 hb q hq), fun hb q hq => st q (hi2.2 hb q hq)⟩
    · obtain ⟨h1, h2⟩ := hf.mpr hc
      refine ⟨fun hb q hq => Ev.step ?_ (fun k => impl_models.l3.eq_2 ..), fun hb => absurd ((allB_iff _ _).mp hb i hlt) hc⟩
      rw [hwr]
      exact Ev.pos (by omega) (Ev.pos (by omega) (Ev.pos (by omega) (Ev.pos h1 (Ev.pos (by omega) (Ev.pos h2 hq)))))
theorem models_rows {σ : Type} (step : σ → Int → Bool × σ) (n : Nat) (hn : n ≤ 20) (l : List (List Int)) (hl : AllLits n l) (x6 x7 : List Int) (h6 : x6.length = l.length) (h7 : x7.length = l.length)
    (hx : ∀ j : Nat, j < l.length → (∃ Y, PosOk n (rd_L1 l (j : Int)) (rd_L1 l (j : Int)).length (rd x6 (j : Int)) Y) ∧ ∃ Z, NegOk n (rd_L1 l (j : Int)) (rd_L1 l (j : Int)).length (rd x7 (j : Int)) Z) :
    ∀ (d r : Nat) (s : σ), r + d = 2 ^ n → Ev (fun k => impl_models.l2 step k s l x6 x7 ((2 ^ n : Nat) : Int) (r : Int)) (visit step (rowsOf l d r) s) := by
  intro d
  induction d with
  | zero =>
    intro r s hr
    exact Ev.step (Ev.neg (by omega) (Ev.val _)) (fun k => impl_models.l2.eq_2 ..)
  | succ d ih =>
    intro r s hr
    obtain ⟨m1, m2⟩ := models_row step n hn s l hl x6 x7 h6 h7 hx ((2 ^ n : Nat) : Int) r (by omega) l.length 0 (by omega) (fun j hj => by omega)
    refine Ev.step (Ev.pos (by omega) ?_) (fun k => impl_models.l2.eq_2 ..)
    unfold rowsOf
    cases hb : allB (TR r) l with
    | false =>
      rw [if_neg (by decide)]
      exact m1 hb _ (ih (r + 1) s (by omega))
    | true =>
      rw [if_pos rfl]
      unfold visit
      refine m2 hb _ ?_
      by_cases hs : (step s (r : Int)).1 = true
      · rw [if_pos hs]
        exact Ev.pos hs (ih (r + 1) _ (by omega))
      · rw [if_neg hs]
        exact Ev.neg hs (Ev.val _)
theorem models_run {σ : Type} (step : σ → Int → Bool × σ) (n : Nat) (hn : n ≤ 20) (s : σ) (l : List (List Int)) (hl : AllLits n l) : Ev (fun k => impl_models.f step k s (n : Int) l) (visit step (rowsOf l (2 ^ n) 0) s) := by
  have hll := hl.1
  unfold impl_models.f
  rw [Int.toNat_natCast]
  have hz : ∀ j : Nat, rd (List.replicate l.length (0 : Int)) (j : Int) = 0 := by
    intro j
    rw [rd_nat, List.getD_eq_getElem?_getD, List.getElem?_replicate]
    split <;> rfl
  obtain ⟨x6', x7', e1, e2, e3, e4⟩ := models_outer step n hn s l hl l.length 0 (List.replicate l.length 0) (List.replicate l.length 0) (by omega) (by simp) (by simp) (fun j hj => by omega) (fun j _ _ => ⟨hz j, hz j⟩)
  exact Ev.pos (by omega) (Ev.pos (by omega) (e4 _ (models_rows step n hn l hl x6' x7' e1 e2 e3 (2 ^ n) 0 s (by omega))))
theorem lt_row {n r : Nat} {T : Nat → Bool} (h : ∀ i, i < n → r.testBit i = T (i + 1)) {x : Int} (hx : LitOk (n : Int) x) : LT (TR r) x ↔ LT T x := by
  obtain ⟨h0, h1, h2⟩ := hx
  unfold LT TR
  have := h (x.natAbs - 1) (by omega)
  rw [Nat.sub_add_cancel (by omega)] at this
  rw [this]
theorem all_row {n : Nat} {l : List (List Int)} (hl : AllLits n l) {r : Nat} {T : Nat → Bool} (h : ∀ i, i < n → r.testBit i = T (i + 1)) : AllT (TR r) l ↔ AllT T l := by
  constructor
  · intro ha j hj
    obtain ⟨i, i1, i2⟩ := ha j hj
    exact ⟨i, i1, (lt_row h ((hl.2 j hj).2 i i1)).mp i2⟩
  · intro ha j hj
    obtain ⟨i, i1, i2⟩ := ha j hj
    exact ⟨i, i1, (lt_row h ((hl.2 j hj).2 i i1)).mpr i2⟩
theorem row_exists {n : Nat} {l : List (List Int)} (hl : AllLits n l) : (∃ T, AllT T l) ↔ ∃ r, r ∈ rowsOf l (2 ^ n) 0 := by
  constructor
  · rintro ⟨T, h⟩
    obtain ⟨r, h1, h2⟩ := bits_of n (fun i => T (i + 1))
    exact ⟨r, (mem_rowsOf _ _ _ _).mpr ⟨by omega, (all_row hl h2).mpr h⟩⟩
  · rintro ⟨r, h⟩
    exact ⟨_, ((mem_rowsOf _ _ _ _).mp h).2⟩
theorem sat_dec (n : Nat) (hn : n ≤ 20) (l : List (List Int)) (hl : AllLits n l) : Dec (fun k => impl_satisfiable.f k (n : Int) l) (∃ T, AllT T l) := by
  refine ⟨_, models_run (fun (_ : Bool) (_ : Int) => (false, true)) n hn false l hl, ?_⟩
  rw [row_exists hl]
  cases h : rowsOf l (2 ^ n) 0 with
  | nil => simp [visit]
  | cons r rs => simp [visit]
/-! #### what follows from clauses -/
theorem all_lits (n : Nat) (L : List (List Int)) (hL : Small L) (h : ClausesOk (n : Int) L) : AllLits n L := ⟨hL.1, fun i hi => clause_lits (h.2.2 i hi) (hL.2 i hi)⟩
/-- The reference's marks of a list of literals that has each atom at most once. -/
theorem marks_loop (n : Nat) (hn : n ≤ 700) (c : List Int) (hcl : c.length ≤ 1048576) (hc : ∀ j : Nat, j < c.length → LitOk (n : Int) (rd c (j : Int))) (hd : ∀ i j : Nat, j < i → i < c.length → (rd c (j : Int)).natAbs ≠ (rd c (i : Int)).natAbs) :
    ∀ (d i : Nat) (v : List Int), i + d = c.length → VOk n v → (∀ a : Nat, a ≤ n → (rd v (a : Int) ≠ 0 ↔ ∃ j : Nat, j < i ∧ (rd c (j : Int)).natAbs = a)) → (∀ j : Nat, j < i → rd v (((rd c (j : Int)).natAbs : Nat) : Int) = rd c (j : Int)) →
      ∃ v', Ev (fun k => spec_l11Given.l0 k c v (i : Int)) v' ∧ VOk n v' ∧ (∀ a : Nat, a ≤ n → (rd v' (a : Int) ≠ 0 ↔ ∃ j : Nat, j < c.length ∧ (rd c (j : Int)).natAbs = a)) ∧ (∀ j : Nat, j < c.length → rd v' (((rd c (j : Int)).natAbs : Nat) : Int) = rd c (j : Int)) := by
  intro d
  induction d with
  | zero =>
    intro i v hi hv h1 h2
    have : i = c.length := by omega
    subst this
    exact ⟨v, Ev.step (Ev.neg (by omega) (Ev.val _)) (fun k => spec_l11Given.l0.eq_2 ..), hv, h1, h2⟩
  | succ d ih =>
    intro i v hi hv h1 h2
    have hwi := wsucc i (by omega)
    have hvl := hv.1
    obtain ⟨hx0, hx1, hx2⟩ := hc i (by omega)
    obtain ⟨v', e1, e2⟩ := ih (i + 1) (v.set (rd c (i : Int)).natAbs (rd c (i : Int))) (by omega) (vok_set hv ⟨hx0, hx1, hx2⟩) (fun a ha => by
      by_cases e : (rd c (i : Int)).natAbs = a
      · subst e
        rw [rd_set_eq (by omega)]
        exact ⟨fun _ => ⟨i, by omega, rfl⟩, fun _ => hx0⟩
      · rw [rd_set_ne e, h1 a ha]
        constructor
        · rintro ⟨j, j1, j2⟩
          exact ⟨j, by omega, j2⟩
        · rintro ⟨j, j1, j2⟩
          rcases Nat.lt_succ_iff_lt_or_eq.mp j1 with h | rfl
          · exact ⟨j, h, j2⟩
          · exact absurd j2 e) (fun j hj => by
      rcases Nat.lt_succ_iff_lt_or_eq.mp hj with h | rfl
      · rw [rd_set_ne (fun e => hd i j h (by omega) e.symm)]
        exact h2 j h
      · rw [rd_set_eq (by omega)])
    refine ⟨v', Ev.step ?_ (fun k => spec_l11Given.l0.eq_2 ..), e2⟩
    rw [hwi]
    refine Ev.pos (by omega) (Ev.pos (by omega) (Ev.bind (spec_abs (by omega) (by omega)) (Ev.pos (absI_pos _) (Ev.pos (by rw [absN]; omega) ?_))))
    rw [absN, Int.toNat_natCast]
    exact e1
theorem vok_zeros (n : Nat) : VOk n (List.replicate (n + 1) 0) := ⟨by simp, fun a ha => Or.inl (rd_zeros (n + 1) a (by omega))⟩
/-- The marks of a list of literals, each atom once: consistent just with what makes them all true. -/
theorem given_sem (n : Nat) (hn : n ≤ 700) (c : List Int) (hcl : c.length ≤ 1048576) (hc : ∀ j : Nat, j < c.length → LitOk (n : Int) (rd c (j : Int))) (hd : ∀ i j : Nat, j < i → i < c.length → (rd c (j : Int)).natAbs ≠ (rd c (i : Int)).natAbs) :
    ∃ v, Ev (fun k => spec_l11Given.f k c (n : Int)) v ∧ VOk n v ∧ ∀ T, Cons n T v ↔ ∀ j : Nat, j < c.length → LT T (rd c (j : Int)) := by
  have hwn : wrap64 ((n : Int) + 1) = ((n + 1 : Nat) : Int) := wsucc n (by omega)
  obtain ⟨v, e1, e2, e3, e4⟩ := marks_loop n hn c hcl hc hd c.length 0 (List.replicate (n + 1) 0) (by omega) (vok_zeros n) (fun a ha => by
    rw [rd_zeros (n + 1) a (by omega)]
    simp) (fun j hj => by omega)
  refine ⟨v, ?_, e2, fun T => ⟨fun h j hj => ?_, fun h a ha hz => ?_⟩⟩
  · unfold spec_l11Given.f
    rw [hwn, Int.toNat_natCast]
    exact Ev.pos (by omega) (Ev.pos (by omega) e1)
  · obtain ⟨hx0, hx1, hx2⟩ := hc j hj
    have := h (rd c (j : Int)).natAbs (by omega) (by rw [e4 j hj]; exact hx0)
    rwa [e4 j hj] at this
  · obtain ⟨j, j1, j2⟩ := (e3 a ha).mp hz
    rw [← j2, e4 j j1]
    exact h j j1
theorem can_dec (n : Nat) (hn : n ≤ 700) (L : List (List Int)) (hL : AllLits n L) (c : List Int) (hcl : c.length ≤ 1048576) (hc : ∀ j : Nat, j < c.length → LitOk (n : Int) (rd c (j : Int))) (hd : ∀ i j : Nat, j < i → i < c.length → (rd c (j : Int)).natAbs ≠ (rd c (i : Int)).natAbs) :
    Dec (fun k => spec_l12Can.f k (n : Int) L c) (∃ T, AllT T L ∧ ∀ j : Nat, j < c.length → LT T (rd c (j : Int))) := by
  obtain ⟨v, e1, e2, e3⟩ := given_sem n hn c hcl hc hd
  obtain ⟨b, h1, h2⟩ := open_sem n hn L hL (v.count 0 + 1) v (by omega) e2
  refine ⟨b, ?_, h2.trans ?_⟩
  · unfold spec_l12Can.f
    exact Ev.bind e1 (Ev.bind h1 (Ev.val _))
  · unfold Can
    constructor
    · rintro ⟨T, t1, t2⟩
      exact ⟨T, t1, (e3 T).mp t2⟩
    · rintro ⟨T, t1, t2⟩
      exact ⟨T, t1, (e3 T).mpr t2⟩
theorem few_spec (n : Int) (L : List (List Int)) (hL : Small L) : Dec (fun k => spec_l12Few.f k n L) (ClausesOk n L ∧ n ≤ 20) := by
  obtain ⟨b, h1, h2⟩ := spec_clauses n L hL
  unfold spec_l12Few.f
  cases b with
  | false => exact Dec.no (Ev.bind h1 (Ev.neg (by decide) (Ev.val _))) (fun h => by simpa using h2.mpr h.1)
  | true => exact ⟨decide (n ≤ 20), Ev.bind h1 (Ev.pos rfl (Ev.val _)), by rw [decide_eq_true_eq]; exact ⟨fun h => ⟨h2.mp rfl, h⟩, fun h => h.2⟩⟩
theorem few_impl (n : Int) (L : List (List Int)) (hL : Small L) : Dec (fun k => impl_freeOk.f k n L) (ClausesOk n L ∧ n ≤ 20) := by
  obtain ⟨b, h1, h2⟩ := impl_clauses n L hL
  unfold impl_freeOk.f
  cases b with
  | false => exact Dec.no (Ev.bind h1 (Ev.neg (by decide) (Ev.val _))) (fun h => by simpa using h2.mpr h.1)
  | true => exact ⟨decide (n ≤ 20), Ev.bind h1 (Ev.pos rfl (Ev.val _)), by rw [decide_eq_true_eq]; exact ⟨fun h => ⟨h2.mp rfl, h⟩, fun h => h.2⟩⟩
/-! #### how many rows make clauses true -/
def consB (n : Nat) (v : List Int) (T : Nat → Bool) : Bool := (List.range (n + 1)).all fun a => rd v (a : Int) == 0 || decide (LT T (rd v (a : Int)))
theorem consB_iff (n : Nat) (v : List Int) (T : Nat → Bool) : consB n v T = true ↔ Cons n T v := by
  unfold consB Cons
  rw [List.all_eq_true]
  constructor
  · intro h a ha hz
    have := h a (List.mem_range.mpr (by omega))
    simp only [Bool.or_eq_true, beq_iff_eq, decide_eq_true_eq] at this
    rcases this with h2 | h2
    · exact absurd h2 hz
    · exact h2
  · intro h a ha
    have ha' := List.mem_range.mp ha
    simp only [Bool.or_eq_true, beq_iff_eq, decide_eq_true_eq]
    by_cases hz : rd v (a : Int) = 0
    · exact Or.inl hz
    · exact Or.inr (h a (by omega) hz)
/-- How many of some rows are consistent with marks. -/
def cnt (n : Nat) (v : List Int) (M : List Nat) : Nat := M.countP fun r => consB n v (TR r)
theorem cnt_none (n : Nat) (v : List Int) (M : List Nat) (h : ∀ r ∈ M, ¬ Cons n (TR r) v) : cnt n v M = 0 := by
  unfold cnt
  rw [List.countP_eq_zero]
  intro r hr
  rw [consB_iff]
  exact h r hr
theorem cnt_same (n : Nat) (v v' : List Int) (M : List Nat) (h : ∀ r ∈ M, Cons n (TR r) v ↔ Cons n (TR r) v') : cnt n v M = cnt n v' M := by
  unfold cnt
  apply List.countP_congr
  intro r hr
  rw [consB_iff, consB_iff]
  exact h r hr
theorem cnt_split (n : Nat) (v a b : List Int) : ∀ (M : List Nat), (∀ r ∈ M, Cons n (TR r) v ↔ Cons n (TR r) a ∨ Cons n (TR r) b) → (∀ r ∈ M, ¬ (Cons n (TR r) a ∧ Cons n (TR r) b)) → cnt n v M = cnt n a M + cnt n b M := by
  intro M
  induction M with
  | nil => intro _ _; rfl
  | cons r M ih =>
    intro h1 h2
    have hi := ih (fun q hq => h1 q (List.mem_cons_of_mem _ hq)) (fun q hq => h2 q (List.mem_cons_of_mem _ hq))
    have e1 := h1 r List.mem_cons_self
    have e2 := h2 r List.mem_cons_self
    unfold cnt at hi ⊢
    rw [List.countP_cons, List.countP_cons, List.countP_cons, hi]
    by_cases ha : Cons n (TR r) a
    · have hb : ¬ Cons n (TR r) b := fun hb => e2 ⟨ha, hb⟩
      rw [if_pos ((consB_iff _ _ _).mpr (e1.mpr (Or.inl ha))), if_pos ((consB_iff _ _ _).mpr ha), if_neg (fun h => hb ((consB_iff _ _ _).mp h))]
      omega
    · by_cases hb : Cons n (TR r) b
      · rw [if_pos ((consB_iff _ _ _).mpr (e1.mpr (Or.inr hb))), if_neg (fun h => ha ((consB_iff _ _ _).mp h)), if_pos ((consB_iff _ _ _).mpr hb)]
        omega
      · rw [if_neg (fun h => (e1.mp ((consB_iff _ _ _).mp h)).elim ha hb), if_neg (fun h => ha ((consB_iff _ _ _).mp h)), if_neg (fun h => hb ((consB_iff _ _ _).mp h))]
        omega
theorem rowsOf_nodup (l : List (List Int)) : ∀ (d a : Nat), (rowsOf l d a).Nodup := by
  intro d
  induction d with
  | zero => intro a; exact List.nodup_nil
  | succ d ih =>
    intro a
    unfold rowsOf
    split
    · rw [List.nodup_cons]
      exact ⟨fun h => by have := ((mem_rowsOf _ _ _ _).mp h).1.1; omega, ih _⟩
    · exact ih _
theorem rowsOf_length (l : List (List Int)) : ∀ (d a : Nat), (rowsOf l d a).length ≤ d := by
  intro d
  induction d with
  | zero => intro a; simp [rowsOf]
  | succ d ih =>
    intro a
    unfold rowsOf
    split
    · have := ih (a + 1); simp; omega
    · have := ih (a + 1); omega
theorem count_one (p : Nat → Bool) : ∀ (M : List Nat) (r : Nat), M.Nodup → r ∈ M → (∀ q ∈ M, p q = true ↔ q = r) → M.countP p = 1 := by
  intro M
  induction M with
  | nil => intro r _ h; cases h
  | cons q M ih =>
    intro r hn hr hp
    rw [List.nodup_cons] at hn
    rw [List.countP_cons]
    by_cases e : q = r
    · subst e
      rw [if_pos ((hp q List.mem_cons_self).mpr rfl)]
      have : M.countP p = 0 := by
        rw [List.countP_eq_zero]
        intro x hx hpx
        have := (hp x (List.mem_cons_of_mem _ hx)).mp hpx
        subst this
        exact hn.1 hx
      omega
    · have hr2 : r ∈ M := by
        rcases List.mem_cons.mp hr with h | h
        · exact absurd h.symm e
        · exact h
      rw [ih r hn.2 hr2 (fun x hx => hp x (List.mem_cons_of_mem _ hx)), if_neg (fun h => e ((hp q List.mem_cons_self).mp h))]
/-- Marks without a gap: one row. -/
theorem cnt_full {n : Nat} {l : List (List Int)} (hl : AllLits n l) {v : List Int} (hv : VOk n v) (hf : ∀ j : Nat, j < l.length → Fine v (rd_L1 l (j : Int))) (hz : ∀ b : Nat, 1 ≤ b → b ≤ n → rd v (b : Int) ≠ 0) : cnt n v (rowsOf l (2 ^ n) 0) = 1 := by
  obtain ⟨T, hT, hC⟩ := full_can hl hv hf hz
  obtain ⟨r, hr, hrT⟩ := bits_of n (fun i => T (i + 1))
  have hlit : ∀ a : Nat, 1 ≤ a → a ≤ n → LitOk (n : Int) (rd v (a : Int)) ∧ (rd v (a : Int)).natAbs = a := by
    intro a h1 h2
    rcases hv.2 a h2 with h | ⟨_, h | h⟩
    · exact absurd h (hz a h1 h2)
    · exact ⟨⟨by omega, by omega, by omega⟩, by omega⟩
    · exact ⟨⟨by omega, by omega, by omega⟩, by omega⟩
  have h0 : rd v ((0 : Nat) : Int) = 0 := by
    rcases hv.2 0 (by omega) with h | h
    · exact h
    · omega
  have hcons : ∀ q : Nat, Cons n (TR q) v ↔ ∀ i, i < n → q.testBit i = T (i + 1) := by
    intro q
    constructor
    · intro h i hi
      obtain ⟨⟨x0, x1, x2⟩, x3⟩ := hlit (i + 1) (by omega) (by omega)
      have h1 := h (i + 1) (by omega) x0
      have h2 := hC (i + 1) (by omega) x0
      unfold LT TR at h1
      unfold LT at h2
      rw [x3] at h1 h2
      rw [Nat.add_sub_cancel] at h1
      split at h1
      · rename_i hp
        rw [if_pos hp] at h2
        rw [h1, h2]
      · rename_i hp
        rw [if_neg hp] at h2
        rw [h1, h2]
    · intro h a ha hz2
      rcases Nat.eq_zero_or_pos a with rfl | hp
      · exact absurd h0 hz2
      · exact (lt_row h (hlit a hp ha).1).mpr (hC a ha hz2)
  unfold cnt
  refine count_one _ _ r (rowsOf_nodup l _ _) ((mem_rowsOf _ _ _ _).mpr ⟨by omega, (all_row hl hrT).mpr hT⟩) (fun q hq => ?_)
  have hq2 := ((mem_rowsOf _ _ _ _).mp hq).1
  rw [consB_iff, hcons]
  constructor
  · intro h
    apply Nat.eq_of_testBit_eq
    intro i
    rcases Nat.lt_or_ge i n with hi | hi
    · rw [h i hi, hrT i hi]
    · have e1 : 2 ^ n ≤ 2 ^ i := Nat.pow_le_pow_right (by decide) hi
      rw [Nat.testBit_lt_two_pow (by omega), Nat.testBit_lt_two_pow (by omega)]
  · rintro rfl
    exact hrT
theorem models_sem (n : Nat) (hn : n ≤ 20) (l : List (List Int)) (hl : AllLits n l) (N : Int) : ∀ (z : Nat) (v : List Int), v.count 0 < z → VOk n v → Ev (fun k => spec_l12Models.f k N l v) ((cnt n v (rowsOf l (2 ^ n) 0) : Nat) : Int) := by
  have h20 := two20 hn
  have hlen := rowsOf_length l (2 ^ n) 0
  have hle : ∀ v, cnt n v (rowsOf l (2 ^ n) 0) ≤ 1048576 := fun v => by
    have := List.countP_le_length (p := fun r => consB n v (TR r)) (l := rowsOf l (2 ^ n) 0)
    unfold cnt
    omega
  intro z
  induction z with
  | zero => intro v hz; omega
  | succ z ih =>
    intro v hz hv
    have hvl := hv.1
    obtain ⟨b, v', e1, hF⟩ := force_sem n (by omega) l hl v hv
    have hv' := hF.ok
    have hvl' := hv'.1
    have hcnt := forces_count hv hF
    have hsat : ∀ r ∈ rowsOf l (2 ^ n) 0, AllT (TR r) l := fun r hr => ((mem_rowsOf _ _ _ _).mp hr).2
    have hsame : b = true → cnt n v (rowsOf l (2 ^ n) 0) = cnt n v' (rowsOf l (2 ^ n) 0) := fun hb => cnt_same n v v' _ (fun r hr => ⟨fun h => (hF.sound _ (hsat r hr) h).2, fun h a ha hz2 => by
      have e := hF.ext a ha hz2
      rw [← e]
      exact h a ha (by rw [e]; exact hz2)⟩)
    have st : ∀ q, Ev (fun k => if b = true then ((spec_l12Next.f k v').bind fun t367 => if t367 = 0 then some 1 else ((spec_l3Copy.f k v').bind fun t368 => if 0 ≤ t367 then (if t367 < (t368.length : Int) then (if t367 < (v.length : Int) then ((spec_l12Models.f k N l (t368.set (t367 : Int).toNat (wrap64 (-t367)))).bind fun t373 => (spec_l12Models.f k N l (v'.set (t367 : Int).toNat t367)).bind fun t374 => some (wrap64 (t373 + t374))) else none) else none) else none)) else some 0) q → Ev (fun k => spec_l12Models.f k N l v) q := by
      intro q hq
      refine Ev.step ?_ (fun k => spec_l12Models.f.eq_2 ..)
      exact Ev.bind (copy_ints v (by omega)) (Ev.bind e1 hq)
    cases b with
    | false =>
      rw [cnt_none n v _ (fun r hr h => by have := (hF.sound _ (hsat r hr) h).1; cases this)]
      exact st _ (Ev.neg (by decide) (Ev.val _))
    | true =>
      rw [hsame rfl]
      rcases next_sem n (by omega) v' hvl' with ⟨a1, a2⟩ | ⟨m, m1, m2, m3, a1⟩
      · rw [cnt_full hl hv' (hF.fine rfl) a2]
        exact st _ (Ev.pos rfl (Ev.bind a1 (Ev.pos rfl (Ev.val _))))
      · have hlow : LitOk (n : Int) (-(m : Int)) := ⟨by omega, by omega, by omega⟩
        have hhigh : LitOk (n : Int) (m : Int) := ⟨by omega, by omega, by omega⟩
        have nl : (-(m : Int)).natAbs = m := by omega
        have nh : ((m : Int)).natAbs = m := by omega
        have vl := vok_set hv' hlow
        have vh := vok_set hv' hhigh
        have cl := fun T => cons_set (T := T) hvl' hlow (by rw [nl]; exact m3)
        have ch := fun T => cons_set (T := T) hvl' hhigh (by rw [nh]; exact m3)
        rw [nl] at vl
        rw [nh] at vh
        simp only [nl] at cl
        simp only [nh] at ch
        have z1 := zeros_set (x := -(m : Int)) (a := m) (v := v') (by omega) m3 (by omega)
        have z2 := zeros_set (x := (m : Int)) (a := m) (v := v') (by omega) m3 (by omega)
        have f1 := ih (v'.set m (-(m : Int))) (by omega) vl
        have g1 := ih (v'.set m (m : Int)) (by omega) vh
        have hw : wrap64 (-(m : Int)) = -(m : Int) := wneg (by omega) (by omega)
        rw [cnt_split n v' (v'.set m (-(m : Int))) (v'.set m (m : Int)) _ (fun r _ => by
          rw [cl, ch]
          constructor
          · intro h
            by_cases hm : LT (TR r) (m : Int)
            · exact Or.inr ⟨h, hm⟩
            · exact Or.inl ⟨h, (lt_neg (by omega)).mpr hm⟩
          · rintro (h | h)
            · exact h.1
            · exact h.1) (fun r _ => by
          rw [cl, ch]
          rintro ⟨h1, h2⟩
          exact (lt_neg (by omega)).mp h1.2 h2.2)]
        have k1 := hle (v'.set m (-(m : Int)))
        have k2 := hle (v'.set m (m : Int))
        refine st _ (Ev.pos rfl (Ev.bind a1 (Ev.neg (by omega) (Ev.bind (copy_ints v' (by omega)) (Ev.pos (by omega) (Ev.pos (by omega) (Ev.pos (by omega) ?_)))))))
        rw [hw, Int.toNat_natCast]
        refine Ev.bind f1 (Ev.bind g1 (Ev.valEq ?_))
        rw [w_id (by omega) (by omega)]
        omega
theorem visit_all {σ : Type} (step : σ → Int → Bool × σ) (hs : ∀ s x, (step s x).1 = true) : ∀ (M : List Nat) (s : σ), visit step M s = M.foldl (fun (s : σ) (r : Nat) => (step s (r : Int)).2) s := by
  intro M
  induction M with
  | nil => intro s; rfl
  | cons r M ih =>
    intro s
    unfold visit
    rw [if_pos (hs s _), ih]
    rfl
theorem count_fold : ∀ (M : List Nat) (s : Nat), s + M.length ≤ 4611686018427387904 → M.foldl (fun (s : Int) (_ : Nat) => wrap64 (s + 1)) (s : Int) = ((s + M.length : Nat) : Int) := by
  intro M
  induction M with
  | nil => intro s _; rfl
  | cons r M ih =>
    intro s h
    simp only [List.length_cons] at h ⊢
    rw [List.foldl_cons, wsucc s (by omega), ih (s + 1) (by omega)]
    omega
/-- The rows that make clauses of few atoms true. -/
def rowsN (n : Nat) (L : List (List Int)) : List Nat := rowsOf L (2 ^ n) 0
def FewOk (n : Int) (L : List (List Int)) : Prop := ClausesOk n L ∧ n ≤ 20
theorem count_yes (n : Nat) (L : List (List Int)) (hL : Small L) (h : FewOk (n : Int) L) : Ev (fun k => spec_CountModels.f k (n : Int) L) (((rowsN n L).length : Nat) : Int) ∧ Ev (fun k => impl_CountModels.f k (n : Int) L) (((rowsN n L).length : Nat) : Int) := by
  have hn := h.2
  have h20 := two20 (n := n) (by omega)
  have hlen := rowsOf_length L (2 ^ n) 0
  have hAL := all_lits n L hL h.1
  have hwn : wrap64 ((n : Int) + 1) = ((n + 1 : Nat) : Int) := wsucc n (by omega)
  obtain ⟨b, b1, b2⟩ := few_spec (n : Int) L hL
  obtain rfl : b = true := b2.mpr h
  obtain ⟨c, c1, c2⟩ := few_impl (n : Int) L hL
  obtain rfl : c = true := c2.mpr h
  constructor
  · unfold spec_CountModels.f
    rw [hwn, Int.toNat_natCast]
    have := models_sem n (by omega) L hAL (n : Int) ((List.replicate (n + 1) (0 : Int)).count 0 + 1) (List.replicate (n + 1) 0) (by omega) (vok_zeros n)
    have e : cnt n (List.replicate (n + 1) 0) (rowsOf L (2 ^ n) 0) = (rowsN n L).length := by
      unfold cnt rowsN
      rw [List.countP_eq_length]
      intro r _
      rw [consB_iff]
      intro a ha hz
      exact absurd (rd_zeros (n + 1) a (by omega)) hz
    rw [e] at this
    exact Ev.bind b1 (Ev.pos rfl (Ev.pos (by omega) (Ev.pos (by omega) (Ev.bind this (Ev.val _)))))
  · unfold impl_CountModels.f
    refine Ev.bind c1 (Ev.pos rfl ?_)
    have := models_run (fun (n : Int) (_ : Int) => (true, wrap64 (n + 1))) n (by omega) 0 L hAL
    rw [visit_all _ (fun _ _ => rfl)] at this
    have e := count_fold (rowsOf L (2 ^ n) 0) 0 (by omega)
    rw [Nat.zero_add] at e
    exact Ev.to this e
theorem count_no (n : Int) (L : List (List Int)) (hL : Small L) (h : ¬ FewOk n L) : Ev (fun k => spec_CountModels.f k n L) (-1) ∧ Ev (fun k => impl_CountModels.f k n L) (-1) := by
  obtain ⟨b, b1, b2⟩ := few_spec n L hL
  have hb : b = false := by
    cases b with
    | false => rfl
    | true => exact absurd (b2.mp rfl) h
  subst hb
  obtain ⟨c, c1, c2⟩ := few_impl n L hL
  have hc : c = false := by
    cases c with
    | false => rfl
    | true => exact absurd (c2.mp rfl) h
  subst hc
  unfold spec_CountModels.f impl_CountModels.f
  exact ⟨Ev.bind b1 (Ev.neg (by decide) (Ev.val _)), Ev.bind c1 (Ev.neg (by decide) (Ev.val _))⟩
/-! #### the drawer of numbers -/
def Drawer (b : List Int) : Prop := b.length ≤ 2000 ∧ ∀ j : Nat, j < b.length → 0 ≤ rd b (j : Int) ∧ rd b (j : Int) ≤ 255
theorem xor_nonneg (a c : Int) (ha : 0 ≤ a) (ha2 : a < 4611686018427387904) (hc : 0 ≤ c) (hc2 : c < 4611686018427387904) : 0 ≤ Go.bits .xor .i64 a c := by
  obtain ⟨m, rfl⟩ := Int.eq_ofNat_of_zero_le ha
  obtain ⟨n, rfl⟩ := Int.eq_ofNat_of_zero_le hc
  have hm : m < 2 ^ 62 := by omega
  have hn : n < 2 ^ 62 := by omega
  have hx := Nat.xor_lt_two_pow hm hn
  have hm' : m % 2 ^ 64 = m := Nat.mod_eq_of_lt (by omega)
  have hn' : n % 2 ^ 64 = n := Nat.mod_eq_of_lt (by omega)
  have e : (BitVec.ofInt 64 (m : Int) ^^^ BitVec.ofInt 64 (n : Int)).toNat = m ^^^ n := by
    rw [BitVec.ofInt_natCast, BitVec.ofInt_natCast, BitVec.toNat_xor, BitVec.toNat_ofNat, BitVec.toNat_ofNat, hm', hn']
  have e2 : Go.bits .xor .i64 (m : Int) (n : Int) = IntKind.i64.wrap ((BitVec.ofInt 64 (m : Int) ^^^ BitVec.ofInt 64 (n : Int)).toNat : Int) := rfl
  rw [e2, e, IntKind.wrap_i64]
  omega
theorem tmod_range (x n : Int) (h0 : 0 ≤ x) (hn : 1 ≤ n) : 0 ≤ Int.tmod x n ∧ Int.tmod x n < n := by
  rw [Int.tmod_eq_emod_of_nonneg h0]
  exact ⟨Int.emod_nonneg _ (by omega), Int.emod_lt_of_pos _ (by omega)⟩
theorem pick_tot (b : List Int) (hb : Drawer b) (p n : Int) (hp : 0 ≤ p) (hp2 : p ≤ 1000000) :
    Tot (fun k => spec_l40Rd_pick.f k b p n) (fun r => r.2 = p + 1 ∧ 0 ≤ r.1 ∧ (1 ≤ n → r.1 < n)) := by
  obtain ⟨hl, hbb⟩ := hb
  have w1 : wrap64 (p + 1) = p + 1 := w_id (by omega) (by omega)
  have w2 : wrap64 (p + 1 - 1) = p := by rw [w_id (by omega) (by omega)]; omega
  have byte : ∀ z : Int, 0 ≤ z → z < (b.length : Int) → 0 ≤ rd b z ∧ rd b z ≤ 255 := by
    intro z h0 h1
    obtain ⟨m, rfl⟩ := Int.eq_ofNat_of_zero_le h0
    exact hbb m (by omega)
  unfold spec_l40Rd_pick.f
  rw [w1]
  refine Tot.ite (fun hn => ?_) (fun hn => ?_)
  · refine Tot.step (Tot.pos rfl (Tot.val ?_)) (fun k => spec_l40Rd_pick.j0.eq_2 ..)
    exact ⟨rfl, Int.le_refl _, fun h => by omega⟩
  · refine Tot.step ?_ (fun k => spec_l40Rd_pick.j0.eq_2 ..)
    refine Tot.ite (fun hz => Tot.val ⟨rfl, Int.le_refl _, fun h => by show (0 : Int) < n; omega⟩) (fun hz => ?_)
    have hlen : (b.length : Int) ≠ 0 := by simpa using hz
    rw [w2]
    refine Tot.ite (fun hpl => ?_) (fun hpl => ?_)
    · obtain ⟨y0, y1⟩ := byte p hp hpl
      refine Tot.pos hp (Tot.neg (by omega) (Tot.val ?_))
      rw [w_id (by omega) (by omega)]
      obtain ⟨z0, z1⟩ := tmod_range (rd b p) n y0 (by omega)
      exact ⟨rfl, z0, fun _ => z1⟩
    · obtain ⟨i0, i1⟩ := tmod_range p (b.length : Int) hp (by omega)
      have w3 : wrap64 (p * 7) = p * 7 := w_id (by omega) (by omega)
      have w4 : wrap64 (p * 7 + 3) = p * 7 + 3 := w_id (by omega) (by omega)
      rw [w3, w4]
      obtain ⟨j0, j1⟩ := tmod_range (p * 7 + 3) (b.length : Int) (by omega) (by omega)
      refine Tot.neg (by omega) (Tot.pos i0 (Tot.pos i1 (Tot.pos j0 (Tot.pos j1 (Tot.neg (by omega) (Tot.val ?_))))))
      obtain ⟨u0, u1⟩ := byte _ i0 i1
      obtain ⟨v0, v1⟩ := byte _ j0 j1
      generalize rd b (Int.tmod p (b.length : Int)) = u at u0 u1 ⊢
      generalize rd b (Int.tmod (p * 7 + 3) (b.length : Int)) = v at v0 v1 ⊢
      have q0 : 0 ≤ Int.tdiv p (b.length : Int) ∧ Int.tdiv p (b.length : Int) ≤ p := by
        rw [Int.tdiv_eq_ediv_of_nonneg hp]
        exact ⟨Int.ediv_nonneg hp (by omega), Int.ediv_le_self _ hp⟩
      generalize Int.tdiv p (b.length : Int) = q at q0 ⊢
      rw [w_id (x := u) (by omega) (by omega), w_id (x := v) (by omega) (by omega), w_id (x := q) (by omega) (by omega), w_id (x := u * 131) (by omega) (by omega), w_id (x := v * 1117) (by omega) (by omega),
        w_id (x := p * 29) (by omega) (by omega), w_id (x := q * 53) (by omega) (by omega), w_id (x := u * 131 + v * 1117) (by omega) (by omega), w_id (x := u * 131 + v * 1117 + p * 29) (by omega) (by omega), w_id (x := u * 131 + v * 1117 + p * 29 + q * 53) (by omega) (by omega)]
      generalize hA : u * 131 + v * 1117 + p * 29 + q * 53 = A
      have hA0 : 0 ≤ A ∧ A ≤ 1000000000 := by omega
      have hd : 0 ≤ Int.tdiv A 64 ∧ Int.tdiv A 64 ≤ A := by
        rw [Int.tdiv_eq_ediv_of_nonneg hA0.1]
        omega
      rw [w_id (x := Int.tdiv A 64) (by omega) (by omega)]
      have hx := xor_nonneg A (Int.tdiv A 64) hA0.1 (by omega) hd.1 (by omega)
      obtain ⟨z0, z1⟩ := tmod_range _ n hx (by omega)
      exact ⟨rfl, z0, fun _ => z1⟩
theorem num_tot (b : List Int) (hb : Drawer b) (p : Int) (l : List Int) (hp : 0 ≤ p) (hp2 : p ≤ 1000000) (hl : 1 ≤ l.length) :
    Tot (fun k => spec_l40Rd_num.f k b p l) (fun r => r.2 = p + 1 ∧ r.1 ∈ l) := by
  unfold spec_l40Rd_num.f
  refine Tot.bind (pick_tot b hb p (l.length : Int) hp hp2) ?_
  rintro ⟨x, q⟩ ⟨h1, h2, h3⟩
  have h4 := h3 (by omega)
  refine Tot.pos h2 (Tot.pos h4 (Tot.val ⟨h1, ?_⟩))
  show rd l x ∈ l
  obtain ⟨m, rfl⟩ := Int.eq_ofNat_of_zero_le h2
  rw [rd_lt (by show m < _; simp only at h4; omega)]
  exact List.getElem_mem _
theorem open_tot (code : List Int) (hc : ∀ x ∈ code, (Lit.int .u8 x).wf = true) : ∃ b, spec_l40Open.f code = some (b, 0) ∧ Drawer b := by
  have byte : ∀ b : List Int, (∀ x ∈ b, x ∈ code) → ∀ j : Nat, j < b.length → 0 ≤ rd b (j : Int) ∧ rd b (j : Int) ≤ 255 := by
    intro b hs j hj
    rw [rd_lt hj]
    have := hc _ (hs _ (List.getElem_mem hj))
    simp [Lit.wf, IntKind.min, IntKind.max, IntKind.signed, IntKind.bits] at this
    omega
  unfold spec_l40Open.f
  by_cases c : (code.length : Int) > 2000
  · rw [if_pos c, if_pos (by omega)]
    refine ⟨_, rfl, by simp; omega, byte _ (fun x hx => List.mem_of_mem_take hx)⟩
  · rw [if_neg c]
    exact ⟨_, rfl, by omega, byte _ (fun x hx => hx)⟩
/-! #### drawn clauses: something is drawn, and it isn't great -/
theorem has_tot (l : List Int) (hl : l.length ≤ 1048576) (x : Int) : ∀ (d i : Nat), i + d = l.length → Tot (fun k => spec_l2Has.l0 k l x (i : Int)) (fun b => b = true ↔ ∃ j : Nat, i ≤ j ∧ j < l.length ∧ rd l (j : Int) = x) := by
  intro d
  induction d with
  | zero =>
    intro i hi
    exact Tot.step (Tot.neg (by omega) (Tot.val ⟨(fun h => by cases h), (fun ⟨j, h1, h2, _⟩ => by omega)⟩)) (fun k => spec_l2Has.l0.eq_2 ..)
  | succ d ih =>
    intro i hi
    have hwi := wsucc i (by omega)
    refine Tot.step (Tot.pos (by omega) (Tot.pos (by omega) ?_)) (fun k => spec_l2Has.l0.eq_2 ..)
    rw [hwi]
    refine Tot.ite (fun h => Tot.val ⟨fun _ => ⟨i, Nat.le_refl _, by omega, h⟩, fun _ => rfl⟩) (fun h => (ih (i + 1) (by omega)).mono (fun b hb => hb.trans ?_))
    constructor
    · rintro ⟨j, h1, h2, h3⟩
      exact ⟨j, by omega, h2, h3⟩
    · rintro ⟨j, h1, h2, h3⟩
      rcases Nat.lt_or_eq_of_le h1 with h4 | rfl
      · exact ⟨j, h4, h2, h3⟩
      · exact absurd h3 h
theorem has_dec (l : List Int) (hl : l.length ≤ 1048576) (x : Int) : Dec (fun k => spec_l2Has.f k l x) (∃ j : Nat, j < l.length ∧ rd l (j : Int) = x) := by
  unfold spec_l2Has.f
  obtain ⟨b, h1, h2⟩ := has_tot l hl x l.length 0 (by omega)
  exact ⟨b, h1, h2.trans ⟨fun ⟨j, _, h3, h4⟩ => ⟨j, h3, h4⟩, fun ⟨j, h3, h4⟩ => ⟨j, Nat.zero_le _, h3, h4⟩⟩⟩
/-- The reference's clause of literals: something, and not more than there are atoms. -/
theorem clause_tell (n : Nat) (hn : n ≤ 1000) (v : List Int) (hv : v.length = n + 1) : ∀ (d a : Nat) (out : List Int), a + d = n → out.length ≤ a → Tot (fun k => spec_l11Clause.l1 k (n : Int) v out ((a + 1 : Nat) : Int)) (fun r => r.1.length ≤ n) := by
  intro d
  induction d with
  | zero =>
    intro a out ha h1
    exact Tot.step (Tot.neg (by omega) (Tot.val (by show out.length ≤ n; omega))) (fun k => spec_l11Clause.l1.eq_2 ..)
  | succ d ih =>
    intro a out ha h1
    have hwi := wsucc (a + 1) (by omega)
    refine Tot.step (Tot.pos (by omega) (Tot.pos (by omega) (Tot.pos (by omega) ?_))) (fun k => spec_l11Clause.l1.eq_2 ..)
    rw [hwi]
    exact Tot.ite (fun _ => ih (a + 1) out (by omega) (by omega)) (fun _ => Tot.pos (by omega) (ih (a + 1) _ (by omega) (by simp; omega)))
theorem clause_tot_loop (n : Nat) (hn : n ≤ 1000) (m : List Int) (hml : m.length ≤ 1048576) (hm : ∀ j : Nat, j < m.length → LitOk (n : Int) (rd m (j : Int))) : ∀ (d i : Nat) (v : List Int), i + d = m.length → v.length = n + 1 → Tot (fun k => spec_l11Clause.l0 k m (n : Int) v (i : Int)) (fun r => r.1.length ≤ n) := by
  intro d
  induction d with
  | zero =>
    intro i v hi hv
    exact Tot.step (Tot.neg (by omega) (clause_tell n hn v hv n 0 [] (by omega) (by simp))) (fun k => spec_l11Clause.l0.eq_2 ..)
  | succ d ih =>
    intro i v hi hv
    have hwi := wsucc i (by omega)
    obtain ⟨x0, x1, x2⟩ := hm i (by omega)
    refine Tot.step (Tot.pos (by omega) (Tot.pos (by omega) (Tot.bind (Tot.of (P := fun r => r = AbsI (rd m (i : Int))) (spec_abs (by omega) (by omega)) rfl) ?_))) (fun k => spec_l11Clause.l0.eq_2 ..)
    rintro _ rfl
    rw [absN, Int.toNat_natCast, hwi]
    refine Tot.pos (by omega) (Tot.pos (by omega) ?_)
    have hgo := ih (i + 1) (v.set (rd m (i : Int)).natAbs (rd m (i : Int))) (by omega) (by simpa using hv)
    exact Tot.ite (fun _ => hgo) (fun _ => Tot.ite (fun _ => hgo) (fun _ => Tot.val (by simp)))
theorem clause_tot (n : Nat) (hn : n ≤ 1000) (m : List Int) (hml : m.length ≤ 1048576) (hm : ∀ j : Nat, j < m.length → LitOk (n : Int) (rd m (j : Int))) : Tot (fun k => spec_l11Clause.f k m (n : Int)) (fun r => r.1.length ≤ n) := by
  have hwn : wrap64 ((n : Int) + 1) = ((n + 1 : Nat) : Int) := wsucc n (by omega)
  unfold spec_l11Clause.f
  rw [hwn, Int.toNat_natCast]
  exact Tot.pos (by omega) (Tot.pos (by omega) (clause_tot_loop n hn m hml hm m.length 0 _ (by omega) (by simp)))
theorem lits_loop (b : List Int) (hb : Drawer b) (n : Nat) (hn : n ≤ 1000) (w : Int) (hw : w ≤ 20) : ∀ (d : Nat) (i : Int) (l : List Int) (p : Int), (d : Int) = w - i → 0 ≤ i → (l.length : Int) ≤ i → (∀ j : Nat, j < l.length → LitOk (n : Int) (rd l (j : Int))) → 0 ≤ p → p + 2 * d ≤ 900000 →
    Tot (fun k => spec_l11Lits.l0 k (n : Int) w l i b p) (fun r => r.1.length ≤ n ∧ p ≤ r.2 ∧ r.2 ≤ p + 2 * d) := by
  intro d
  induction d with
  | zero =>
    intro i l p hd h0 hl hlit hp hp2
    refine Tot.step (Tot.neg (by omega) (Tot.step (Tot.neg (by decide) (Tot.bind (clause_tot n hn l (by omega) hlit) ?_)) (fun k => spec_l11Lits.j1.eq_2 ..))) (fun k => spec_l11Lits.l0.eq_2 ..)
    intro r hr
    exact Tot.val ⟨hr, Int.le_refl _, by simp⟩
  | succ d ih =>
    intro i l p hd h0 hl hlit hp hp2
    have hwi : wrap64 (i + 1) = i + 1 := w_id (by omega) (by omega)
    refine Tot.step (Tot.pos (by omega) (Tot.step (Tot.ite (fun hn0 => ?_) (fun hn0 => ?_)) (fun k => spec_l11Lits.j1.eq_2 ..))) (fun k => spec_l11Lits.l0.eq_2 ..)
    · have hn1 : 1 ≤ n := by
        have := of_decide_eq_true hn0
        omega
      refine Tot.bind (pick_tot b hb p (n : Int) hp (by omega)) ?_
      rintro ⟨x, q⟩ ⟨e1, e2, e3⟩
      simp only at e1 e2 e3 ⊢
      subst e1
      have e4 := e3 (by omega)
      refine Tot.bind (pick_tot b hb (p + 1) 2 (by omega) (by omega)) ?_
      rintro ⟨y, q⟩ ⟨e1, _, _⟩
      simp only at e1 ⊢
      subst e1
      have w1 : wrap64 (1 + x) = 1 + x := w_id (by omega) (by omega)
      have w2 : wrap64 (-(1 + x)) = -(1 + x) := w_id (by omega) (by omega)
      have w3 : wrap64 (- -(1 + x)) = 1 + x := by rw [Int.neg_neg]; exact w1
      rw [w1, w2, w3, hwi]
      have step : ∀ (z u : Int), LitOk (n : Int) z → Tot (fun k => (spec_l2Has.f k l u).bind fun t => if t = true then spec_l11Lits.l0 k (n : Int) w l (i + 1) b (p + 1 + 1) else if l.length < 17592186044416 then spec_l11Lits.l0 k (n : Int) w (l ++ [z]) (i + 1) b (p + 1 + 1) else none) (fun r => r.1.length ≤ n ∧ p ≤ r.2 ∧ r.2 ≤ p + 2 * ((d + 1 : Nat) : Int)) := by
        intro z u hz
        obtain ⟨bb, h1, _⟩ := has_dec l (by omega) u
        refine Tot.bind (Tot.of (P := fun _ => True) h1 trivial) (fun c _ => ?_)
        refine Tot.ite (fun _ => ?_) (fun _ => Tot.pos (by omega) ?_)
        · refine (ih (i + 1) l (p + 1 + 1) (by omega) (by omega) (by omega) hlit (by omega) (by omega)).mono ?_
          rintro r ⟨r1, r2, r3⟩
          exact ⟨r1, by omega, by omega⟩
        · refine (ih (i + 1) (l ++ [z]) (p + 1 + 1) (by omega) (by omega) (by simp; omega) (fun j hj => ?_) (by omega) (by omega)).mono ?_
          · simp at hj
            by_cases e : j = l.length
            · subst e
              rw [rd_app_eq]
              exact hz
            · rw [rd_app_lt (by omega)]
              exact hlit j (by omega)
          · rintro r ⟨r1, r2, r3⟩
            exact ⟨r1, by omega, by omega⟩
      exact Tot.ite (fun _ => step _ _ ⟨by omega, by omega, by omega⟩) (fun _ => step _ _ ⟨by omega, by omega, by omega⟩)
    · refine Tot.bind (clause_tot n hn l (by omega) hlit) ?_
      intro r hr
      exact Tot.val ⟨hr, Int.le_refl _, by show p ≤ p + 2 * ((d + 1 : Nat) : Int); omega⟩
theorem lits_tot (b : List Int) (hb : Drawer b) (n : Nat) (hn : n ≤ 1000) (w : Int) (hw : 0 ≤ w ∧ w ≤ 20) (p : Int) (hp : 0 ≤ p) (hp2 : p ≤ 890000) :
    Tot (fun k => spec_l11Lits.f k b p (n : Int) w) (fun r => r.1.length ≤ n ∧ p ≤ r.2 ∧ r.2 ≤ p + 40) := by
  obtain ⟨m, rfl⟩ := Int.eq_ofNat_of_zero_le hw.1
  unfold spec_l11Lits.f
  refine (lits_loop b hb n hn (m : Int) hw.2 m 0 [] p (by omega) (by omega) (by simp) (fun j hj => by simp at hj) hp (by omega)).mono ?_
  rintro r ⟨r1, r2, r3⟩
  exact ⟨r1, r2, by omega⟩
theorem draw_rows_loop (b : List Int) (hb : Drawer b) (n : Nat) (hn : n ≤ 6) (m : Int) (hm : m ≤ 20) : ∀ (d : Nat) (i : Int) (L : List (List Int)) (p : Int), (d : Int) = m - i → 0 ≤ i → (L.length : Int) ≤ i → (∀ x ∈ L, x.length ≤ 1000) → 0 ≤ p → p + 50 * d ≤ 800000 →
    Tot (fun k => spec_l11Draw.l0 k (n : Int) m i b p (n : Int) L) (fun r => r.1 = (n : Int) ∧ (r.2.1.length : Int) ≤ 20 ∧ (∀ x ∈ r.2.1, x.length ≤ 1000) ∧ p ≤ r.2.2 ∧ r.2.2 ≤ p + 50 * d) := by
  intro d
  induction d with
  | zero =>
    intro i L p hd h0 hl hx hp hp2
    exact Tot.step (Tot.neg (by omega) (Tot.val ⟨rfl, by show (L.length : Int) ≤ 20; omega, hx, Int.le_refl _, by simp⟩)) (fun k => spec_l11Draw.l0.eq_2 ..)
  | succ d ih =>
    intro i L p hd h0 hl hx hp hp2
    have hwi : wrap64 (i + 1) = i + 1 := w_id (by omega) (by omega)
    refine Tot.step (Tot.pos (by omega) (Tot.bind (num_tot b hb p _ hp (by omega) (by simp)) ?_)) (fun k => spec_l11Draw.l0.eq_2 ..)
    rintro ⟨x, q⟩ ⟨e1, e2⟩
    simp only at e1 e2 ⊢
    subst e1
    have hx3 : 0 ≤ x ∧ x ≤ 20 := by simp at e2; omega
    refine Tot.bind (lits_tot b hb n (by omega) x hx3 (p + 1) (by omega) (by omega)) ?_
    rintro ⟨c, q⟩ ⟨c1, c2, c3⟩
    simp only at c1 c2 c3 ⊢
    rw [hwi]
    refine Tot.pos (by omega) ((ih (i + 1) (L ++ [c]) q (by omega) (by omega) (by simp; omega) (fun y hy => ?_) (by omega) (by omega)).mono ?_)
    · rcases List.mem_append.mp hy with h | h
      · exact hx y h
      · rw [List.mem_singleton.mp h]
        omega
    · rintro r ⟨r1, r2, r3, r4, r5⟩
      exact ⟨r1, r2, r3, by omega, by omega⟩
/-- Drawn clauses are few and short, and their atoms are few, or far too many, or less than none. -/
theorem some_tot (b : List Int) (hb : Drawer b) (p : Int) (hp : 0 ≤ p) (hp2 : p ≤ 100000) :
    Tot (fun k => spec_l11Some.f k b p) (fun r => (r.1 = -1 ∨ r.1 = 701 ∨ (0 ≤ r.1 ∧ r.1 ≤ 6)) ∧ r.2.1.length ≤ 30 ∧ (∀ x ∈ r.2.1, x.length ≤ 1000) ∧ p ≤ r.2.2 ∧ r.2.2 ≤ p + 2000) := by
  unfold spec_l11Some.f
  refine Tot.bind (num_tot b hb p _ hp (by omega) (by simp)) ?_
  rintro ⟨a, q⟩ ⟨e1, e2⟩
  simp only at e1 e2 ⊢
  subst e1
  have ha : 0 ≤ a ∧ a ≤ 6 := by simp at e2; omega
  refine Tot.bind (num_tot b hb (p + 1) _ (by omega) (by omega) (by simp)) ?_
  rintro ⟨m, q⟩ ⟨e1, e3⟩
  simp only at e1 e3 ⊢
  subst e1
  have hm : 0 ≤ m ∧ m ≤ 20 := by simp at e3; omega
  obtain ⟨n, rfl⟩ := Int.eq_ofNat_of_zero_le ha.1
  obtain ⟨t, rfl⟩ := Int.eq_ofNat_of_zero_le hm.1
  have hd : Tot (fun k => spec_l11Draw.f k b (p + 1 + 1) (n : Int) (t : Int)) (fun r => r.1 = (n : Int) ∧ (r.2.1.length : Int) ≤ 20 ∧ (∀ x ∈ r.2.1, x.length ≤ 1000) ∧ p + 2 ≤ r.2.2 ∧ r.2.2 ≤ p + 1500) := by
    unfold spec_l11Draw.f
    refine (draw_rows_loop b hb n (by omega) (t : Int) hm.2 t 0 [] (p + 1 + 1) (by omega) (by omega) (by simp) (fun x hx => by simp at hx) (by omega) (by omega)).mono ?_
    rintro r ⟨r1, r2, r3, r4, r5⟩
    exact ⟨r1, r2, r3, by omega, by omega⟩
  refine Tot.bind hd ?_
  rintro ⟨a2, L, q⟩ ⟨e4, e5, e6, e7, e8⟩
  simp only at e4 e5 e6 e7 e8 ⊢
  subst e4
  have hmem : ∀ (c : List Int), c.length ≤ 1000 → ∀ x ∈ L ++ [c], x.length ≤ 1000 := by
    intro c hc x hx
    rcases List.mem_append.mp hx with h | h
    · exact e6 x h
    · rw [List.mem_singleton.mp h]
      exact hc
  refine Tot.bind (pick_tot b hb q 14 (by omega) (by omega)) ?_
  rintro ⟨y, q1⟩ ⟨e1, _, _⟩
  simp only at e1 ⊢
  subst e1
  refine Tot.ite (fun _ => ?_) (fun _ => Tot.val ⟨Or.inr (Or.inr ⟨by show (0 : Int) ≤ n; omega, by show (n : Int) ≤ 6; omega⟩), by show L.length ≤ 30; omega, e6, by show p ≤ q + 1; omega, by show q + 1 ≤ p + 2000; omega⟩)
  refine Tot.bind (pick_tot b hb (q + 1) 4 (by omega) (by omega)) ?_
  rintro ⟨y, q1⟩ ⟨e1, _, _⟩
  simp only at e1 ⊢
  subst e1
  refine Tot.ite (fun _ => ?_) (fun _ => Tot.ite (fun _ => ?_) (fun _ => Tot.ite (fun _ => ?_) (fun _ => ?_)))
  · refine Tot.bind (num_tot b hb (q + 1 + 1) _ (by omega) (by omega) (by simp)) ?_
    rintro ⟨z, q1⟩ ⟨e1, e9⟩
    simp only at e1 e9 ⊢
    subst e1
    refine Tot.val ⟨?_, by show L.length ≤ 30; omega, e6, by show p ≤ q + 1 + 1 + 1; omega, by show q + 1 + 1 + 1 ≤ p + 2000; omega⟩
    show z = -1 ∨ z = 701 ∨ (0 ≤ z ∧ z ≤ 6)
    simp at e9
    omega
  · exact Tot.pos (by omega) (Tot.val ⟨Or.inr (Or.inr ⟨by show (0 : Int) ≤ n; omega, by show (n : Int) ≤ 6; omega⟩), by simp; omega, hmem _ (by simp), by show p ≤ q + 1 + 1; omega, by show q + 1 + 1 ≤ p + 2000; omega⟩)
  · refine Tot.bind (num_tot b hb (q + 1 + 1) _ (by omega) (by omega) (by simp)) ?_
    rintro ⟨z, q1⟩ ⟨e1, e9⟩
    simp only at e1 e9 ⊢
    subst e1
    exact Tot.pos (by omega) (Tot.val ⟨Or.inr (Or.inr ⟨by show (0 : Int) ≤ n; omega, by show (n : Int) ≤ 6; omega⟩), by simp; omega, hmem _ (by simp), by show p ≤ q + 1 + 1 + 1; omega, by show q + 1 + 1 + 1 ≤ p + 2000; omega⟩)
  · exact Tot.pos (by omega) (Tot.val ⟨Or.inr (Or.inr ⟨by show (0 : Int) ≤ n; omega, by show (n : Int) ≤ 6; omega⟩), by simp; omega, hmem _ (by simp), by show p ≤ q + 1 + 1; omega, by show q + 1 + 1 ≤ p + 2000; omega⟩)
theorem wc_ints_loop (l : List Int) (hl : l.length ≤ 1048576) : ∀ (d i : Nat), i + d = l.length → Ev (fun k => laws_wcInts.l0 k l l (l.length : Int) (i : Int)) true := by
  intro d
  induction d with
  | zero =>
    intro i hi
    exact Ev.step (Ev.neg (by omega) (Ev.val _)) (fun k => laws_wcInts.l0.eq_2 ..)
  | succ d ih =>
    intro i hi
    have hwi := wsucc i (by omega)
    refine Ev.step ?_ (fun k => laws_wcInts.l0.eq_2 ..)
    rw [hwi]
    exact Ev.pos (by omega) (Ev.pos (by omega) (Ev.pos (by omega) (Ev.pos (by omega) (Ev.pos rfl (ih (i + 1) (by omega))))))
theorem wc_ints (l : List Int) (hl : l.length ≤ 1048576) : Ev (fun k => laws_wcInts.f k l l) true := by
  unfold laws_wcInts.f
  exact Ev.pos rfl (wc_ints_loop l hl l.length 0 (by omega))
/-! #### drawn clauses of few atoms -/
theorem l12some_tot (b : List Int) (hb : Drawer b) (p : Int) (hp : 0 ≤ p) (hp2 : p ≤ 50000) :
    Tot (fun k => spec_l12Some.f k b p) (fun r => r.2.1.length ≤ 40 ∧ (∀ x ∈ r.2.1, x.length ≤ 1000) ∧ p ≤ r.2.2 ∧ r.2.2 ≤ p + 5000) := by
  unfold spec_l12Some.f
  refine Tot.bind (pick_tot b hb p 4 hp (by omega)) ?_
  rintro ⟨y, q⟩ ⟨e1, _, _⟩
  simp only at e1 ⊢
  subst e1
  refine Tot.ite (fun _ => ?_) (fun _ => ?_)
  · refine Tot.bind (some_tot b hb (p + 1) (by omega) (by omega)) ?_
    rintro ⟨n, L, q⟩ ⟨_, e2, e3, e4, e5⟩
    simp only at e2 e3 e4 e5 ⊢
    exact Tot.val ⟨by show L.length ≤ 40; omega, e3, by show p ≤ q; omega, by show q ≤ p + 5000; omega⟩
  · refine Tot.bind (num_tot b hb (p + 1) _ (by omega) (by omega) (by simp)) ?_
    rintro ⟨a, q⟩ ⟨e1, e2⟩
    simp only at e1 e2 ⊢
    subst e1
    have ha : 0 ≤ a ∧ a ≤ 6 := by simp at e2; omega
    refine Tot.bind (num_tot b hb (p + 1 + 1) _ (by omega) (by omega) (by simp)) ?_
    rintro ⟨m, q⟩ ⟨e1, e3⟩
    simp only at e1 e3 ⊢
    subst e1
    have hm : 0 ≤ m ∧ m ≤ 20 := by simp at e3; omega
    obtain ⟨n, rfl⟩ := Int.eq_ofNat_of_zero_le ha.1
    obtain ⟨t, rfl⟩ := Int.eq_ofNat_of_zero_le hm.1
    have hd : Tot (fun k => spec_l11Draw.f k b (p + 1 + 1 + 1) (n : Int) (t : Int)) (fun r => r.1 = (n : Int) ∧ (r.2.1.length : Int) ≤ 20 ∧ (∀ x ∈ r.2.1, x.length ≤ 1000) ∧ p + 3 ≤ r.2.2 ∧ r.2.2 ≤ p + 1500) := by
      unfold spec_l11Draw.f
      refine (draw_rows_loop b hb n (by omega) (t : Int) hm.2 t 0 [] (p + 1 + 1 + 1) (by omega) (by omega) (by simp) (fun x hx => by simp at hx) (by omega) (by omega)).mono ?_
      rintro r ⟨r1, r2, r3, r4, r5⟩
      exact ⟨r1, r2, r3, by omega, by omega⟩
    refine Tot.bind hd ?_
    rintro ⟨a2, L, q⟩ ⟨e4, e5, e6, e7, e8⟩
    simp only at e4 e5 e6 e7 e8 ⊢
    refine Tot.bind (pick_tot b hb q 6 (by omega) (by omega)) ?_
    rintro ⟨y, q1⟩ ⟨e1, _, _⟩
    simp only at e1 ⊢
    subst e1
    refine Tot.ite (fun _ => Tot.pos (by omega) (Tot.val ⟨by simp; omega, fun x hx => ?_, by show p ≤ q + 1; omega, by show q + 1 ≤ p + 5000; omega⟩)) (fun _ => Tot.val ⟨by show L.length ≤ 40; omega, e6, by show p ≤ q + 1; omega, by show q + 1 ≤ p + 5000; omega⟩)
    rcases List.mem_append.mp hx with h | h
    · exact e6 x h
    · rw [List.mem_singleton.mp h]
      simp
/-! #### cores: the clauses of chosen numbers -/
def sel (L : List (List Int)) (ks : List Int) : List (List Int) := ks.map fun k => rd_L1 L k
def Nums (m : Nat) (ks : List Int) : Prop := ∀ x ∈ ks, 0 ≤ x ∧ x < (m : Int)
theorem sel_length (L : List (List Int)) (ks : List Int) : (sel L ks).length = ks.length := by simp [sel]
theorem sel_app (L : List (List Int)) (a b : List Int) : sel L (a ++ b) = sel L a ++ sel L b := by simp [sel]
theorem sel_at (L : List (List Int)) (ks : List Int) (j : Nat) (hj : j < ks.length) : rd_L1 (sel L ks) (j : Int) = rd_L1 L (rd ks (j : Int)) := by
  rw [rows_nat, getD_lt (by rw [sel_length]; exact hj), rd_lt hj]
  simp [sel]
theorem nums_at {m : Nat} {ks : List Int} (h : Nums m ks) (j : Nat) (hj : j < ks.length) : ∃ a : Nat, rd ks (j : Int) = (a : Int) ∧ a < m := by
  obtain ⟨h0, h1⟩ := h (rd ks (j : Int)) (by rw [rd_lt hj]; exact List.getElem_mem hj)
  obtain ⟨a, ha⟩ := Int.eq_ofNat_of_zero_le h0
  exact ⟨a, ha, by omega⟩
theorem allT_sel {T : Nat → Bool} {L : List (List Int)} {ks : List Int} : AllT T (sel L ks) ↔ ∀ x ∈ ks, ClT T (rd_L1 L x) := by
  constructor
  · intro h x hx
    obtain ⟨j, hj, rfl⟩ := List.getElem_of_mem hx
    have := h j (by rw [sel_length]; exact hj)
    rwa [sel_at L ks j hj, rd_lt hj] at this
  · intro h j hj
    rw [sel_length] at hj
    rw [sel_at L ks j hj]
    exact h _ (by rw [rd_lt hj]; exact List.getElem_mem hj)
theorem sel_lits {n : Nat} {L : List (List Int)} (hL : AllLits n L) {ks : List Int} (hk : Nums L.length ks) (hl : ks.length ≤ 1048576) : AllLits n (sel L ks) := by
  refine ⟨by rw [sel_length]; exact hl, fun j hj => ?_⟩
  rw [sel_length] at hj
  rw [sel_at L ks j hj]
  obtain ⟨a, e, ha⟩ := nums_at hk j hj
  rw [e]
  exact hL.2 a ha
theorem sel_small {L : List (List Int)} (hL : Small L) {ks : List Int} (hk : Nums L.length ks) (hl : ks.length ≤ 1048576) : Small (sel L ks) := by
  refine ⟨by rw [sel_length]; exact hl, fun j hj => ?_⟩
  rw [sel_length] at hj
  rw [sel_at L ks j hj]
  obtain ⟨a, e, ha⟩ := nums_at hk j hj
  rw [e]
  exact hL.2 a ha
theorem sel_few {n : Int} {L : List (List Int)} (h : FewOk n L) {ks : List Int} (hk : Nums L.length ks) (hl : ks.length ≤ L.length) : FewOk n (sel L ks) := by
  refine ⟨⟨h.1.1, by rw [sel_length]; exact Nat.le_trans hl h.1.2.1, fun j hj => ?_⟩, h.2⟩
  rw [sel_length] at hj
  rw [sel_at L ks j hj]
  obtain ⟨a, e, ha⟩ := nums_at hk j hj
  rw [e]
  exact h.1.2.2 a ha
/-- The numbers from i on, d of them. -/
def upL : Nat → Nat → List Int
  | 0, _ => []
  | d + 1, i => (i : Int) :: upL d (i + 1)
theorem upL_length : ∀ d i, (upL d i).length = d := by
  intro d
  induction d with
  | zero => intro i; rfl
  | succ d ih => intro i; simp [upL, ih]
theorem mem_upL : ∀ (d i : Nat) (x : Int), x ∈ upL d i ↔ (i : Int) ≤ x ∧ x < (i : Int) + d := by
  intro d
  induction d with
  | zero =>
    intro i x
    simp only [upL, List.not_mem_nil, false_iff]
    omega
  | succ d ih =>
    intro i x
    simp only [upL, List.mem_cons, ih]
    omega
theorem upL_at : ∀ (d i j : Nat), j < d → rd (upL d i) (j : Int) = ((i + j : Nat) : Int) := by
  intro d
  induction d with
  | zero => intro i j h; omega
  | succ d ih =>
    intro i j h
    cases j with
    | zero => rfl
    | succ j =>
      have := ih (i + 1) j (by omega)
      rw [rd_nat] at this
      rw [rd_nat, upL, List.getD_cons_succ, this]
      omega
theorem less_eq (c : List Int) (i d : Nat) (hc : ∀ x ∈ c, 0 ≤ x ∧ x < (i : Int)) : (c ++ upL (d + 1) i).filter (fun x => !(x == (i : Int))) = c ++ upL d (i + 1) := by
  rw [List.filter_append]
  congr 1
  · rw [List.filter_eq_self]
    intro x hx
    have := hc x hx
    simp
    omega
  · rw [upL, List.filter_cons]
    simp only [beq_self_eq_true, Bool.not_true, Bool.false_eq_true, if_false]
    rw [List.filter_eq_self]
    intro x hx
    rw [mem_upL] at hx
    simp
    omega
theorem numbered_loop (n : Nat) (hn : n ≤ 1048576) : ∀ (d i : Nat) (ys : List Int), i + d = n → ys.length = n → (∀ j : Nat, j < i → rd ys (j : Int) = (j : Int)) → Ev (fun k => impl_numbered.l0 k ys (n : Int) (i : Int)) (upL n 0) := by
  intro d
  induction d with
  | zero =>
    intro i ys hi hy h
    refine Ev.step (Ev.neg (by omega) (Ev.valEq ?_)) (fun k => impl_numbered.l0.eq_2 ..)
    refine list_eq_rd (by rw [hy, upL_length]) (fun j hj => ?_)
    rw [h j (by omega), upL_at n 0 j (by omega), Nat.zero_add]
  | succ d ih =>
    intro i ys hi hy h
    have hwi := wsucc i (by omega)
    refine Ev.step ?_ (fun k => impl_numbered.l0.eq_2 ..)
    rw [hwi, Int.toNat_natCast]
    refine Ev.pos (by omega) (Ev.pos (by omega) (Ev.pos (by omega) (ih (i + 1) _ (by omega) (by simpa using hy) (fun j hj => ?_))))
    by_cases e : j = i
    · subst e
      rw [rd_set_eq (by omega)]
    · rw [rd_set_ne (by omega)]
      exact h j (by omega)
theorem numbered (n : Nat) (hn : n ≤ 1048576) : Ev (fun k => impl_numbered.f k (n : Int)) (upL n 0) := by
  unfold impl_numbered.f
  refine Ev.pos (by omega) (Ev.pos (by omega) ?_)
  simp only [Option.bind_some, Int.toNat_natCast, List.length_replicate]
  exact numbered_loop n hn n 0 _ (by omega) (by simp) (fun j hj => by omega)
/-- Without the row at place p. -/
theorem without_loop (l : List (List Int)) (hl : l.length ≤ 1048576) (p : Nat) : ∀ (d i : Nat) (out : List (List Int)), i + d = l.length → out.length ≤ i →
    Ev (fun k => spec_l12Without.l0 k l (p : Int) out (i : Int)) (out ++ ((l.drop i).take (p - i) ++ l.drop (max i (p + 1)))) := by
  intro d
  induction d with
  | zero =>
    intro i out hi ho
    refine Ev.step (Ev.neg (by omega) (Ev.valEq ?_)) (fun k => spec_l12Without.l0.eq_2 ..)
    rw [List.drop_eq_nil_of_le (by omega), List.drop_eq_nil_of_le (by omega)]
    simp
  | succ d ih =>
    intro i out hi ho
    have hwi := wsucc i (by omega)
    have hdr : l.drop i = rd_L1 l (i : Int) :: l.drop (i + 1) := by
      rw [rows_lt (by omega)]
      exact List.drop_eq_getElem_cons (by omega)
    refine Ev.step ?_ (fun k => spec_l12Without.l0.eq_2 ..)
    rw [hwi]
    by_cases e : i = p
    · subst e
      refine Ev.pos (by omega) (Ev.pos rfl ((ih (i + 1) out (by omega) (by omega)).to ?_))
      rw [Nat.sub_self, List.take_zero, show i - (i + 1) = 0 by omega, List.take_zero, Nat.max_eq_left (Nat.le_refl _), Nat.max_eq_right (by omega)]
    · refine Ev.pos (by omega) (Ev.neg (by omega) (Ev.pos (by omega) (Ev.pos (by omega) ((ih (i + 1) (out ++ [rd_L1 l (i : Int)]) (by omega) (by simp; omega)).to ?_))))
      by_cases h : i < p
      · rw [hdr, show p - i = (p - (i + 1)) + 1 by omega, List.take_succ_cons, Nat.max_eq_right (by omega), Nat.max_eq_right (by omega)]
        simp
      · rw [show p - i = 0 by omega, show p - (i + 1) = 0 by omega, Nat.max_eq_left (by omega), Nat.max_eq_left (by omega), hdr]
        simp
theorem without_at (a b : List (List Int)) (x : List Int) (hl : (a ++ x :: b).length ≤ 1048576) : Ev (fun k => spec_l12Without.f k (a ++ x :: b) (a.length : Int)) (a ++ b) := by
  unfold spec_l12Without.f
  refine (without_loop (a ++ x :: b) hl a.length _ 0 [] (Nat.zero_add _) (by simp)).to ?_
  simp
theorem open_dec (n : Nat) (hn : n ≤ 700) (l : List (List Int)) (hl : AllLits n l) : Dec (fun k => spec_l12Open.f k l (List.replicate (n + 1) 0)) (∃ T, AllT T l) := by
  refine (open_sem n hn l hl ((List.replicate (n + 1) (0 : Int)).count 0 + 1) _ (by omega) (vok_zeros n)).iff ⟨?_, ?_⟩
  · rintro ⟨T, h, _⟩
    exact ⟨T, h⟩
  · rintro ⟨T, h⟩
    exact ⟨T, h, fun a ha hz => absurd (rd_zeros (n + 1) a (by omega)) hz⟩
structure CoreInv (L : List (List Int)) (d i : Nat) (c : List Int) : Prop where
  nums : ∀ x ∈ c, 0 ≤ x ∧ x < (i : Int)
  once : c.Nodup
  len : c.length ≤ i
  none : ¬ ∃ T, ∀ y ∈ c ++ upL d i, ClT T (rd_L1 L y)
  some : ∀ x ∈ c, ∃ T, ∀ y ∈ c ++ upL d i, y ≠ x → ClT T (rd_L1 L y)
theorem build_loop (L : List (List Int)) (N x25 i : Int) (x3 less : List Int) (hk : Nums L.length less) (hl : less.length ≤ 1048576) (r : List Int)
    (h : Ev (fun k => (impl_satisfiable.f k N (sel L less)).bind fun t => if t = true then impl_CoreOf.l0 k x3 x25 (wrap64 (i + 1)) N L else impl_CoreOf.l0 k less x25 (wrap64 (i + 1)) N L) r) :
    ∀ (d j : Nat) (acc : List (List Int)), j + d = less.length → acc = sel L (less.take j) → Ev (fun k => impl_CoreOf.l1 k x3 less acc x25 i less (less.length : Int) (j : Int) N L) r := by
  intro d
  induction d with
  | zero =>
    intro j acc hj ha
    rw [List.take_of_length_le (by omega)] at ha
    subst ha
    exact Ev.step (Ev.neg (by omega) h) (fun k => impl_CoreOf.l1.eq_2 ..)
  | succ d ih =>
    intro j acc hj ha
    have hwj := wsucc j (by omega)
    obtain ⟨a, e, hlt⟩ := nums_at hk j (by omega)
    have hal : acc.length ≤ j := by
      rw [ha, sel_length, List.length_take]
      omega
    refine Ev.step ?_ (fun k => impl_CoreOf.l1.eq_2 ..)
    rw [hwj, e]
    refine Ev.pos (by omega) (Ev.pos (by omega) (Ev.pos (by omega) (Ev.pos (by omega) (Ev.pos (by omega) (Ev.pos (by omega) (ih (j + 1) _ (by omega) ?_))))))
    rw [ha, ← e, List.take_add_one, sel_app, List.getElem?_eq_getElem (by omega : j < less.length), rd_lt (by omega : j < less.length)]
    rfl
theorem core_loop (n : Nat) (hn : n ≤ 20) (L : List (List Int)) (hL : AllLits n L) (hLl : L.length ≤ 2500) : ∀ (d i : Nat) (c : List Int), i + d = L.length → CoreInv L d i c →
    ∃ r, Ev (fun k => spec_CoreOf.l0 k c (sel L (c ++ upL d i)) (c.length : Int) (i : Int) (n : Int) L) r ∧ Ev (fun k => impl_CoreOf.l0 k (c ++ upL d i) (L.length : Int) (i : Int) (n : Int) L) r ∧ CoreInv L 0 L.length r := by
  intro d
  have hwn : wrap64 ((n : Int) + 1) = ((n + 1 : Nat) : Int) := wsucc n (by omega)
  induction d with
  | zero =>
    intro i c hi hI
    have : i = L.length := by omega
    subst this
    have hcl : c.length ≤ L.length := hI.len
    refine ⟨c, Ev.step (Ev.neg (by omega) (Ev.val _)) (fun k => spec_CoreOf.l0.eq_2 ..), Ev.step (Ev.neg (by omega) ?_) (fun k => impl_CoreOf.l0.eq_2 ..), hI⟩
    have hc : impl_clone_int.f (c ++ upL 0 L.length) = some c := by
      unfold impl_clone_int.f
      simp only [upL, List.append_nil]
      rw [if_pos (by omega)]
    exact Ev.bind (Ev.const hc) (Ev.val _)
  | succ d ih =>
    intro i c hi hI
    have hwi := wsucc i (by omega)
    have hcl : c.length ≤ i := hI.len
    have hwc := wsucc c.length (by omega)
    have hnums : Nums L.length (c ++ upL d (i + 1)) := by
      intro x hx
      rcases List.mem_append.mp hx with h | h
      · have := hI.nums x h
        omega
      · rw [mem_upL] at h
        omega
    have hll : (c ++ upL d (i + 1)).length ≤ 1048576 := by
      rw [List.length_append, upL_length]
      omega
    have hAL := sel_lits hL hnums hll
    obtain ⟨bo, o1, o2⟩ := open_dec n (by omega) _ hAL
    obtain ⟨bs, s1, s2⟩ := sat_dec n hn _ hAL
    have eqb : bs = bo := by
      cases bs <;> cases bo
      · rfl
      · exact absurd (s2.mpr (o2.mp rfl)) (by decide)
      · exact absurd (o2.mpr (s2.mp rfl)) (by decide)
      · rfl
    subst eqb
    have hless := less_eq c i d hI.nums
    have hw : Ev (fun k => spec_l12Without.f k (sel L (c ++ upL (d + 1) i)) (c.length : Int)) (sel L (c ++ upL d (i + 1))) := by
      have := without_at (sel L c) (sel L (upL d (i + 1))) (rd_L1 L (i : Int)) (by
        rw [List.length_append, List.length_cons, sel_length, sel_length, upL_length]
        omega)
      rw [sel_length] at this
      rw [sel_app, sel_app]
      exact this
    have hcln : slices_Clone_int_int.f (c ++ upL (d + 1) i) = some (c ++ upL (d + 1) i) := by
      unfold slices_Clone_int_int.f
      simp only [Option.bind_some, List.nil_append]
      rw [if_pos (by rw [List.length_append, upL_length]; simp; omega)]
    have hls : impl_CoreOf.less (c ++ upL (d + 1) i) (i : Int) = some (c ++ upL d (i + 1)) := by
      unfold impl_CoreOf.less
      rw [hless]
    have implr : ∀ r, Ev (fun k => if bs = true then impl_CoreOf.l0 k (c ++ upL (d + 1) i) (L.length : Int) ((i + 1 : Nat) : Int) (n : Int) L else impl_CoreOf.l0 k (c ++ upL d (i + 1)) (L.length : Int) ((i + 1 : Nat) : Int) (n : Int) L) r →
        Ev (fun k => impl_CoreOf.l0 k (c ++ upL (d + 1) i) (L.length : Int) (i : Int) (n : Int) L) r := by
      intro r hr
      refine Ev.step (Ev.pos (by omega) (Ev.bind (Ev.const hcln) (Ev.bind (Ev.const hls) ?_))) (fun k => impl_CoreOf.l0.eq_2 ..)
      refine build_loop L (n : Int) (L.length : Int) (i : Int) _ _ hnums hll r ?_ (c ++ upL d (i + 1)).length 0 [] (Nat.zero_add _) rfl
      rw [hwi]
      exact Ev.bind s1 hr
    have specr : ∀ r, Ev (fun k => if bs = true then (if c.length < 17592186044416 then spec_CoreOf.l0 k (c ++ [(i : Int)]) (sel L (c ++ upL (d + 1) i)) ((c.length + 1 : Nat) : Int) ((i + 1 : Nat) : Int) (n : Int) L else none) else spec_CoreOf.l0 k c (sel L (c ++ upL d (i + 1))) (c.length : Int) ((i + 1 : Nat) : Int) (n : Int) L) r →
        Ev (fun k => spec_CoreOf.l0 k c (sel L (c ++ upL (d + 1) i)) (c.length : Int) (i : Int) (n : Int) L) r := by
      intro r hr
      refine Ev.step (Ev.pos (by omega) (Ev.bind hw ?_)) (fun k => spec_CoreOf.l0.eq_2 ..)
      rw [hwn, Int.toNat_natCast, hwi, hwc]
      exact Ev.pos (by omega) (Ev.pos (by omega) (Ev.bind o1 hr))
    have esnoc : (c ++ [(i : Int)]) ++ upL d (i + 1) = c ++ upL (d + 1) i := by simp [upL]
    cases bs with
    | true =>
      obtain ⟨T, hT⟩ := s2.mp rfl
      rw [allT_sel] at hT
      have hI2 : CoreInv L d (i + 1) (c ++ [(i : Int)]) := by
        refine ⟨fun x hx => ?_, ?_, by simp; omega, ?_, fun x hx => ?_⟩
        · rcases List.mem_append.mp hx with h | h
          · have := hI.nums x h
            omega
          · have : x = (i : Int) := by simpa using h
            omega
        · rw [List.nodup_append]
          refine ⟨hI.once, by simp, fun a ha b hb => ?_⟩
          have := hI.nums a ha
          have : b = (i : Int) := by simpa using hb
          omega
        · rw [esnoc]
          exact hI.none
        · rw [esnoc]
          rcases List.mem_append.mp hx with h | h
          · exact hI.some x h
          · have e : x = (i : Int) := by simpa using h
            subst e
            refine ⟨T, fun y hy hne => hT y ?_⟩
            rcases List.mem_append.mp hy with h1 | h1
            · exact List.mem_append.mpr (.inl h1)
            · rw [mem_upL] at h1
              exact List.mem_append.mpr (.inr (by rw [mem_upL]; omega))
      obtain ⟨r, r1, r2, r3⟩ := ih (i + 1) (c ++ [(i : Int)]) (by omega) hI2
      rw [esnoc] at r1 r2
      rw [List.length_append, List.length_singleton] at r1
      exact ⟨r, specr r (Ev.pos rfl (Ev.pos (by omega) r1)), implr r (Ev.pos rfl r2), r3⟩
    | false =>
      have hno : ¬ ∃ T, AllT T (sel L (c ++ upL d (i + 1))) := fun h => absurd (s2.mpr h) (by decide)
      have hsub : ∀ y ∈ c ++ upL d (i + 1), y ∈ c ++ upL (d + 1) i := by
        intro y hy
        rcases List.mem_append.mp hy with h1 | h1
        · exact List.mem_append.mpr (.inl h1)
        · rw [mem_upL] at h1
          exact List.mem_append.mpr (.inr (by rw [mem_upL]; omega))
      have hI2 : CoreInv L d (i + 1) c := by
        refine ⟨fun x hx => ?_, hI.once, by omega, fun ⟨T, hT⟩ => hno ⟨T, allT_sel.mpr hT⟩, fun x hx => ?_⟩
        · have := hI.nums x hx
          omega
        · obtain ⟨T, hT⟩ := hI.some x hx
          exact ⟨T, fun y hy hne => hT y (hsub y hy) hne⟩
      obtain ⟨r, r1, r2, r3⟩ := ih (i + 1) c (by omega) hI2
      exact ⟨r, specr r (Ev.neg (by decide) r1), implr r (Ev.neg (by decide) r2), r3⟩
theorem sel_up (L : List (List Int)) : sel L (upL L.length 0) = L := by
  apply List.ext_getElem
  · rw [sel_length, upL_length]
  · intro j h1 h2
    have e1 := sel_at L (upL L.length 0) j (by rw [upL_length]; exact h2)
    rw [upL_at L.length 0 j h2, Nat.zero_add, rows_lt h1, rows_lt h2] at e1
    exact e1
/-- What both make: nothing, or a core. -/
theorem both_core (n : Int) (L : List (List Int)) (hL : Small L) :
    (¬ (FewOk n L ∧ ¬ ∃ T, AllT T L) ∧ Ev (fun k => spec_CoreOf.f k n L) [] ∧ Ev (fun k => impl_CoreOf.f k n L) []) ∨
    (FewOk n L ∧ (¬ ∃ T, AllT T L) ∧ ∃ r, Ev (fun k => spec_CoreOf.f k n L) r ∧ Ev (fun k => impl_CoreOf.f k n L) r ∧ CoreInv L 0 L.length r) := by
  obtain ⟨b, b1, b2⟩ := few_spec n L hL
  obtain ⟨b', b1', b2'⟩ := few_impl n L hL
  unfold spec_CoreOf.f impl_CoreOf.f
  by_cases h : FewOk n L
  · obtain rfl : b = true := b2.mpr h
    obtain rfl : b' = true := b2'.mpr h
    obtain ⟨m, rfl⟩ := Int.eq_ofNat_of_zero_le h.1.1.1
    have hm : m ≤ 20 := by have := h.2; omega
    have hAL := all_lits m L hL h.1
    obtain ⟨c, c1, c2⟩ := can_dec m (by omega) L hAL [] (by simp) (fun j hj => by simp at hj) (fun i j h1 h2 => by simp at h2)
    obtain ⟨s, s1, s2⟩ := sat_dec m hm L hAL
    by_cases hs : ∃ T, AllT T L
    · obtain rfl : s = true := s2.mpr hs
      obtain rfl : c = true := by
        obtain ⟨T, hT⟩ := hs
        exact c2.mpr ⟨T, hT, fun j hj => by simp at hj⟩
      refine .inl ⟨fun h2 => h2.2 hs, Ev.bind (Ev.val _) (Ev.bind b1 (Ev.pos rfl (Ev.bind c1 (Ev.step (Ev.pos rfl (Ev.val _)) (fun k => spec_CoreOf.j0.eq_2 ..))))), Ev.bind b1' (Ev.pos rfl (Ev.bind s1 (Ev.step (Ev.pos rfl (Ev.val _)) (fun k => impl_CoreOf.j0.eq_2 ..))))⟩
    · obtain rfl : s = false := by
        cases s with
        | false => rfl
        | true => exact absurd (s2.mp rfl) hs
      obtain rfl : c = false := by
        cases c with
        | false => rfl
        | true =>
          obtain ⟨T, hT, _⟩ := c2.mp rfl
          exact absurd ⟨T, hT⟩ hs
      have hI : CoreInv L L.length 0 [] := ⟨fun x hx => (by cases hx), List.nodup_nil, (by simp), fun ⟨T, hT⟩ => hs ⟨T, by
        rw [← sel_up L, allT_sel]
        exact hT⟩, fun x hx => by cases hx⟩
      have hl := h.1.2.1
      obtain ⟨r, r1, r2, r3⟩ := core_loop m hm L hAL hl L.length 0 [] (by omega) hI
      rw [List.nil_append, sel_up] at r1
      rw [List.nil_append] at r2
      refine .inr ⟨h, hs, r, Ev.bind (Ev.val _) (Ev.bind b1 (Ev.pos rfl (Ev.bind c1 (Ev.step (Ev.neg (by decide) r1) (fun k => spec_CoreOf.j0.eq_2 ..))))), Ev.bind b1' (Ev.pos rfl (Ev.bind s1 (Ev.step (Ev.neg (by decide) ?_) (fun k => impl_CoreOf.j0.eq_2 ..)))), r3⟩
      exact Ev.bind (numbered L.length (by omega)) r2
  · have e1 : b = false := by
      cases b with
      | false => rfl
      | true => exact absurd (b2.mp rfl) h
    have e2 : b' = false := by
      cases b' with
      | false => rfl
      | true => exact absurd (b2'.mp rfl) h
    subst e1
    subst e2
    exact .inl ⟨fun h2 => h h2.1, Ev.bind (Ev.val _) (Ev.bind b1 (Ev.neg (by decide) (Ev.step (Ev.pos rfl (Ev.val _)) (fun k => spec_CoreOf.j0.eq_2 ..)))), Ev.bind b1' (Ev.neg (by decide) (Ev.step (Ev.pos rfl (Ev.val _)) (fun k => impl_CoreOf.j0.eq_2 ..)))⟩

theorem drawcore_tot (code : List Int) (hc : ∀ x ∈ code, (Lit.int .u8 x).wf = true) :
    Tot (fun k => spec_DrawCoreOf.f k code) (fun r => r.2.length ≤ 40 ∧ ∀ x ∈ r.2, x.length ≤ 1000) := by
  unfold spec_DrawCoreOf.f
  obtain ⟨b, ho, hb⟩ := open_tot code hc
  refine Tot.bind (Tot.of (P := fun r => r = (b, 0)) (Ev.const ho) rfl) ?_
  rintro _ rfl
  simp only
  refine Tot.bind (l12some_tot b hb 0 (by omega) (by omega)) ?_
  rintro ⟨n, L, q⟩ ⟨e1, e2, _, _⟩
  exact Tot.val ⟨e1, e2⟩
def skipS (r : List Int) (x : Int) : Nat → Nat → List Int
  | 0, _ => []
  | d + 1, i => if (i : Int) = x then skipS r x d (i + 1) else rd r (i : Int) :: skipS r x d (i + 1)
theorem skipS_length (r : List Int) (x : Int) : ∀ d i, (skipS r x d i).length ≤ d := by
  intro d
  induction d with
  | zero => intro i; exact Nat.le_refl _
  | succ d ih =>
    intro i
    have := ih (i + 1)
    unfold skipS
    split
    · omega
    · rw [List.length_cons]
      omega
theorem mem_skipS (r : List Int) (x y : Int) : ∀ d i, y ∈ skipS r x d i ↔ ∃ j : Nat, i ≤ j ∧ j < i + d ∧ (j : Int) ≠ x ∧ y = rd r (j : Int) := by
  intro d
  induction d with
  | zero =>
    intro i
    simp only [skipS, List.not_mem_nil, false_iff]
    rintro ⟨j, h1, h2, _⟩
    omega
  | succ d ih =>
    intro i
    unfold skipS
    split
    · rename_i e
      rw [ih]
      constructor
      · rintro ⟨j, h1, h2, h3⟩
        exact ⟨j, by omega, by omega, h3⟩
      · rintro ⟨j, h1, h2, h3, h4⟩
        refine ⟨j, ?_, by omega, h3, h4⟩
        rcases Nat.lt_or_eq_of_le h1 with h5 | rfl
        · exact h5
        · exact absurd e h3
    · rename_i e
      rw [List.mem_cons, ih]
      constructor
      · rintro (rfl | ⟨j, h1, h2, h3⟩)
        · exact ⟨i, Nat.le_refl _, by omega, e, rfl⟩
        · exact ⟨j, by omega, by omega, h3⟩
      · rintro ⟨j, h1, h2, h3, h4⟩
        rcases Nat.lt_or_eq_of_le h1 with h5 | rfl
        · exact .inr ⟨j, h5, by omega, h3, h4⟩
        · exact .inl h4
theorem skip_loop (L : List (List Int)) (n : Int) (r : List Int) (hr : Nums L.length r) (hl : r.length ≤ 1048576) (x : Int) (z : Bool) : ∀ (d i : Nat) (acc : List (List Int)), i + d = r.length → acc.length ≤ i →
    Ev (fun k => (impl_CountModels.f k n (acc ++ sel L (skipS r x d i))).bind fun t => if ((t == 0) != (x == (-1))) = true then some false else laws_FnCoreOf.l0 k r (wrap64 (x + 1)) n L) z →
    Ev (fun k => laws_FnCoreOf.l1 k r x r (r.length : Int) (i : Int) n L n acc) z := by
  intro d
  induction d with
  | zero =>
    intro i acc hi ha h
    rw [show acc ++ sel L (skipS r x 0 i) = acc by simp [skipS, sel]] at h
    exact Ev.step (Ev.neg (by omega) h) (fun k => laws_FnCoreOf.l1.eq_2 ..)
  | succ d ih =>
    intro i acc hi ha h
    have hwi := wsucc i (by omega)
    refine Ev.step ?_ (fun k => laws_FnCoreOf.l1.eq_2 ..)
    rw [hwi]
    unfold skipS at h
    by_cases e : (i : Int) = x
    · rw [if_pos e] at h
      exact Ev.pos (by omega) (Ev.pos (by omega) (Ev.pos (by omega) (Ev.pos e (ih (i + 1) acc (by omega) (by omega) h))))
    · rw [if_neg e] at h
      obtain ⟨a, ea, hlt⟩ := nums_at hr i (by omega)
      rw [ea]
      refine Ev.pos (by omega) (Ev.pos (by omega) (Ev.pos (by omega) (Ev.neg e (Ev.pos (by omega) (Ev.pos (by omega) (Ev.pos (by omega) (ih (i + 1) _ (by omega) (by simp; omega) ?_)))))))
      rw [ea] at h
      simpa [sel] using h
theorem core_law_loop (n : Nat) (L : List (List Int)) (hL : Small L) (h : FewOk (n : Int) L) (r : List Int) (hI : CoreInv L 0 L.length r) : ∀ (d i : Nat), i + d = r.length → Ev (fun k => laws_FnCoreOf.l0 k r (i : Int) (n : Int) L) true := by
  have hrl : r.length ≤ L.length := hI.len
  have hLl := h.1.2.1
  have hall : ∀ T, (∀ y ∈ r, ClT T (rd_L1 L y)) → False := fun T hT => hI.none ⟨T, fun y hy => hT y (by simpa [upL] using hy)⟩
  have hne : 0 < r.length := by
    rcases Nat.eq_zero_or_pos r.length with h0 | h0
    · rw [List.length_eq_zero_iff] at h0
      subst h0
      exact absurd (fun y hy => by cases hy) (hall fun _ => true)
    · exact h0
  intro d
  induction d with
  | zero =>
    intro i hi
    exact Ev.step (Ev.neg (by omega) (Ev.valEq (by simp; omega))) (fun k => laws_FnCoreOf.l0.eq_2 ..)
  | succ d ih =>
    intro i hi
    have hwi := wsucc i (by omega)
    have hsl := skipS_length r (i : Int) r.length 0
    have hsn : Nums L.length (skipS r (i : Int) r.length 0) := by
      intro y hy
      rw [mem_skipS] at hy
      obtain ⟨j, _, j2, _, rfl⟩ := hy
      obtain ⟨a, ea, hlt⟩ := nums_at hI.nums j (by omega)
      omega
    have hF := sel_few h hsn (by omega)
    have hS := sel_small hL hsn (by omega)
    have hc := (count_yes n _ hS hF).2
    have hpos : ((((rowsN n (sel L (skipS r (i : Int) r.length 0))).length : Nat) : Int) == 0) = false := by
      obtain ⟨T, hT⟩ := hI.some (rd r (i : Int)) (by rw [rd_lt (by omega)]; exact List.getElem_mem _)
      have : ∃ T, AllT T (sel L (skipS r (i : Int) r.length 0)) := by
        refine ⟨T, allT_sel.mpr fun y hy => ?_⟩
        rw [mem_skipS] at hy
        obtain ⟨j, _, j2, j3, rfl⟩ := hy
        have hj : j < r.length := by omega
        have hi' : i < r.length := by omega
        refine hT _ (by rw [rd_lt hj]; simp [upL]) ?_
        rw [rd_lt hj, rd_lt hi']
        intro e
        have := (List.getElem_inj hI.once).mp e
        omega
      obtain ⟨q, hq⟩ := (row_exists (all_lits n _ hS hF.1)).mp this
      have : 0 < (rowsN n (sel L (skipS r (i : Int) r.length 0))).length := List.length_pos_of_mem hq
      exact beq_eq_false_iff_ne.2 (by omega)
    refine Ev.step (Ev.pos (by omega) ?_) (fun k => laws_FnCoreOf.l0.eq_2 ..)
    refine skip_loop L (n : Int) r hI.nums (by omega) (i : Int) true r.length 0 [] (Nat.zero_add _) (by simp) ?_
    rw [List.nil_append, hwi]
    refine Ev.bind hc ?_
    rw [hpos, show ((i : Int) == -1) = false from beq_eq_false_iff_ne.2 (by omega)]
    exact Ev.neg (by decide) (ih (i + 1) (by omega))
theorem FnCoreOf : laws_FnCoreOf.Pure := by
  intro code _ _ hcode
  apply Ev.get
  unfold laws_FnCoreOf.f
  by_cases hb : (code.length : Int) > 1048576
  · exact Ev.pos hb (Ev.val _)
  refine Ev.neg hb ?_
  obtain ⟨⟨n, L⟩, hdraw, hLl, hLx⟩ := drawcore_tot code hcode
  simp only at hLl hLx
  refine Ev.bind hdraw ?_
  simp only
  have sL : Small L := ⟨by omega, fun j hj => by have := hLx _ (rows_mem hj); omega⟩
  rcases both_core n L sL with ⟨h0, e1, e2⟩ | ⟨h, hs, r, e1, e2, hI⟩
  · have fin : ∀ c : Int, c ≠ 0 → Ev (fun k => impl_CountModels.f k n L) c → Ev (fun k => spec_CountModels.f k n L) c → Ev (fun k => (impl_CountModels.f k n L).bind fun t386 => (spec_CountModels.f k n L).bind fun t387 => laws_FnCoreOf.j0 k ([] : List Int) (t386 != t387) n L) true := by
      intro c hc h1 h2
      refine Ev.bind h1 (Ev.bind h2 (Ev.step (Ev.neg (by simp) (Ev.bind h1 (Ev.neg hc (Ev.valEq (by simp))))) (fun k => laws_FnCoreOf.j0.eq_2 ..)))
    refine Ev.bind e2 (Ev.bind e1 (Ev.bind (wc_ints [] (by simp)) (Ev.pos rfl ?_)))
    by_cases h : FewOk n L
    · obtain ⟨m, rfl⟩ := Int.eq_ofNat_of_zero_le h.1.1.1
      obtain ⟨c1, c2⟩ := count_yes m L sL h
      refine fin _ ?_ c2 c1
      by_cases hs : ∃ T, AllT T L
      · obtain ⟨q, hq⟩ := (row_exists (all_lits m _ sL h.1)).mp hs
        have : 0 < (rowsN m L).length := List.length_pos_of_mem hq
        omega
      · exact absurd ⟨h, hs⟩ h0
    · obtain ⟨c1, c2⟩ := count_no n L sL h
      exact fin _ (by decide) c2 c1
  · obtain ⟨m, rfl⟩ := Int.eq_ofNat_of_zero_le h.1.1.1
    obtain ⟨c1, c2⟩ := count_yes m L sL h
    have hrl : r.length ≤ L.length := hI.len
    have hz : (((rowsN m L).length : Nat) : Int) = 0 := by
      rcases Nat.eq_zero_or_pos (rowsN m L).length with h0 | h0
      · omega
      · obtain ⟨q, hq⟩ := List.exists_mem_of_length_pos h0
        exact absurd ((row_exists (all_lits m _ sL h.1)).mpr ⟨q, hq⟩) hs
    refine Ev.bind e2 (Ev.bind e1 (Ev.bind (wc_ints r (by omega)) (Ev.pos rfl (Ev.bind c2 (Ev.bind c1 (Ev.step ?_ (fun k => laws_FnCoreOf.j0.eq_2 ..)))))))
    refine Ev.neg (by simp) (Ev.bind c2 (Ev.pos hz ?_))
    -- the round of the whole core
    have hsl := skipS_length r (-1) r.length 0
    have hsn : Nums L.length (skipS r (-1) r.length 0) := by
      intro y hy
      rw [mem_skipS] at hy
      obtain ⟨j, _, j2, _, rfl⟩ := hy
      obtain ⟨a, ea, hlt⟩ := nums_at hI.nums j (by omega)
      omega
    have hF := sel_few h hsn (by omega)
    have hS := sel_small sL hsn (by omega)
    have hc := (count_yes m _ hS hF).2
    have hzero : ((((rowsN m (sel L (skipS r (-1) r.length 0))).length : Nat) : Int) == 0) = true := by
      rcases Nat.eq_zero_or_pos (rowsN m (sel L (skipS r (-1) r.length 0))).length with h0 | h0
      · rw [h0]
        rfl
      · obtain ⟨q, hq⟩ := List.exists_mem_of_length_pos h0
        obtain ⟨T, hT⟩ := (row_exists (all_lits m _ hS hF.1)).mpr ⟨q, hq⟩
        rw [allT_sel] at hT
        refine absurd ⟨T, fun y hy => ?_⟩ hI.none
        have hy' : y ∈ r := by simpa [upL] using hy
        obtain ⟨j, hj, rfl⟩ := List.getElem_of_mem hy'
        refine hT _ ?_
        rw [mem_skipS]
        exact ⟨j, Nat.zero_le _, by omega, by omega, (rd_lt hj).symm⟩
    refine Ev.step (Ev.pos (by omega) ?_) (fun k => laws_FnCoreOf.l0.eq_2 ..)
    refine skip_loop L (m : Int) r hI.nums (by omega) (-1) true r.length 0 [] (Nat.zero_add _) (by simp) ?_
    rw [List.nil_append, show wrap64 ((-1 : Int) + 1) = ((0 : Nat) : Int) by decide +kernel]
    refine Ev.bind hc ?_
    rw [hzero]
    exact Ev.neg (by decide) (core_law_loop m L sL h r hI r.length 0 (by omega))

end Go.Proofs.Ytkfmgfdbdgjfiaa.Pure
