/- FnSharedAtoms: the shared atoms are those of the first clauses that are among those of the others, on both sides, whatever is drawn. -/
import Derived.Test.YtcmpngglnpjgdaaQFnSharedAtomsx11
namespace Go.Proofs.Ytcmpngglnpjgdaa.Pure
open Go.RowKit Go.Proofs.Ytcmpngglnpjgdaa.QFnSharedAtoms Go.Proofs.YtcmpngglnpjgdaaW.PrintWords Go.Proofs.YtcmpngglnpjgdaaW.PrintLast Go.Proofs.YtcmpngglnpjgdaaW.PrintMore
set_option linter.unusedVariables false
set_option linter.unusedSimpArgs false

/-! #### rounds -/
/-- From some number of rounds on, g tells r. -/
def Ev {α : Type} (g : Nat → Option α) (r : α) : Prop := ∃ K, ∀ k, K ≤ k → g k = some r
theorem Ev.val {α : Type} (r : α) : Ev (fun _ => some r) r := ⟨0, fun _ _ => rfl⟩
theorem Ev.valEq {α : Type} {r r' : α} (h : r = r') : Ev (fun _ => some r) r' := ⟨0, fun _ _ => by rw [h]⟩
theorem Ev.const {α : Type} {g : Option α} {r : α} (h : g = some r) : Ev (fun _ => g) r := ⟨0, fun _ _ => h⟩
theorem Ev.bind {α β : Type} {g : Nat → Option α} {f : Nat → α → Option β} {a : α} {b : β} (h : Ev g a) (h2 : Ev (fun k => f k a) b) : Ev (fun k => (g k).bind (f k)) b := by
  obtain ⟨K, hK⟩ := h
  obtain ⟨L, hL⟩ := h2
  exact ⟨max K L, fun k hk => by show (g k).bind (f k) = _; rw [hK k (by omega)]; exact hL k (by omega)⟩
theorem Ev.step {α : Type} {g g' : Nat → Option α} {r : α} (h : Ev g' r) (e : ∀ k, g (k + 1) = g' k) : Ev g r := by
  obtain ⟨K, hK⟩ := h
  exact ⟨K + 1, fun k hk => by
    obtain ⟨m, rfl⟩ : ∃ m, k = m + 1 := ⟨k - 1, by omega⟩
    rw [e]
    exact hK m (by omega)⟩
theorem Ev.pos {α : Type} {c : Prop} [Decidable c] {g g' : Nat → Option α} {r : α} (hc : c) (h : Ev g r) : Ev (fun k => if c then g k else g' k) r := by
  obtain ⟨K, hK⟩ := h
  exact ⟨K, fun k hk => by simp only [if_pos hc]; exact hK k hk⟩
theorem Ev.neg {α : Type} {c : Prop} [Decidable c] {g g' : Nat → Option α} {r : α} (hc : ¬ c) (h : Ev g' r) : Ev (fun k => if c then g k else g' k) r := by
  obtain ⟨K, hK⟩ := h
  exact ⟨K, fun k hk => by simp only [if_neg hc]; exact hK k hk⟩
theorem Ev.get {α : Type} {g : Nat → Option α} {r : α} (h : Ev g r) : ∃ k, g k = some r := by
  obtain ⟨K, hK⟩ := h
  exact ⟨K, hK K (Nat.le_refl _)⟩
theorem Ev.to {α : Type} {g : Nat → Option α} {r r' : α} (h : Ev g r) (e : r = r') : Ev g r' := e ▸ h
/-! #### numbers -/
theorem w_id {x : Int} (h0 : -9223372036854775808 ≤ x) (h1 : x ≤ 9223372036854775807) : wrap64 x = x := by
  unfold wrap64
  omega
/-! #### lists -/
theorem rd_nat (l : List Int) (i : Nat) : rd l (i : Int) = l.getD i 0 := by
  unfold rd
  rw [Int.toNat_natCast]
theorem getD_lt {α : Type} {l : List α} {i : Nat} (h : i < l.length) (d : α) : l.getD i d = l[i] := by
  rw [List.getD_eq_getElem?_getD, List.getElem?_eq_getElem h]
  rfl
theorem rd_lt {l : List Int} {i : Nat} (h : i < l.length) : rd l (i : Int) = l[i] := by rw [rd_nat, getD_lt h]
theorem rd_app_lt {l m : List Int} {j : Nat} (h : j < l.length) : rd (l ++ m) (j : Int) = rd l (j : Int) := by
  rw [rd_nat, rd_nat, List.getD_eq_getElem?_getD, List.getD_eq_getElem?_getD, List.getElem?_append_left h]
theorem rd_app_eq {l : List Int} {v : Int} : rd (l ++ [v]) (l.length : Int) = v := by
  rw [rd_nat, List.getD_eq_getElem?_getD, List.getElem?_append_right (Nat.le_refl _)]
  simp
theorem wsucc (i : Nat) (h : i ≤ 4611686018427387904) : wrap64 ((i : Int) + 1) = ((i + 1 : Nat) : Int) := by
  unfold wrap64
  omega
/-- g tells in the end whether p is so. -/
def Dec (g : Nat → Option Bool) (p : Prop) : Prop := ∃ b, Ev g b ∧ (b = true ↔ p)
theorem Dec.yes {g : Nat → Option Bool} {p : Prop} (h : Ev g true) (hp : p) : Dec g p := ⟨true, h, by simp [hp]⟩
theorem Dec.no {g : Nat → Option Bool} {p : Prop} (h : Ev g false) (hp : ¬ p) : Dec g p := ⟨false, h, by simp [hp]⟩
theorem Dec.same {g g' : Nat → Option Bool} {p : Prop} (h : Dec g p) (h' : Dec g' p) : ∃ b, Ev g b ∧ Ev g' b ∧ (b = true ↔ p) := by
  obtain ⟨b, h1, h2⟩ := h
  obtain ⟨b', h3, h4⟩ := h'
  have : b = b' := by
    rw [Bool.eq_iff_iff, h2, h4]
  subst this
  exact ⟨b, h1, h3, h2⟩
theorem Dec.iff {g : Nat → Option Bool} {p q : Prop} (h : Dec g p) (e : p ↔ q) : Dec g q := by
  obtain ⟨b, h1, h2⟩ := h
  exact ⟨b, h1, h2.trans e⟩
theorem all_from {P : Nat → Prop} {i n : Nat} (hi : i < n) : (∀ j, i ≤ j → j < n → P j) ↔ P i ∧ ∀ j, i + 1 ≤ j → j < n → P j := by
  constructor
  · intro h
    exact ⟨h i (Nat.le_refl _) hi, fun j h1 h2 => h j (by omega) h2⟩
  · rintro ⟨h1, h2⟩ j h3 h4
    rcases Nat.lt_or_eq_of_le h3 with h | rfl
    · exact h2 j h h4
    · exact h1
theorem all_none {P : Nat → Prop} {i n : Nat} (hi : n ≤ i) : ∀ j, i ≤ j → j < n → P j := fun j h1 h2 => by omega
/-! #### it tells something, of which P holds -/
def Tot {α : Type} (g : Nat → Option α) (P : α → Prop) : Prop := ∃ r, Ev g r ∧ P r
theorem Tot.of {α : Type} {g : Nat → Option α} {P : α → Prop} {r : α} (h : Ev g r) (hp : P r) : Tot g P := ⟨r, h, hp⟩
theorem Tot.val {α : Type} {P : α → Prop} {r : α} (h : P r) : Tot (fun _ => some r) P := ⟨r, Ev.val r, h⟩
theorem Tot.mono {α : Type} {g : Nat → Option α} {P Q : α → Prop} (h : Tot g P) (hq : ∀ r, P r → Q r) : Tot g Q := by
  obtain ⟨r, h1, h2⟩ := h
  exact ⟨r, h1, hq r h2⟩
theorem Tot.step {α : Type} {g g' : Nat → Option α} {P : α → Prop} (h : Tot g' P) (e : ∀ k, g (k + 1) = g' k) : Tot g P := by
  obtain ⟨r, h1, h2⟩ := h
  exact ⟨r, Ev.step h1 e, h2⟩
theorem Tot.bind {α β : Type} {g : Nat → Option α} {f : Nat → α → Option β} {Q : α → Prop} {P : β → Prop} (h : Tot g Q) (h2 : ∀ a, Q a → Tot (fun k => f k a) P) : Tot (fun k => (g k).bind (f k)) P := by
  obtain ⟨a, ha, hq⟩ := h
  obtain ⟨r, h1, h3⟩ := h2 a hq
  exact ⟨r, Ev.bind ha h1, h3⟩
theorem Tot.pos {α : Type} {c : Prop} [Decidable c] {g g' : Nat → Option α} {P : α → Prop} (hc : c) (h : Tot g P) : Tot (fun k => if c then g k else g' k) P := by
  obtain ⟨r, h1, h2⟩ := h
  exact ⟨r, Ev.pos hc h1, h2⟩
theorem Tot.neg {α : Type} {c : Prop} [Decidable c] {g g' : Nat → Option α} {P : α → Prop} (hc : ¬ c) (h : Tot g' P) : Tot (fun k => if c then g k else g' k) P := by
  obtain ⟨r, h1, h2⟩ := h
  exact ⟨r, Ev.neg hc h1, h2⟩
theorem Tot.ite {α : Type} {c : Prop} [Decidable c] {g g' : Nat → Option α} {P : α → Prop} (h1 : c → Tot g P) (h2 : ¬ c → Tot g' P) : Tot (fun k => if c then g k else g' k) P := by
  by_cases hc : c
  · exact Tot.pos hc (h1 hc)
  · exact Tot.neg hc (h2 hc)
theorem rows_nat (l : List (List Int)) (i : Nat) : rd_L2 l (i : Int) = l.getD i [] := by
  unfold rd_L2
  rw [Int.toNat_natCast]
theorem rows_lt {l : List (List Int)} {i : Nat} (h : i < l.length) : rd_L2 l (i : Int) = l[i] := by rw [rows_nat, getD_lt h]
/-! #### clauses -/
theorem wneg {x : Int} (h0 : -9223372036854775807 ≤ x) (h1 : x ≤ 9223372036854775807) : wrap64 (-x) = -x := w_id (by omega) (by omega)
/-- The atom of a literal. -/
def AbsI (x : Int) : Int := if x < 0 then -x else x
theorem spec_abs {x : Int} (h0 : -9223372036854775807 ≤ x) (h1 : x ≤ 9223372036854775807) : Ev (fun _ => spec_l11Abs.f x) (AbsI x) := by
  unfold spec_l11Abs.f AbsI
  by_cases h : x < 0
  · exact Ev.pos h (Ev.valEq (by rw [wneg h0 h1, if_pos h]))
  · exact Ev.neg h (Ev.valEq (by rw [if_neg h]))
theorem impl_abs {x : Int} (h0 : -9223372036854775807 ≤ x) (h1 : x ≤ 9223372036854775807) : Ev (fun _ => impl_atomOf.f x) (AbsI x) := by
  unfold impl_atomOf.f
  rw [wneg h0 h1]
  refine Ev.valEq ?_
  unfold mx AbsI
  split <;> split <;> omega
theorem in_dec {x a b : Int} : Ev (fun _ => impl_in.f x a b) (decide (a ≤ x ∧ x ≤ b)) := by
  unfold impl_in.f
  by_cases h : x ≥ a
  · refine Ev.pos h (Ev.valEq ?_)
    simp only [decide_eq_decide]
    omega
  · refine Ev.neg h (Ev.valEq ?_)
    symm
    rw [decide_eq_false_iff_not]
    omega
theorem sin_dec {x a b : Int} : Ev (fun _ => spec_l1In.f x a b) (decide (a ≤ x ∧ x ≤ b)) := by
  unfold spec_l1In.f
  by_cases h : x ≥ a
  · refine Ev.pos h (Ev.valEq ?_)
    simp only [decide_eq_decide]
    omega
  · refine Ev.neg h (Ev.valEq ?_)
    symm
    rw [decide_eq_false_iff_not]
    omega
/-- A literal of n atoms. -/
def LitOk (n x : Int) : Prop := x ≠ 0 ∧ -n ≤ x ∧ x ≤ n
instance (n x : Int) : Decidable (LitOk n x) := by unfold LitOk; infer_instance
theorem spec_lit {n x : Int} (hn : -9223372036854775807 ≤ n) (hn2 : n ≤ 9223372036854775807) : Ev (fun _ => spec_l11Lit.f x n) (decide (LitOk n x)) := by
  unfold spec_l11Lit.f
  by_cases h : x = 0
  · exact Ev.pos h (Ev.valEq (by symm; rw [decide_eq_false_iff_not]; exact fun h1 => h1.1 h))
  · rw [wneg hn hn2]
    refine Ev.neg h (Ev.bind sin_dec (Ev.valEq ?_))
    simp only [decide_eq_decide]
    unfold LitOk
    omega
/-- Place j of a clause of n atoms. -/
def PlaceOk (n : Int) (c : List Int) (j : Nat) : Prop := LitOk n (rd c (j : Int)) ∧ (0 < j → AbsI (rd c ((j - 1 : Nat) : Int)) < AbsI (rd c (j : Int)))
def ClauseOk (n : Int) (c : List Int) : Prop := (0 ≤ n ∧ n ≤ 700) ∧ ∀ j : Nat, j < c.length → PlaceOk n c j
theorem spec_clause_loop (n : Int) (hn : 0 ≤ n ∧ n ≤ 700) (c : List Int) (hc : c.length ≤ 1048576) : ∀ (d i : Nat), i + d = c.length → (∀ j : Nat, j < i → PlaceOk n c j) →
    Dec (fun k => spec_ClauseValid.l0 k c n (i : Int)) (∀ j : Nat, i ≤ j → j < c.length → PlaceOk n c j) := by
  intro d
  induction d with
  | zero =>
    intro i hi hp
    refine Dec.yes (Ev.step (Ev.neg (by omega) (Ev.bind sin_dec (Ev.valEq ?_))) (fun k => spec_ClauseValid.l0.eq_2 ..)) (all_none (by omega))
    simp [hn]
  | succ d ih =>
    intro i hi hp
    have hwi := wsucc i (by omega)
    have hlt : i < c.length := by omega
    by_cases h : LitOk n (rd c (i : Int))
    · by_cases h0 : 0 < i
      · have hw : wrap64 ((i : Int) - 1) = ((i - 1 : Nat) : Int) := by rw [w_id (by omega) (by omega)]; omega
        have hq := (hp (i - 1) (by omega)).1
        by_cases h2 : AbsI (rd c (i : Int)) ≤ AbsI (rd c ((i - 1 : Nat) : Int))
        · refine Dec.no (Ev.step ?_ (fun k => spec_ClauseValid.l0.eq_2 ..)) (fun h3 => ?_)
          · rw [hwi, hw]
            refine Ev.pos (by omega) (Ev.pos (by omega) (Ev.bind (spec_lit (by omega) (by omega)) (Ev.pos (by simpa using h) (Ev.pos (by omega) (Ev.bind (spec_abs (by have := h.2; omega) (by have := h.2; omega)) (Ev.pos (by omega) (Ev.pos (by omega) (Ev.bind (spec_abs (by have := hq.2; omega) (by have := hq.2; omega)) (Ev.pos h2 (Ev.val _))))))))))
          · have := (h3 i (Nat.le_refl _) hlt).2 h0
            omega
        · obtain ⟨b, hb, hbi⟩ := ih (i + 1) (by omega) (fun j hj => by
            rcases Nat.lt_succ_iff_lt_or_eq.mp hj with h5 | rfl
            · exact hp j h5
            · exact ⟨h, fun _ => by omega⟩)
          refine ⟨b, Ev.step ?_ (fun k => spec_ClauseValid.l0.eq_2 ..), ?_⟩
          · rw [hwi, hw]
            refine Ev.pos (by omega) (Ev.pos (by omega) (Ev.bind (spec_lit (by omega) (by omega)) (Ev.pos (by simpa using h) (Ev.pos (by omega) (Ev.bind (spec_abs (by have := h.2; omega) (by have := h.2; omega)) (Ev.pos (by omega) (Ev.pos (by omega) (Ev.bind (spec_abs (by have := hq.2; omega) (by have := hq.2; omega)) (Ev.neg h2 hb)))))))))
          · rw [hbi, all_from (P := PlaceOk n c) hlt]
            exact ⟨fun h3 => ⟨⟨h, fun _ => by omega⟩, h3⟩, fun h3 => h3.2⟩
      · obtain ⟨b, hb, hbi⟩ := ih (i + 1) (by omega) (fun j hj => by
          rcases Nat.lt_succ_iff_lt_or_eq.mp hj with h5 | rfl
          · exact hp j h5
          · exact ⟨h, fun h6 => absurd h6 h0⟩)
        refine ⟨b, Ev.step ?_ (fun k => spec_ClauseValid.l0.eq_2 ..), ?_⟩
        · rw [hwi]
          exact Ev.pos (by omega) (Ev.pos (by omega) (Ev.bind (spec_lit (by omega) (by omega)) (Ev.pos (by simpa using h) (Ev.neg (by omega) hb))))
        · rw [hbi, all_from (P := PlaceOk n c) hlt]
          exact ⟨fun h3 => ⟨⟨h, fun h6 => absurd h6 h0⟩, h3⟩, fun h3 => h3.2⟩
    · refine Dec.no (Ev.step (Ev.pos (by omega) (Ev.pos (by omega) (Ev.bind (spec_lit (by omega) (by omega)) (Ev.neg (by simpa using h) (Ev.val _))))) (fun k => spec_ClauseValid.l0.eq_2 ..)) (fun h3 => h (h3 i (Nat.le_refl _) hlt).1)
theorem impl_clause_loop (n : Int) (hn : 0 ≤ n ∧ n ≤ 700) (c : List Int) (hc : c.length ≤ 1048576) : ∀ (d i : Nat), i + d = c.length → (∀ j : Nat, j < i → PlaceOk n c j) →
    Dec (fun k => impl_ClauseValid.l0 k c n c (c.length : Int) (i : Int)) (∀ j : Nat, i ≤ j → j < c.length → PlaceOk n c j) := by
  intro d
  have hwn := wneg (x := n) (by omega) (by omega)
  induction d with
  | zero =>
    intro i hi hp
    exact Dec.yes (Ev.step (Ev.neg (by omega) (Ev.val _)) (fun k => impl_ClauseValid.l0.eq_2 ..)) (all_none (by omega))
  | succ d ih =>
    intro i hi hp
    have hwi := wsucc i (by omega)
    have hlt : i < c.length := by omega
    by_cases hr : -n ≤ rd c (i : Int) ∧ rd c (i : Int) ≤ n
    · by_cases hz : rd c (i : Int) = 0
      · refine Dec.no (Ev.step ?_ (fun k => impl_ClauseValid.l0.eq_2 ..)) (fun h3 => (h3 i (Nat.le_refl _) hlt).1.1 hz)
        rw [hwn]
        exact Ev.pos (by omega) (Ev.pos (by omega) (Ev.pos (by omega) (Ev.bind in_dec (Ev.pos (by simpa using hr) (Ev.pos hz (Ev.val _))))))
      · have h : LitOk n (rd c (i : Int)) := ⟨hz, hr⟩
        by_cases h0 : 0 < i
        · have hw : wrap64 ((i : Int) - 1) = ((i - 1 : Nat) : Int) := by rw [w_id (by omega) (by omega)]; omega
          have hq := (hp (i - 1) (by omega)).1
          by_cases h2 : AbsI (rd c ((i - 1 : Nat) : Int)) ≥ AbsI (rd c (i : Int))
          · refine Dec.no (Ev.step ?_ (fun k => impl_ClauseValid.l0.eq_2 ..)) (fun h3 => ?_)
            · rw [hwi, hw, hwn]
              exact Ev.pos (by omega) (Ev.pos (by omega) (Ev.pos (by omega) (Ev.bind in_dec (Ev.pos (by simpa using hr) (Ev.neg hz (Ev.pos (by omega) (Ev.pos (by omega) (Ev.pos (by omega) (Ev.bind (impl_abs (by have := hq.2; omega) (by have := hq.2; omega)) (Ev.bind (impl_abs (by have := h.2; omega) (by have := h.2; omega)) (Ev.pos h2 (Ev.val _))))))))))))
            · have := (h3 i (Nat.le_refl _) hlt).2 h0
              omega
          · obtain ⟨b, hb, hbi⟩ := ih (i + 1) (by omega) (fun j hj => by
              rcases Nat.lt_succ_iff_lt_or_eq.mp hj with h5 | rfl
              · exact hp j h5
              · exact ⟨h, fun _ => by omega⟩)
            refine ⟨b, Ev.step ?_ (fun k => impl_ClauseValid.l0.eq_2 ..), ?_⟩
            · rw [hwi, hw, hwn]
              exact Ev.pos (by omega) (Ev.pos (by omega) (Ev.pos (by omega) (Ev.bind in_dec (Ev.pos (by simpa using hr) (Ev.neg hz (Ev.pos (by omega) (Ev.pos (by omega) (Ev.pos (by omega) (Ev.bind (impl_abs (by have := hq.2; omega) (by have := hq.2; omega)) (Ev.bind (impl_abs (by have := h.2; omega) (by have := h.2; omega)) (Ev.neg h2 hb)))))))))))
            · rw [hbi, all_from (P := PlaceOk n c) hlt]
              exact ⟨fun h3 => ⟨⟨h, fun _ => by omega⟩, h3⟩, fun h3 => h3.2⟩
        · obtain ⟨b, hb, hbi⟩ := ih (i + 1) (by omega) (fun j hj => by
            rcases Nat.lt_succ_iff_lt_or_eq.mp hj with h5 | rfl
            · exact hp j h5
            · exact ⟨h, fun h6 => absurd h6 h0⟩)
          refine ⟨b, Ev.step ?_ (fun k => impl_ClauseValid.l0.eq_2 ..), ?_⟩
          · rw [hwi, hwn]
            exact Ev.pos (by omega) (Ev.pos (by omega) (Ev.pos (by omega) (Ev.bind in_dec (Ev.pos (by simpa using hr) (Ev.neg hz (Ev.neg (by omega) hb))))))
          · rw [hbi, all_from (P := PlaceOk n c) hlt]
            exact ⟨fun h3 => ⟨⟨h, fun h6 => absurd h6 h0⟩, h3⟩, fun h3 => h3.2⟩
    · refine Dec.no (Ev.step ?_ (fun k => impl_ClauseValid.l0.eq_2 ..)) (fun h3 => hr (h3 i (Nat.le_refl _) hlt).1.2)
      rw [hwn]
      exact Ev.pos (by omega) (Ev.pos (by omega) (Ev.pos (by omega) (Ev.bind in_dec (Ev.neg (by simpa using hr) (Ev.val _)))))
/-- Of any number of atoms, the reference tells something. -/
theorem spec_clause_any_loop (n : Int) (hn : ¬ (0 ≤ n ∧ n ≤ 700)) (c : List Int) (hc : c.length ≤ 1048576) : ∀ (d i : Nat), i + d = c.length → Ev (fun k => spec_ClauseValid.l0 k c n (i : Int)) false := by
  intro d
  induction d with
  | zero =>
    intro i hi
    refine Ev.step (Ev.neg (by omega) (Ev.bind sin_dec (Ev.valEq ?_))) (fun k => spec_ClauseValid.l0.eq_2 ..)
    simpa using hn
  | succ d ih =>
    intro i hi
    have hwi := wsucc i (by omega)
    have hlit : ∃ b, Ev (fun _ => spec_l11Lit.f (rd c (i : Int)) n) b := by
      unfold spec_l11Lit.f
      by_cases h : rd c (i : Int) = 0
      · exact ⟨_, Ev.pos h (Ev.val _)⟩
      · exact ⟨_, Ev.neg h (Ev.bind sin_dec (Ev.val _))⟩
    have habs : ∀ x : Int, ∃ b, Ev (fun _ => spec_l11Abs.f x) b := by
      intro x
      unfold spec_l11Abs.f
      by_cases h : x < 0
      · exact ⟨_, Ev.pos h (Ev.val _)⟩
      · exact ⟨_, Ev.neg h (Ev.val _)⟩
    obtain ⟨b, hb⟩ := hlit
    refine Ev.step ?_ (fun k => spec_ClauseValid.l0.eq_2 ..)
    rw [hwi]
    refine Ev.pos (by omega) (Ev.pos (by omega) (Ev.bind hb ?_))
    cases b with
    | false => exact Ev.neg (by decide) (Ev.val _)
    | true =>
      refine Ev.pos rfl ?_
      by_cases h0 : (i : Int) > 0
      · have hw : wrap64 ((i : Int) - 1) = ((i - 1 : Nat) : Int) := by rw [w_id (by omega) (by omega)]; omega
        rw [hw]
        obtain ⟨p, hp⟩ := habs (rd c (i : Int))
        obtain ⟨q, hq⟩ := habs (rd c ((i - 1 : Nat) : Int))
        refine Ev.pos h0 (Ev.bind hp (Ev.pos (by omega) (Ev.pos (by omega) (Ev.bind hq ?_))))
        by_cases h2 : p ≤ q
        · exact Ev.pos h2 (Ev.val _)
        · exact Ev.neg h2 (ih (i + 1) (by omega))
      · exact Ev.neg h0 (ih (i + 1) (by omega))
theorem spec_clause (n : Int) (c : List Int) (hc : c.length ≤ 1048576) : Dec (fun k => spec_ClauseValid.f k c n) (ClauseOk n c) := by
  unfold spec_ClauseValid.f
  by_cases hn : 0 ≤ n ∧ n ≤ 700
  · exact (spec_clause_loop n hn c hc c.length 0 (by omega) (fun j hj => by omega)).iff ⟨fun h => ⟨hn, fun j hj => h j (by omega) hj⟩, fun h j _ hj => h.2 j hj⟩
  · exact Dec.no (spec_clause_any_loop n hn c hc c.length 0 (by omega)) (fun h => hn h.1)
theorem impl_clause (n : Int) (c : List Int) (hc : c.length ≤ 1048576) : Dec (fun k => impl_ClauseValid.f k c n) (ClauseOk n c) := by
  unfold impl_ClauseValid.f
  by_cases hn : 0 ≤ n ∧ n ≤ 700
  · obtain ⟨b, h1, h2⟩ := impl_clause_loop n hn c hc c.length 0 (by omega) (fun j hj => by omega)
    exact ⟨b, Ev.bind in_dec (Ev.pos (by simpa using hn) h1), h2.trans ⟨fun h => ⟨hn, fun j hj => h j (by omega) hj⟩, fun h j _ hj => h.2 j hj⟩⟩
  · exact Dec.no (Ev.bind in_dec (Ev.neg (by simpa using hn) (Ev.val _))) (fun h => hn h.1)
/-- Clauses of n atoms. -/
def ClausesOk (n : Int) (l : List (List Int)) : Prop := (0 ≤ n ∧ n ≤ 700) ∧ l.length ≤ 2500 ∧ ∀ j : Nat, j < l.length → ClauseOk n (rd_L2 l (j : Int))
def Small (l : List (List Int)) : Prop := l.length ≤ 1048576 ∧ ∀ j : Nat, j < l.length → (rd_L2 l (j : Int)).length ≤ 1048576
theorem spec_clauses_loop (n : Int) (l : List (List Int)) (hl : Small l) : ∀ (d i : Nat), i + d = l.length →
    Dec (fun k => spec_ClausesValid.l0 k (i : Int) n l) (∀ j : Nat, i ≤ j → j < l.length → ClauseOk n (rd_L2 l (j : Int))) := by
  intro d
  have h1 := hl.1
  induction d with
  | zero =>
    intro i hi
    exact Dec.yes (Ev.step (Ev.neg (by omega) (Ev.val _)) (fun k => spec_ClausesValid.l0.eq_2 ..)) (all_none (by omega))
  | succ d ih =>
    intro i hi
    have hwi := wsucc i (by omega)
    have hlt : i < l.length := by omega
    obtain ⟨b, hb, hbi⟩ := spec_clause n (rd_L2 l (i : Int)) (hl.2 i hlt)
    cases b with
    | false => exact Dec.no (Ev.step (Ev.pos (by omega) (Ev.pos (by omega) (Ev.bind hb (Ev.neg (by decide) (Ev.val _))))) (fun k => spec_ClausesValid.l0.eq_2 ..)) (fun h => by simpa using hbi.mpr (h i (Nat.le_refl _) hlt))
    | true =>
      obtain ⟨b2, hb2, hbi2⟩ := ih (i + 1) (by omega)
      refine ⟨b2, Ev.step ?_ (fun k => spec_ClausesValid.l0.eq_2 ..), ?_⟩
      · rw [hwi]
        exact Ev.pos (by omega) (Ev.pos (by omega) (Ev.bind hb (Ev.pos rfl hb2)))
      · rw [hbi2, all_from (P := fun j => ClauseOk n (rd_L2 l (j : Int))) hlt]
        exact ⟨fun h => ⟨hbi.mp rfl, h⟩, fun h => h.2⟩
theorem spec_clauses (n : Int) (l : List (List Int)) (hl : Small l) : Dec (fun k => spec_ClausesValid.f k n l) (ClausesOk n l) := by
  unfold spec_ClausesValid.f
  by_cases hn : 0 ≤ n ∧ n ≤ 700
  · by_cases h2 : (l.length : Int) > 2500
    · refine Dec.no (Ev.bind sin_dec (Ev.pos (by simpa using hn) (Ev.step (Ev.pos (by simpa using h2) (Ev.val _)) (fun k => spec_ClausesValid.j0.eq_2 ..)))) (fun h => by have := h.2.1; omega)
    · obtain ⟨b, hb, hbi⟩ := spec_clauses_loop n l hl l.length 0 (by omega)
      exact ⟨b, Ev.bind sin_dec (Ev.pos (by simpa using hn) (Ev.step (Ev.neg (by simpa using h2) hb) (fun k => spec_ClausesValid.j0.eq_2 ..))), hbi.trans ⟨fun h => ⟨hn, by omega, fun j hj => h j (by omega) hj⟩, fun h j _ hj => h.2.2 j hj⟩⟩
  · exact Dec.no (Ev.bind sin_dec (Ev.neg (by simpa using hn) (Ev.step (Ev.pos rfl (Ev.val _)) (fun k => spec_ClausesValid.j0.eq_2 ..)))) (fun h => hn h.1)
theorem idx_tot (p : Nat → Int → Option Bool) (P : Nat → Prop) (m : Nat) (hp : ∀ j : Nat, j < m → Dec (fun k => p k (j : Int)) (P j)) : ∀ (d i : Nat), i + d = m →
    Tot (fun k => Copy.idxO (p k) d (i : Int)) (fun r => 0 ≤ r ↔ ∃ j : Nat, i ≤ j ∧ j < m ∧ P j) := by
  intro d
  induction d with
  | zero =>
    intro i hi
    exact Tot.val ⟨fun h => by omega, fun ⟨j, h1, h2, _⟩ => by omega⟩
  | succ d ih =>
    intro i hi
    obtain ⟨b, hb, hbi⟩ := hp i (by omega)
    cases b with
    | true => exact ⟨(i : Int), Ev.bind hb (Ev.pos rfl (Ev.val _)), fun _ => ⟨i, Nat.le_refl _, by omega, hbi.mp rfl⟩, fun _ => by omega⟩
    | false =>
      obtain ⟨r, hr, hri⟩ := ih (i + 1) (by omega)
      refine ⟨r, Ev.bind hb (Ev.neg (by decide) ?_), hri.trans ?_⟩
      · have e : ((i + 1 : Nat) : Int) = (i : Int) + 1 := by omega
        rw [← e]
        exact hr
      · constructor
        · rintro ⟨j, h1, h2, h3⟩
          exact ⟨j, by omega, h2, h3⟩
        · rintro ⟨j, h1, h2, h3⟩
          rcases Nat.lt_or_eq_of_le h1 with h4 | rfl
          · exact ⟨j, h4, h2, h3⟩
          · exact absurd (hbi.mpr h3) (by decide)
theorem impl_clauses (n : Int) (l : List (List Int)) (hl : Small l) : Dec (fun k => impl_ClausesValid.f k n l) (ClausesOk n l) := by
  unfold impl_ClausesValid.f
  by_cases hn : 0 ≤ n ∧ n ≤ 700
  · by_cases h2 : (l.length : Int) ≤ 2500
    · obtain ⟨r, hr, hri⟩ := idx_tot (fun k i => impl_ClausesValid.p k n l i) (fun j => ¬ ClauseOk n (rd_L2 l (j : Int))) l.length (fun j hj => by
        unfold impl_ClausesValid.p
        obtain ⟨b, hb, hbi⟩ := impl_clause n (rd_L2 l (j : Int)) (hl.2 j hj)
        exact ⟨!b, Ev.bind hb (Ev.val _), by rw [← hbi]; cases b <;> simp⟩) l.length 0 (by omega)
      refine ⟨!(decide (0 ≤ r)), Ev.bind in_dec (Ev.pos (by simpa using hn) (Ev.pos h2 (Ev.bind hr (Ev.val _)))), ?_⟩
      rw [Bool.not_eq_true', decide_eq_false_iff_not, hri]
      constructor
      · intro h
        refine ⟨hn, by omega, fun j hj => Classical.byContradiction fun h3 => h ⟨j, by omega, hj, h3⟩⟩
      · rintro h ⟨j, _, hj, h3⟩
        exact h3 (h.2.2 j hj)
    · exact Dec.no (Ev.bind in_dec (Ev.pos (by simpa using hn) (Ev.neg h2 (Ev.val _)))) (fun h => by have := h.2.1; omega)
  · exact Dec.no (Ev.bind in_dec (Ev.neg (by simpa using hn) (Ev.val _))) (fun h => hn h.1)
/-! #### what clauses force: the reference's signs are literals, the program's are 1 and -1 -/
theorem absN (x : Int) : AbsI x = ((x.natAbs : Nat) : Int) := by unfold AbsI; split <;> omega
/-! #### the drawer of numbers -/
def Drawer (b : List Int) : Prop := b.length ≤ 2000 ∧ ∀ j : Nat, j < b.length → 0 ≤ rd b (j : Int) ∧ rd b (j : Int) ≤ 255
theorem xor_nonneg (a c : Int) (ha : 0 ≤ a) (ha2 : a < 4611686018427387904) (hc : 0 ≤ c) (hc2 : c < 4611686018427387904) : 0 ≤ Go.bits .xor .i64 a c := by
  obtain ⟨m, rfl⟩ := Int.eq_ofNat_of_zero_le ha
  obtain ⟨n, rfl⟩ := Int.eq_ofNat_of_zero_le hc
  have hm : m < 2 ^ 62 := by omega
  have hn : n < 2 ^ 62 := by omega
  have hx := Nat.xor_lt_two_pow hm hn
  have hm' : m % 2 ^ 64 = m := Nat.mod_eq_of_lt (by omega)
  have hn' : n % 2 ^ 64 = n := Nat.mod_eq_of_lt (by omega)
  have e : (BitVec.ofInt 64 (m : Int) ^^^ BitVec.ofInt 64 (n : Int)).toNat = m ^^^ n := by
    rw [BitVec.ofInt_natCast, BitVec.ofInt_natCast, BitVec.toNat_xor, BitVec.toNat_ofNat, BitVec.toNat_ofNat, hm', hn']
  have e2 : Go.bits .xor .i64 (m : Int) (n : Int) = IntKind.i64.wrap ((BitVec.ofInt 64 (m : Int) ^^^ BitVec.ofInt 64 (n : Int)).toNat : Int) := rfl
  rw [e2, e, IntKind.wrap_i64]
  omega
theorem tmod_range (x n : Int) (h0 : 0 ≤ x) (hn : 1 ≤ n) : 0 ≤ Int.tmod x n ∧ Int.tmod x n < n := by
  rw [Int.tmod_eq_emod_of_nonneg h0]
  exact ⟨Int.emod_nonneg _ (by omega), Int.emod_lt_of_pos _ (by omega)⟩
theorem pick_tot (b : List Int) (hb : Drawer b) (p n : Int) (hp : 0 ≤ p) (hp2 : p ≤ 1000000) :
    Tot (fun k => spec_l40Rd_pick.f k b p n) (fun r => r.2 = p + 1 ∧ 0 ≤ r.1 ∧ (1 ≤ n → r.1 < n)) := by
  obtain ⟨hl, hbb⟩ := hb
  have w1 : wrap64 (p + 1) = p + 1 := w_id (by omega) (by omega)
  have w2 : wrap64 (p + 1 - 1) = p := by rw [w_id (by omega) (by omega)]; omega
  have byte : ∀ z : Int, 0 ≤ z → z < (b.length : Int) → 0 ≤ rd b z ∧ rd b z ≤ 255 := by
    intro z h0 h1
    obtain ⟨m, rfl⟩ := Int.eq_ofNat_of_zero_le h0
    exact hbb m (by omega)
  unfold spec_l40Rd_pick.f
  rw [w1]
  refine Tot.ite (fun hn => ?_) (fun hn => ?_)
  · refine Tot.step (Tot.pos rfl (Tot.val ?_)) (fun k => spec_l40Rd_pick.j0.eq_2 ..)
    exact ⟨rfl, Int.le_refl _, fun h => by omega⟩
  · refine Tot.step ?_ (fun k => spec_l40Rd_pick.j0.eq_2 ..)
    refine Tot.ite (fun hz => Tot.val ⟨rfl, Int.le_refl _, fun h => by show (0 : Int) < n; omega⟩) (fun hz => ?_)
    have hlen : (b.length : Int) ≠ 0 := by simpa using hz
    rw [w2]
    refine Tot.ite (fun hpl => ?_) (fun hpl => ?_)
    · obtain ⟨y0, y1⟩ := byte p hp hpl
      refine Tot.pos hp (Tot.neg (by omega) (Tot.val ?_))
      rw [w_id (by omega) (by omega)]
      obtain ⟨z0, z1⟩ := tmod_range (rd b p) n y0 (by omega)
      exact ⟨rfl, z0, fun _ => z1⟩
    · obtain ⟨i0, i1⟩ := tmod_range p (b.length : Int) hp (by omega)
      have w3 : wrap64 (p * 7) = p * 7 := w_id (by omega) (by omega)
      have w4 : wrap64 (p * 7 + 3) = p * 7 + 3 := w_id (by omega) (by omega)
      rw [w3, w4]
      obtain ⟨j0, j1⟩ := tmod_range (p * 7 + 3) (b.length : Int) (by omega) (by omega)
      refine Tot.neg (by omega) (Tot.pos i0 (Tot.pos i1 (Tot.pos j0 (Tot.pos j1 (Tot.neg (by omega) (Tot.val ?_))))))
      obtain ⟨u0, u1⟩ := byte _ i0 i1
      obtain ⟨v0, v1⟩ := byte _ j0 j1
      generalize rd b (Int.tmod p (b.length : Int)) = u at u0 u1 ⊢
      generalize rd b (Int.tmod (p * 7 + 3) (b.length : Int)) = v at v0 v1 ⊢
      have q0 : 0 ≤ Int.tdiv p (b.length : Int) ∧ Int.tdiv p (b.length : Int) ≤ p := by
        rw [Int.tdiv_eq_ediv_of_nonneg hp]
        exact ⟨Int.ediv_nonneg hp (by omega), Int.ediv_le_self _ hp⟩
      generalize Int.tdiv p (b.length : Int) = q at q0 ⊢
      rw [w_id (x := u) (by omega) (by omega), w_id (x := v) (by omega) (by omega), w_id (x := q) (by omega) (by omega), w_id (x := u * 131) (by omega) (by omega), w_id (x := v * 1117) (by omega) (by omega),
        w_id (x := p * 29) (by omega) (by omega), w_id (x := q * 53) (by omega) (by omega), w_id (x := u * 131 + v * 1117) (by omega) (by omega), w_id (x := u * 131 + v * 1117 + p * 29) (by omega) (by omega), w_id (x := u * 131 + v * 1117 + p * 29 + q * 53) (by omega) (by omega)]
      generalize hA : u * 131 + v * 1117 + p * 29 + q * 53 = A
      have hA0 : 0 ≤ A ∧ A ≤ 1000000000 := by omega
      have hd : 0 ≤ Int.tdiv A 64 ∧ Int.tdiv A 64 ≤ A := by
        rw [Int.tdiv_eq_ediv_of_nonneg hA0.1]
        omega
      rw [w_id (x := Int.tdiv A 64) (by omega) (by omega)]
      have hx := xor_nonneg A (Int.tdiv A 64) hA0.1 (by omega) hd.1 (by omega)
      obtain ⟨z0, z1⟩ := tmod_range _ n hx (by omega)
      exact ⟨rfl, z0, fun _ => z1⟩
theorem num_tot (b : List Int) (hb : Drawer b) (p : Int) (l : List Int) (hp : 0 ≤ p) (hp2 : p ≤ 1000000) (hl : 1 ≤ l.length) :
    Tot (fun k => spec_l40Rd_num.f k b p l) (fun r => r.2 = p + 1 ∧ r.1 ∈ l) := by
  unfold spec_l40Rd_num.f
  refine Tot.bind (pick_tot b hb p (l.length : Int) hp hp2) ?_
  rintro ⟨x, q⟩ ⟨h1, h2, h3⟩
  have h4 := h3 (by omega)
  refine Tot.pos h2 (Tot.pos h4 (Tot.val ⟨h1, ?_⟩))
  show rd l x ∈ l
  obtain ⟨m, rfl⟩ := Int.eq_ofNat_of_zero_le h2
  rw [rd_lt (by show m < _; simp only at h4; omega)]
  exact List.getElem_mem _
theorem open_tot (code : List Int) (hc : ∀ x ∈ code, (Lit.int .u8 x).wf = true) : ∃ b, spec_l40Open.f code = some (b, 0) ∧ Drawer b := by
  have byte : ∀ b : List Int, (∀ x ∈ b, x ∈ code) → ∀ j : Nat, j < b.length → 0 ≤ rd b (j : Int) ∧ rd b (j : Int) ≤ 255 := by
    intro b hs j hj
    rw [rd_lt hj]
    have := hc _ (hs _ (List.getElem_mem hj))
    simp [Lit.wf, IntKind.min, IntKind.max, IntKind.signed, IntKind.bits] at this
    omega
  unfold spec_l40Open.f
  by_cases c : (code.length : Int) > 2000
  · rw [if_pos c, if_pos (by omega)]
    refine ⟨_, rfl, by simp; omega, byte _ (fun x hx => List.mem_of_mem_take hx)⟩
  · rw [if_neg c]
    exact ⟨_, rfl, by omega, byte _ (fun x hx => hx)⟩
/-! #### drawn clauses: something is drawn, and it isn't great -/
theorem has_tot (l : List Int) (hl : l.length ≤ 1048576) (x : Int) : ∀ (d i : Nat), i + d = l.length → Tot (fun k => spec_l2Has.l0 k l x (i : Int)) (fun b => b = true ↔ ∃ j : Nat, i ≤ j ∧ j < l.length ∧ rd l (j : Int) = x) := by
  intro d
  induction d with
  | zero =>
    intro i hi
    exact Tot.step (Tot.neg (by omega) (Tot.val ⟨(fun h => by cases h), (fun ⟨j, h1, h2, _⟩ => by omega)⟩)) (fun k => spec_l2Has.l0.eq_2 ..)
  | succ d ih =>
    intro i hi
    have hwi := wsucc i (by omega)
    refine Tot.step (Tot.pos (by omega) (Tot.pos (by omega) ?_)) (fun k => spec_l2Has.l0.eq_2 ..)
    rw [hwi]
    refine Tot.ite (fun h => Tot.val ⟨fun _ => ⟨i, Nat.le_refl _, by omega, h⟩, fun _ => rfl⟩) (fun h => (ih (i + 1) (by omega)).mono (fun b hb => hb.trans ?_))
    constructor
    · rintro ⟨j, h1, h2, h3⟩
      exact ⟨j, by omega, h2, h3⟩
    · rintro ⟨j, h1, h2, h3⟩
      rcases Nat.lt_or_eq_of_le h1 with h4 | rfl
      · exact ⟨j, h4, h2, h3⟩
      · exact absurd h3 h
theorem has_dec (l : List Int) (hl : l.length ≤ 1048576) (x : Int) : Dec (fun k => spec_l2Has.f k l x) (∃ j : Nat, j < l.length ∧ rd l (j : Int) = x) := by
  unfold spec_l2Has.f
  obtain ⟨b, h1, h2⟩ := has_tot l hl x l.length 0 (by omega)
  exact ⟨b, h1, h2.trans ⟨fun ⟨j, _, h3, h4⟩ => ⟨j, h3, h4⟩, fun ⟨j, h3, h4⟩ => ⟨j, Nat.zero_le _, h3, h4⟩⟩⟩
/-- The reference's clause of literals: something, and not more than there are atoms. -/
theorem clause_tell (n : Nat) (hn : n ≤ 1000) (v : List Int) (hv : v.length = n + 1) : ∀ (d a : Nat) (out : List Int), a + d = n → out.length ≤ a → Tot (fun k => spec_l11Clause.l1 k (n : Int) v out ((a + 1 : Nat) : Int)) (fun r => r.1.length ≤ n) := by
  intro d
  induction d with
  | zero =>
    intro a out ha h1
    exact Tot.step (Tot.neg (by omega) (Tot.val (by show out.length ≤ n; omega))) (fun k => spec_l11Clause.l1.eq_2 ..)
  | succ d ih =>
    intro a out ha h1
    have hwi := wsucc (a + 1) (by omega)
    refine Tot.step (Tot.pos (by omega) (Tot.pos (by omega) (Tot.pos (by omega) ?_))) (fun k => spec_l11Clause.l1.eq_2 ..)
    rw [hwi]
    exact Tot.ite (fun _ => ih (a + 1) out (by omega) (by omega)) (fun _ => Tot.pos (by omega) (ih (a + 1) _ (by omega) (by simp; omega)))
theorem clause_tot_loop (n : Nat) (hn : n ≤ 1000) (m : List Int) (hml : m.length ≤ 1048576) (hm : ∀ j : Nat, j < m.length → LitOk (n : Int) (rd m (j : Int))) : ∀ (d i : Nat) (v : List Int), i + d = m.length → v.length = n + 1 → Tot (fun k => spec_l11Clause.l0 k m (n : Int) v (i : Int)) (fun r => r.1.length ≤ n) := by
  intro d
  induction d with
  | zero =>
    intro i v hi hv
    exact Tot.step (Tot.neg (by omega) (clause_tell n hn v hv n 0 [] (by omega) (by simp))) (fun k => spec_l11Clause.l0.eq_2 ..)
  | succ d ih =>
    intro i v hi hv
    have hwi := wsucc i (by omega)
    obtain ⟨x0, x1, x2⟩ := hm i (by omega)
    refine Tot.step (Tot.pos (by omega) (Tot.pos (by omega) (Tot.bind (Tot.of (P := fun r => r = AbsI (rd m (i : Int))) (spec_abs (by omega) (by omega)) rfl) ?_))) (fun k => spec_l11Clause.l0.eq_2 ..)
    rintro _ rfl
    rw [absN, Int.toNat_natCast, hwi]
    refine Tot.pos (by omega) (Tot.pos (by omega) ?_)
    have hgo := ih (i + 1) (v.set (rd m (i : Int)).natAbs (rd m (i : Int))) (by omega) (by simpa using hv)
    exact Tot.ite (fun _ => hgo) (fun _ => Tot.ite (fun _ => hgo) (fun _ => Tot.val (by simp)))
theorem clause_tot (n : Nat) (hn : n ≤ 1000) (m : List Int) (hml : m.length ≤ 1048576) (hm : ∀ j : Nat, j < m.length → LitOk (n : Int) (rd m (j : Int))) : Tot (fun k => spec_l11Clause.f k m (n : Int)) (fun r => r.1.length ≤ n) := by
  have hwn : wrap64 ((n : Int) + 1) = ((n + 1 : Nat) : Int) := wsucc n (by omega)
  unfold spec_l11Clause.f
  rw [hwn, Int.toNat_natCast]
  exact Tot.pos (by omega) (Tot.pos (by omega) (clause_tot_loop n hn m hml hm m.length 0 _ (by omega) (by simp)))
theorem lits_loop (b : List Int) (hb : Drawer b) (n : Nat) (hn : n ≤ 1000) (w : Int) (hw : w ≤ 20) : ∀ (d : Nat) (i : Int) (l : List Int) (p : Int), (d : Int) = w - i → 0 ≤ i → (l.length : Int) ≤ i → (∀ j : Nat, j < l.length → LitOk (n : Int) (rd l (j : Int))) → 0 ≤ p → p + 2 * d ≤ 900000 →
    Tot (fun k => spec_l11Lits.l0 k (n : Int) w l i b p) (fun r => r.1.length ≤ n ∧ p ≤ r.2 ∧ r.2 ≤ p + 2 * d) := by
  intro d
  induction d with
  | zero =>
    intro i l p hd h0 hl hlit hp hp2
    refine Tot.step (Tot.neg (by omega) (Tot.step (Tot.neg (by decide) (Tot.bind (clause_tot n hn l (by omega) hlit) ?_)) (fun k => spec_l11Lits.j1.eq_2 ..))) (fun k => spec_l11Lits.l0.eq_2 ..)
    intro r hr
    exact Tot.val ⟨hr, Int.le_refl _, by simp⟩
  | succ d ih =>
    intro i l p hd h0 hl hlit hp hp2
    have hwi : wrap64 (i + 1) = i + 1 := w_id (by omega) (by omega)
    refine Tot.step (Tot.pos (by omega) (Tot.step (Tot.ite (fun hn0 => ?_) (fun hn0 => ?_)) (fun k => spec_l11Lits.j1.eq_2 ..))) (fun k => spec_l11Lits.l0.eq_2 ..)
    · have hn1 : 1 ≤ n := by
        have := of_decide_eq_true hn0
        omega
      refine Tot.bind (pick_tot b hb p (n : Int) hp (by omega)) ?_
      rintro ⟨x, q⟩ ⟨e1, e2, e3⟩
      simp only at e1 e2 e3 ⊢
      subst e1
      have e4 := e3 (by omega)
      refine Tot.bind (pick_tot b hb (p + 1) 2 (by omega) (by omega)) ?_
      rintro ⟨y, q⟩ ⟨e1, _, _⟩
      simp only at e1 ⊢
      subst e1
      have w1 : wrap64 (1 + x) = 1 + x := w_id (by omega) (by omega)
      have w2 : wrap64 (-(1 + x)) = -(1 + x) := w_id (by omega) (by omega)
      have w3 : wrap64 (- -(1 + x)) = 1 + x := by rw [Int.neg_neg]; exact w1
      rw [w1, w2, w3, hwi]
      have step : ∀ (z u : Int), LitOk (n : Int) z → Tot (fun k => (spec_l2Has.f k l u).bind fun t => if t = true then spec_l11Lits.l0 k (n : Int) w l (i + 1) b (p + 1 + 1) else if l.length < 17592186044416 then spec_l11Lits.l0 k (n : Int) w (l ++ [z]) (i + 1) b (p + 1 + 1) else none) (fun r => r.1.length ≤ n ∧ p ≤ r.2 ∧ r.2 ≤ p + 2 * ((d + 1 : Nat) : Int)) := by
        intro z u hz
        obtain ⟨bb, h1, _⟩ := has_dec l (by omega) u
        refine Tot.bind (Tot.of (P := fun _ => True) h1 trivial) (fun c _ => ?_)
        refine Tot.ite (fun _ => ?_) (fun _ => Tot.pos (by omega) ?_)
        · refine (ih (i + 1) l (p + 1 + 1) (by omega) (by omega) (by omega) hlit (by omega) (by omega)).mono ?_
          rintro r ⟨r1, r2, r3⟩
          exact ⟨r1, by omega, by omega⟩
        · refine (ih (i + 1) (l ++ [z]) (p + 1 + 1) (by omega) (by omega) (by simp; omega) (fun j hj => ?_) (by omega) (by omega)).mono ?_
          · simp at hj
            by_cases e : j = l.length
            · subst e
              rw [rd_app_eq]
              exact hz
            · rw [rd_app_lt (by omega)]
              exact hlit j (by omega)
          · rintro r ⟨r1, r2, r3⟩
            exact ⟨r1, by omega, by omega⟩
      exact Tot.ite (fun _ => step _ _ ⟨by omega, by omega, by omega⟩) (fun _ => step _ _ ⟨by omega, by omega, by omega⟩)
    · refine Tot.bind (clause_tot n hn l (by omega) hlit) ?_
      intro r hr
      exact Tot.val ⟨hr, Int.le_refl _, by show p ≤ p + 2 * ((d + 1 : Nat) : Int); omega⟩
theorem lits_tot (b : List Int) (hb : Drawer b) (n : Nat) (hn : n ≤ 1000) (w : Int) (hw : 0 ≤ w ∧ w ≤ 20) (p : Int) (hp : 0 ≤ p) (hp2 : p ≤ 890000) :
    Tot (fun k => spec_l11Lits.f k b p (n : Int) w) (fun r => r.1.length ≤ n ∧ p ≤ r.2 ∧ r.2 ≤ p + 40) := by
  obtain ⟨m, rfl⟩ := Int.eq_ofNat_of_zero_le hw.1
  unfold spec_l11Lits.f
  refine (lits_loop b hb n hn (m : Int) hw.2 m 0 [] p (by omega) (by omega) (by simp) (fun j hj => by simp at hj) hp (by omega)).mono ?_
  rintro r ⟨r1, r2, r3⟩
  exact ⟨r1, r2, by omega⟩
theorem draw_rows_loop (b : List Int) (hb : Drawer b) (n : Nat) (hn : n ≤ 6) (m : Int) (hm : m ≤ 20) : ∀ (d : Nat) (i : Int) (L : List (List Int)) (p : Int), (d : Int) = m - i → 0 ≤ i → (L.length : Int) ≤ i → (∀ x ∈ L, x.length ≤ 1000) → 0 ≤ p → p + 50 * d ≤ 800000 →
    Tot (fun k => spec_l11Draw.l0 k (n : Int) m i b p (n : Int) L) (fun r => r.1 = (n : Int) ∧ (r.2.1.length : Int) ≤ 20 ∧ (∀ x ∈ r.2.1, x.length ≤ 1000) ∧ p ≤ r.2.2 ∧ r.2.2 ≤ p + 50 * d) := by
  intro d
  induction d with
  | zero =>
    intro i L p hd h0 hl hx hp hp2
    exact Tot.step (Tot.neg (by omega) (Tot.val ⟨rfl, by show (L.length : Int) ≤ 20; omega, hx, Int.le_refl _, by simp⟩)) (fun k => spec_l11Draw.l0.eq_2 ..)
  | succ d ih =>
    intro i L p hd h0 hl hx hp hp2
    have hwi : wrap64 (i + 1) = i + 1 := w_id (by omega) (by omega)
    refine Tot.step (Tot.pos (by omega) (Tot.bind (num_tot b hb p _ hp (by omega) (by simp)) ?_)) (fun k => spec_l11Draw.l0.eq_2 ..)
    rintro ⟨x, q⟩ ⟨e1, e2⟩
    simp only at e1 e2 ⊢
    subst e1
    have hx3 : 0 ≤ x ∧ x ≤ 20 := by simp at e2; omega
    refine Tot.bind (lits_tot b hb n (by omega) x hx3 (p + 1) (by omega) (by omega)) ?_
    rintro ⟨c, q⟩ ⟨c1, c2, c3⟩
    simp only at c1 c2 c3 ⊢
    rw [hwi]
    refine Tot.pos (by omega) ((ih (i + 1) (L ++ [c]) q (by omega) (by omega) (by simp; omega) (fun y hy => ?_) (by omega) (by omega)).mono ?_)
    · rcases List.mem_append.mp hy with h | h
      · exact hx y h
      · rw [List.mem_singleton.mp h]
        omega
    · rintro r ⟨r1, r2, r3, r4, r5⟩
      exact ⟨r1, r2, r3, by omega, by omega⟩
/-- Drawn clauses are few and short, and their atoms are few, or far too many, or less than none. -/
theorem some_tot (b : List Int) (hb : Drawer b) (p : Int) (hp : 0 ≤ p) (hp2 : p ≤ 100000) :
    Tot (fun k => spec_l11Some.f k b p) (fun r => (r.1 = -1 ∨ r.1 = 701 ∨ (0 ≤ r.1 ∧ r.1 ≤ 6)) ∧ r.2.1.length ≤ 30 ∧ (∀ x ∈ r.2.1, x.length ≤ 1000) ∧ p ≤ r.2.2 ∧ r.2.2 ≤ p + 2000) := by
  unfold spec_l11Some.f
  refine Tot.bind (num_tot b hb p _ hp (by omega) (by simp)) ?_
  rintro ⟨a, q⟩ ⟨e1, e2⟩
  simp only at e1 e2 ⊢
  subst e1
  have ha : 0 ≤ a ∧ a ≤ 6 := by simp at e2; omega
  refine Tot.bind (num_tot b hb (p + 1) _ (by omega) (by omega) (by simp)) ?_
  rintro ⟨m, q⟩ ⟨e1, e3⟩
  simp only at e1 e3 ⊢
  subst e1
  have hm : 0 ≤ m ∧ m ≤ 20 := by simp at e3; omega
  obtain ⟨n, rfl⟩ := Int.eq_ofNat_of_zero_le ha.1
  obtain ⟨t, rfl⟩ := Int.eq_ofNat_of_zero_le hm.1
  have hd : Tot (fun k => spec_l11Draw.f k b (p + 1 + 1) (n : Int) (t : Int)) (fun r => r.1 = (n : Int) ∧ (r.2.1.length : Int) ≤ 20 ∧ (∀ x ∈ r.2.1, x.length ≤ 1000) ∧ p + 2 ≤ r.2.2 ∧ r.2.2 ≤ p + 1500) := by
    unfold spec_l11Draw.f
    refine (draw_rows_loop b hb n (by omega) (t : Int) hm.2 t 0 [] (p + 1 + 1) (by omega) (by omega) (by simp) (fun x hx => by simp at hx) (by omega) (by omega)).mono ?_
    rintro r ⟨r1, r2, r3, r4, r5⟩
    exact ⟨r1, r2, r3, by omega, by omega⟩
  refine Tot.bind hd ?_
  rintro ⟨a2, L, q⟩ ⟨e4, e5, e6, e7, e8⟩
  simp only at e4 e5 e6 e7 e8 ⊢
  subst e4
  have hmem : ∀ (c : List Int), c.length ≤ 1000 → ∀ x ∈ L ++ [c], x.length ≤ 1000 := by
    intro c hc x hx
    rcases List.mem_append.mp hx with h | h
    · exact e6 x h
    · rw [List.mem_singleton.mp h]
      exact hc
  refine Tot.bind (pick_tot b hb q 14 (by omega) (by omega)) ?_
  rintro ⟨y, q1⟩ ⟨e1, _, _⟩
  simp only at e1 ⊢
  subst e1
  refine Tot.ite (fun _ => ?_) (fun _ => Tot.val ⟨Or.inr (Or.inr ⟨by show (0 : Int) ≤ n; omega, by show (n : Int) ≤ 6; omega⟩), by show L.length ≤ 30; omega, e6, by show p ≤ q + 1; omega, by show q + 1 ≤ p + 2000; omega⟩)
  refine Tot.bind (pick_tot b hb (q + 1) 4 (by omega) (by omega)) ?_
  rintro ⟨y, q1⟩ ⟨e1, _, _⟩
  simp only at e1 ⊢
  subst e1
  refine Tot.ite (fun _ => ?_) (fun _ => Tot.ite (fun _ => ?_) (fun _ => Tot.ite (fun _ => ?_) (fun _ => ?_)))
  · refine Tot.bind (num_tot b hb (q + 1 + 1) _ (by omega) (by omega) (by simp)) ?_
    rintro ⟨z, q1⟩ ⟨e1, e9⟩
    simp only at e1 e9 ⊢
    subst e1
    refine Tot.val ⟨?_, by show L.length ≤ 30; omega, e6, by show p ≤ q + 1 + 1 + 1; omega, by show q + 1 + 1 + 1 ≤ p + 2000; omega⟩
    show z = -1 ∨ z = 701 ∨ (0 ≤ z ∧ z ≤ 6)
    simp at e9
    omega
  · exact Tot.pos (by omega) (Tot.val ⟨Or.inr (Or.inr ⟨by show (0 : Int) ≤ n; omega, by show (n : Int) ≤ 6; omega⟩), by simp; omega, hmem _ (by simp), by show p ≤ q + 1 + 1; omega, by show q + 1 + 1 ≤ p + 2000; omega⟩)
  · refine Tot.bind (num_tot b hb (q + 1 + 1) _ (by omega) (by omega) (by simp)) ?_
    rintro ⟨z, q1⟩ ⟨e1, e9⟩
    simp only at e1 e9 ⊢
    subst e1
    exact Tot.pos (by omega) (Tot.val ⟨Or.inr (Or.inr ⟨by show (0 : Int) ≤ n; omega, by show (n : Int) ≤ 6; omega⟩), by simp; omega, hmem _ (by simp), by show p ≤ q + 1 + 1 + 1; omega, by show q + 1 + 1 + 1 ≤ p + 2000; omega⟩)
  · exact Tot.pos (by omega) (Tot.val ⟨Or.inr (Or.inr ⟨by show (0 : Int) ≤ n; omega, by show (n : Int) ≤ 6; omega⟩), by simp; omega, hmem _ (by simp), by show p ≤ q + 1 + 1; omega, by show q + 1 + 1 ≤ p + 2000; omega⟩)
/-! #### drawn clauses of few atoms -/
theorem l12some_tot (b : List Int) (hb : Drawer b) (p : Int) (hp : 0 ≤ p) (hp2 : p ≤ 50000) :
    Tot (fun k => spec_l12Some.f k b p) (fun r => r.2.1.length ≤ 40 ∧ (∀ x ∈ r.2.1, x.length ≤ 1000) ∧ p ≤ r.2.2 ∧ r.2.2 ≤ p + 5000) := by
  unfold spec_l12Some.f
  refine Tot.bind (pick_tot b hb p 4 hp (by omega)) ?_
  rintro ⟨y, q⟩ ⟨e1, _, _⟩
  simp only at e1 ⊢
  subst e1
  refine Tot.ite (fun _ => ?_) (fun _ => ?_)
  · refine Tot.bind (some_tot b hb (p + 1) (by omega) (by omega)) ?_
    rintro ⟨n, L, q⟩ ⟨_, e2, e3, e4, e5⟩
    simp only at e2 e3 e4 e5 ⊢
    exact Tot.val ⟨by show L.length ≤ 40; omega, e3, by show p ≤ q; omega, by show q ≤ p + 5000; omega⟩
  · refine Tot.bind (num_tot b hb (p + 1) _ (by omega) (by omega) (by simp)) ?_
    rintro ⟨a, q⟩ ⟨e1, e2⟩
    simp only at e1 e2 ⊢
    subst e1
    have ha : 0 ≤ a ∧ a ≤ 6 := by simp at e2; omega
    refine Tot.bind (num_tot b hb (p + 1 + 1) _ (by omega) (by omega) (by simp)) ?_
    rintro ⟨m, q⟩ ⟨e1, e3⟩
    simp only at e1 e3 ⊢
    subst e1
    have hm : 0 ≤ m ∧ m ≤ 20 := by simp at e3; omega
    obtain ⟨n, rfl⟩ := Int.eq_ofNat_of_zero_le ha.1
    obtain ⟨t, rfl⟩ := Int.eq_ofNat_of_zero_le hm.1
    have hd : Tot (fun k => spec_l11Draw.f k b (p + 1 + 1 + 1) (n : Int) (t : Int)) (fun r => r.1 = (n : Int) ∧ (r.2.1.length : Int) ≤ 20 ∧ (∀ x ∈ r.2.1, x.length ≤ 1000) ∧ p + 3 ≤ r.2.2 ∧ r.2.2 ≤ p + 1500) := by
      unfold spec_l11Draw.f
      refine (draw_rows_loop b hb n (by omega) (t : Int) hm.2 t 0 [] (p + 1 + 1 + 1) (by omega) (by omega) (by simp) (fun x hx => by simp at hx) (by omega) (by omega)).mono ?_
      rintro r ⟨r1, r2, r3, r4, r5⟩
      exact ⟨r1, r2, r3, by omega, by omega⟩
    refine Tot.bind hd ?_
    rintro ⟨a2, L, q⟩ ⟨e4, e5, e6, e7, e8⟩
    simp only at e4 e5 e6 e7 e8 ⊢
    refine Tot.bind (pick_tot b hb q 6 (by omega) (by omega)) ?_
    rintro ⟨y, q1⟩ ⟨e1, _, _⟩
    simp only at e1 ⊢
    subst e1
    refine Tot.ite (fun _ => Tot.pos (by omega) (Tot.val ⟨by simp; omega, fun x hx => ?_, by show p ≤ q + 1; omega, by show q + 1 ≤ p + 5000; omega⟩)) (fun _ => Tot.val ⟨by show L.length ≤ 40; omega, e6, by show p ≤ q + 1; omega, by show q + 1 ≤ p + 5000; omega⟩)
    rcases List.mem_append.mp hx with h | h
    · exact e6 x h
    · rw [List.mem_singleton.mp h]
      simp
/-! #### small laws of numbers -/
theorem l1In_val (a b c : Int) : spec_l1In.f a b c = some (decide (b ≤ a ∧ a ≤ c)) := by
  unfold spec_l1In.f
  by_cases h : a ≥ b
  · rw [if_pos h]
    congr 1
    rw [decide_eq_decide]
    constructor
    · intro h2; exact ⟨h, h2⟩
    · intro h2; exact h2.2
  · rw [if_neg h]
    congr 1
    symm
    rw [decide_eq_false_iff_not]
    intro h2
    exact h h2.1
theorem in_val (a b c : Int) : impl_in.f a b c = some (decide (b ≤ a ∧ a ≤ c)) := by
  unfold impl_in.f
  by_cases h : a ≥ b
  · rw [if_pos h]
    congr 1
    rw [decide_eq_decide]
    constructor
    · intro h2; exact ⟨h, h2⟩
    · intro h2; exact h2.2
  · rw [if_neg h]
    congr 1
    symm
    rw [decide_eq_false_iff_not]
    intro h2
    exact h h2.1
/-! #### the program's least row, whole -/
theorem wc_loop (l : List Int) (hl : l.length ≤ 1048576) : ∀ (d i : Nat), i + d = l.length → Ev (fun k => laws_wcInts.l0 k l l (l.length : Int) (i : Int)) true := by
  intro d
  induction d with
  | zero =>
    intro i hi
    exact Ev.step (Ev.neg (by omega) (Ev.val _)) (fun k => laws_wcInts.l0.eq_2 ..)
  | succ d ih =>
    intro i hi
    refine Ev.step (Ev.pos (by omega) (Ev.pos (by omega) (Ev.pos (by omega) (Ev.pos (by omega) (Ev.pos rfl ?_))))) (fun k => laws_wcInts.l0.eq_2 ..)
    rw [wsucc i (by omega)]
    exact ih (i + 1) (by omega)
theorem wc_same (l : List Int) (hl : l.length ≤ 1048576) : Ev (fun k => laws_wcInts.f k l l) true := by
  unfold laws_wcInts.f
  exact Ev.pos rfl (wc_loop l hl l.length 0 (by omega))
/-! #### rows of marks, and the list of those that are set -/
theorem bo_nat (l : List Bool) (i : Nat) : rdOf false l (i : Int) = l.getD i false := by
  unfold rdOf
  rfl
theorem bo_set_eq {l : List Bool} {i : Nat} {v : Bool} (h : i < l.length) : rdOf false (l.set i v) (i : Int) = v := by
  rw [bo_nat, List.getD_eq_getElem?_getD, List.getElem?_set_self h]
  rfl
theorem bo_set_ne {l : List Bool} {i j : Nat} {v : Bool} (h : i ≠ j) : rdOf false (l.set i v) (j : Int) = rdOf false l (j : Int) := by
  rw [bo_nat, bo_nat, List.getD_eq_getElem?_getD, List.getD_eq_getElem?_getD, List.getElem?_set_ne h]
/-- The marks that are set, from place i on, d places. -/
def onesR (x : List Bool) (i d : Nat) : List Int := ((List.range' i d).filter (fun j : Nat => rdOf false x (j : Int))).map (fun j : Nat => (j : Int))
def ones (x : List Bool) : List Int := onesR x 0 x.length
theorem onesR_succ (x : List Bool) (i d : Nat) : onesR x i (d + 1) = (if rdOf false x (i : Int) = true then [(i : Int)] else []) ++ onesR x (i + 1) d := by
  unfold onesR
  rw [List.range'_succ]
  by_cases c : rdOf false x (i : Int) = true
  · rw [List.filter_cons_of_pos (p := fun j : Nat => rdOf false x (j : Int)) (a := i) c, if_pos c]; rfl
  · rw [List.filter_cons_of_neg (p := fun j : Nat => rdOf false x (j : Int)) (a := i) c, if_neg c]; rfl
theorem onesR_le (x : List Bool) (i d : Nat) : (onesR x i d).length ≤ d := by
  unfold onesR
  rw [List.length_map]
  exact Nat.le_trans (List.length_filter_le _ _) (by simp)
theorem ones_mem (x : List Bool) (j : Nat) : (j : Int) ∈ ones x ↔ j < x.length ∧ rdOf false x (j : Int) = true := by
  unfold ones onesR
  rw [List.mem_map]
  constructor
  · rintro ⟨q, hq, e⟩
    obtain rfl : q = j := by omega
    have h := List.mem_filter.1 hq
    have h1 := List.mem_range'_1.1 h.1
    exact ⟨by omega, h.2⟩
  · rintro ⟨h1, h2⟩
    exact ⟨j, List.mem_filter.2 ⟨List.mem_range'_1.2 ⟨Nat.zero_le _, by omega⟩, h2⟩, rfl⟩
theorem spec_list_loop (x : List Bool) (hx : x.length ≤ 1048576) : ∀ (d i : Nat) (acc : List Int), i + d = x.length → acc.length ≤ i → Ev (fun k => spec_l4List.l0 k x acc (i : Int)) (acc ++ onesR x i d) := by
  intro d
  induction d with
  | zero =>
    intro i acc hi ha
    exact Ev.step (Ev.neg (by omega) (Ev.valEq (by simp [onesR]))) (fun k => spec_l4List.l0.eq_2 ..)
  | succ d ih =>
    intro i acc hi ha
    refine Ev.step (Ev.pos (by omega) (Ev.pos (by omega) (g := fun k => if rdOf false x (i : Int) = true then (if acc.length < 17592186044416 then spec_l4List.l0 k x (acc ++ [(i : Int)]) (wrap64 ((i : Int) + 1)) else none) else spec_l4List.l0 k x acc (wrap64 ((i : Int) + 1))) ?_)) (fun k => spec_l4List.l0.eq_2 ..)
    rw [wsucc i (by omega), onesR_succ]
    by_cases c : rdOf false x (i : Int) = true
    · refine Ev.pos c (Ev.pos (by omega) ?_)
      rw [if_pos c, ← List.append_assoc]
      exact ih (i + 1) (acc ++ [(i : Int)]) (by omega) (by simp; omega)
    · refine Ev.neg c ?_
      rw [if_neg c, List.nil_append]
      exact ih (i + 1) acc (by omega) (by omega)
theorem spec_list (x : List Bool) (hx : x.length ≤ 1048576) : Ev (fun k => spec_l4List.f k x) (ones x) := spec_list_loop x hx x.length 0 [] (by omega) (by simp)
theorem impl_list_loop (x : List Bool) (hx : x.length ≤ 1048576) : ∀ (d i : Nat) (acc : List Int), i + d = x.length → acc.length ≤ i → Ev (fun k => impl_listOf.l0 k acc x (x.length : Int) (i : Int)) (acc ++ onesR x i d) := by
  intro d
  induction d with
  | zero =>
    intro i acc hi ha
    refine Ev.step (Ev.neg (by omega) (Ev.bind (a := acc) (Ev.const ?_) (Ev.valEq (by simp [onesR])))) (fun k => impl_listOf.l0.eq_2 ..)
    unfold impl_clone_int.f
    rw [if_pos (by omega)]
  | succ d ih =>
    intro i acc hi ha
    refine Ev.step (Ev.pos (by omega) (Ev.pos (by omega) (Ev.pos (by omega) (g := fun k => if rdOf false x (i : Int) = true then (if acc.length < 17592186044416 then impl_listOf.l0 k (acc ++ [(i : Int)]) x (x.length : Int) (wrap64 ((i : Int) + 1)) else none) else impl_listOf.l0 k acc x (x.length : Int) (wrap64 ((i : Int) + 1))) ?_))) (fun k => impl_listOf.l0.eq_2 ..)
    rw [wsucc i (by omega), onesR_succ]
    by_cases c : rdOf false x (i : Int) = true
    · refine Ev.pos c (Ev.pos (by omega) ?_)
      rw [if_pos c, ← List.append_assoc]
      exact ih (i + 1) (acc ++ [(i : Int)]) (by omega) (by simp; omega)
    · refine Ev.neg c ?_
      rw [if_neg c, List.nil_append]
      exact ih (i + 1) acc (by omega) (by omega)
theorem impl_list (x : List Bool) (hx : x.length ≤ 1048576) : Ev (fun k => impl_listOf.f k x) (ones x) := impl_list_loop x hx x.length 0 [] (by omega) (by simp)

def setA (x : List Bool) (c : List Int) : List Bool := c.foldl (fun x l => x.set (AbsI l).toNat true) x
theorem setA_length (c : List Int) : ∀ x : List Bool, (setA x c).length = x.length := by
  induction c with
  | nil => intro x; rfl
  | cons a c ih => intro x; show (setA (x.set (AbsI a).toNat true) c).length = _; rw [ih, List.length_set]
theorem setAll_length (L : List (List Int)) : ∀ x : List Bool, (L.foldl setA x).length = x.length := by
  induction L with
  | nil => intro x; rfl
  | cons c L ih => intro x; show (L.foldl setA (setA x c)).length = _; rw [ih, setA_length]
def LitsIn (n : Nat) (c : List Int) : Prop := c.length ≤ 1048576 ∧ ∀ j : Nat, j < c.length → LitOk (n : Int) (rd c (j : Int))
theorem lit_abs {n : Nat} (hn : n ≤ 700) {x : Int} (h : LitOk (n : Int) x) : 0 ≤ AbsI x ∧ AbsI x ≤ (n : Int) ∧ -9223372036854775807 ≤ x ∧ x ≤ 9223372036854775807 := by
  unfold LitOk at h
  unfold AbsI
  split <;> omega
theorem drop_at (c : List Int) {p : Nat} (h : p < c.length) : c.drop p = rd c (p : Int) :: c.drop (p + 1) := by
  rw [List.drop_eq_getElem_cons h, rd_lt h]
theorem rows_drop_at (c : List (List Int)) {p : Nat} (h : p < c.length) : c.drop p = rd_L2 c (p : Int) :: c.drop (p + 1) := by
  rw [List.drop_eq_getElem_cons h, rows_lt h]
theorem impl_atoms_in (n : Nat) (hn : n ≤ 700) (L : List (List Int)) (N i : Int) (c : List Int) (hc : LitsIn n c) (r : List Bool) : ∀ (d p : Nat) (x : List Bool), p + d = c.length → x.length = n + 1 →
    Ev (fun k => impl_atomsIn.l0 k (setA x (c.drop p)) L N (wrap64 (i + 1))) r → Ev (fun k => impl_atomsIn.l1 k x L N i c (c.length : Int) (p : Int)) r := by
  intro d
  induction d with
  | zero =>
    intro p x hp hx h
    rw [List.drop_of_length_le (by omega)] at h
    exact Ev.step (Ev.neg (by omega) h) (fun k => impl_atomsIn.l1.eq_2 ..)
  | succ d ih =>
    intro p x hp hx h
    obtain ⟨a0, a1, a2, a3⟩ := lit_abs hn (hc.2 p (by omega))
    rw [drop_at c (by omega)] at h
    have h2 := ih (p + 1) (x.set (AbsI (rd c (p : Int))).toNat true) (by omega) (by rw [List.length_set]; exact hx) h
    refine Ev.step (Ev.pos (by omega) (Ev.pos (by omega) (Ev.pos (by omega) (Ev.bind (impl_abs a2 a3) (Ev.pos a0 (Ev.pos (by omega) ?_)))))) (fun k => impl_atomsIn.l1.eq_2 ..)
    rw [wsucc p (by have := hc.1; omega)]
    exact h2
theorem impl_atoms_loop (n : Nat) (hn : n ≤ 700) (L : List (List Int)) (hL : L.length ≤ 1048576) (hl : ∀ j : Nat, j < L.length → LitsIn n (rd_L2 L (j : Int))) : ∀ (d i : Nat) (x : List Bool), i + d = L.length → x.length = n + 1 →
    Ev (fun k => impl_atomsIn.l0 k x L (L.length : Int) (i : Int)) ((L.drop i).foldl setA x) := by
  intro d
  induction d with
  | zero =>
    intro i x hi hx
    rw [List.drop_of_length_le (by omega)]
    exact Ev.step (Ev.neg (by omega) (Ev.val x)) (fun k => impl_atomsIn.l0.eq_2 ..)
  | succ d ih =>
    intro i x hi hx
    rw [rows_drop_at L (by omega)]
    refine Ev.step (Ev.pos (by omega) (Ev.pos (by omega) (Ev.pos (by omega) ?_))) (fun k => impl_atomsIn.l0.eq_2 ..)
    refine impl_atoms_in n hn L _ _ _ (hl i (by omega)) _ (rd_L2 L (i : Int)).length 0 x (by omega) hx ?_
    rw [wsucc i (by omega)]
    exact ih (i + 1) _ (by omega) (by rw [setA_length]; exact hx)
def atomsM (n : Nat) (L : List (List Int)) : List Bool := L.foldl setA (List.replicate (n + 1) false)
theorem atomsM_length (n : Nat) (L : List (List Int)) : (atomsM n L).length = n + 1 := by rw [atomsM, setAll_length, List.length_replicate]
theorem impl_atoms (n : Nat) (hn : n ≤ 700) (L : List (List Int)) (hL : L.length ≤ 1048576) (hl : ∀ j : Nat, j < L.length → LitsIn n (rd_L2 L (j : Int))) : Ev (fun k => impl_atomsIn.f k (n : Int) L) (atomsM n L) := by
  unfold impl_atomsIn.f
  rw [wsucc n (by omega)]
  exact Ev.pos (by omega) (Ev.pos (by omega) (impl_atoms_loop n hn L hL hl L.length 0 _ (by omega) (by simp)))
theorem spec_atoms_in (n : Nat) (hn : n ≤ 700) (L : List (List Int)) (N : Int) (A : Int) (i : Nat) (hi : i < L.length) (hc : LitsIn n (rd_L2 L (i : Int))) (r : List Int) : ∀ (d p : Nat) (x : List Bool), p + d = (rd_L2 L (i : Int)).length → x.length = n + 1 →
    Ev (fun k => spec_AtomsOf.l0 k N (setA x ((rd_L2 L (i : Int)).drop p)) (wrap64 ((i : Int) + 1)) A L) r → Ev (fun k => spec_AtomsOf.l1 k N x (i : Int) (p : Int) A L) r := by
  intro d
  induction d with
  | zero =>
    intro p x hp hx h
    rw [List.drop_of_length_le (by omega)] at h
    exact Ev.step (Ev.pos (by omega) (Ev.pos (by omega) (Ev.neg (by omega) h))) (fun k => spec_AtomsOf.l1.eq_2 ..)
  | succ d ih =>
    intro p x hp hx h
    obtain ⟨a0, a1, a2, a3⟩ := lit_abs hn (hc.2 p (by omega))
    rw [drop_at _ (by omega)] at h
    have h2 := ih (p + 1) (x.set (AbsI (rd (rd_L2 L (i : Int)) (p : Int))).toNat true) (by omega) (by rw [List.length_set]; exact hx) h
    refine Ev.step (Ev.pos (by omega) (Ev.pos (by omega) (Ev.pos (by omega) (Ev.pos (by omega) (Ev.bind (spec_abs a2 a3) (Ev.pos a0 (Ev.pos (by omega) ?_))))))) (fun k => spec_AtomsOf.l1.eq_2 ..)
    rw [wsucc p (by have := hc.1; omega)]
    exact h2
theorem spec_atoms_loop (n : Nat) (hn : n ≤ 700) (L : List (List Int)) (hL : L.length ≤ 1048576) (hl : ∀ j : Nat, j < L.length → LitsIn n (rd_L2 L (j : Int))) (A : Int) (tq : Nat) (ht : tq ≤ L.length) : ∀ (d i : Nat) (x : List Bool), i + d = tq → x.length = n + 1 →
    Ev (fun k => spec_AtomsOf.l0 k (tq : Int) x (i : Int) A L) (ones (((L.take tq).drop i).foldl setA x)) := by
  intro d
  induction d with
  | zero =>
    intro i x hi hx
    rw [List.drop_of_length_le (by rw [List.length_take]; omega)]
    exact Ev.step (Ev.neg (by omega) (Ev.bind (spec_list x (by omega)) (Ev.val _))) (fun k => spec_AtomsOf.l0.eq_2 ..)
  | succ d ih =>
    intro i x hi hx
    have e : rd_L2 (L.take tq) (i : Int) = rd_L2 L (i : Int) := by
      rw [rows_lt (by rw [List.length_take]; omega), rows_lt (by omega), List.getElem_take]
    rw [rows_drop_at (L.take tq) (by rw [List.length_take]; omega), e]
    refine Ev.step (Ev.pos (by omega) ?_) (fun k => spec_AtomsOf.l0.eq_2 ..)
    refine spec_atoms_in n hn L _ _ i (by omega) (hl i (by omega)) _ (rd_L2 L (i : Int)).length 0 x (by omega) hx ?_
    rw [wsucc i (by omega)]
    exact ih (i + 1) _ (by omega) (by rw [setA_length]; exact hx)
def AtOk (n : Int) (L : List (List Int)) (a b : Int) : Prop := ClausesOk n L ∧ 0 ≤ a ∧ a ≤ b ∧ b ≤ (L.length : Int)
theorem lits_in {n : Int} {L : List (List Int)} (h : ClausesOk n L) (hL : Small L) {m : Nat} (hm : (m : Int) = n) (j : Nat) (hj : j < L.length) : LitsIn m (rd_L2 L (j : Int)) :=
  ⟨hL.2 j hj, fun p hp => by rw [hm]; exact ((h.2.2 j hj).2 p hp).1⟩
theorem atoms_yes (n : Nat) (L : List (List Int)) (hL : Small L) (a b : Nat) (h : AtOk (n : Int) L (a : Int) (b : Int)) :
    Ev (fun k => spec_AtomsOf.f k (n : Int) L (a : Int) (b : Int)) (ones (atomsM n ((L.take b).drop a))) ∧ Ev (fun k => impl_AtomsOf.f k (n : Int) L (a : Int) (b : Int)) (ones (atomsM n ((L.take b).drop a))) := by
  obtain ⟨h1, h2, h3, h4⟩ := h
  have hn : n ≤ 700 := by have := h1.1; omega
  have hl : ∀ j : Nat, j < L.length → LitsIn n (rd_L2 L (j : Int)) := lits_in h1 hL rfl
  obtain ⟨q, hq, e1, e2⟩ := Dec.same (spec_clauses (n : Int) L hL) (impl_clauses (n : Int) L hL)
  obtain rfl : q = true := e2.2 h1
  constructor
  · unfold spec_AtomsOf.f
    refine Ev.bind hq (Ev.pos rfl (Ev.bind (Ev.const (l1In_val _ _ _)) (Ev.pos (decide_eq_true ⟨h2, h3⟩) ?_)))
    have L0 := spec_atoms_loop n hn L hL.1 hl (n : Int) b (by omega) (b - a) a (List.replicate (n + 1) false) (by omega) (by simp)
    rw [show decide ((b : Int) > (L.length : Int)) = false from decide_eq_false (by omega)]
    refine Ev.step (Ev.neg (by decide) (Ev.pos (by rw [wsucc n (by omega)]; omega) (Ev.pos (by rw [wsucc n (by omega)]; omega) ?_))) (fun k => spec_AtomsOf.j0.eq_2 ..)
    rw [wsucc n (by omega)]
    exact L0
  · unfold impl_AtomsOf.f
    refine Ev.bind e1 (Ev.pos rfl (Ev.bind (Ev.const (in_val _ _ _)) (Ev.pos (decide_eq_true ⟨by omega, h4⟩) (Ev.bind (Ev.const (in_val _ _ _)) ?_))))
    rw [decide_eq_true (show (0 : Int) ≤ (a : Int) ∧ (a : Int) ≤ (b : Int) from ⟨h2, h3⟩)]
    have hlen : ((L.take b).drop a).length ≤ L.length := by rw [List.length_drop, List.length_take]; omega
    have A0 := impl_atoms n hn ((L.take b).drop a) (by have := hL.1; omega) (fun j hj => by
      rw [List.length_drop, List.length_take] at hj
      have e : rd_L2 ((L.take b).drop a) (j : Int) = rd_L2 L ((a + j : Nat) : Int) := by
        rw [rows_lt (by rw [List.length_drop, List.length_take]; omega), rows_lt (by omega), List.getElem_drop, List.getElem_take]
      rw [e]
      exact hl _ (by omega))
    refine Ev.step (Ev.neg (by decide) (Ev.pos h2 (Ev.pos h3 (Ev.pos h4 (Ev.bind A0 (Ev.bind (impl_list _ (by rw [atomsM_length]; omega)) (Ev.val _))))))) (fun k => impl_AtomsOf.j0.eq_2 ..)
theorem atoms_no (n : Int) (L : List (List Int)) (hL : Small L) (a b : Int) (h : ¬ AtOk n L a b) :
    Ev (fun k => spec_AtomsOf.f k n L a b) [] ∧ Ev (fun k => impl_AtomsOf.f k n L a b) [] := by
  obtain ⟨q, hq, e1, e2⟩ := Dec.same (spec_clauses n L hL) (impl_clauses n L hL)
  have sj : ∀ z, z = true → Ev (fun k => spec_AtomsOf.j0 k a b z n L) [] := fun z hz => Ev.step (Ev.pos hz (Ev.val _)) (fun k => spec_AtomsOf.j0.eq_2 ..)
  have ij : ∀ z, z = true → Ev (fun k => impl_AtomsOf.j0 k a b z n L) [] := fun z hz => Ev.step (Ev.pos hz (Ev.val _)) (fun k => impl_AtomsOf.j0.eq_2 ..)
  unfold spec_AtomsOf.f impl_AtomsOf.f
  cases q with
  | false => exact ⟨Ev.bind hq (Ev.neg (by decide) (sj _ rfl)), Ev.bind e1 (Ev.neg (by decide) (ij _ rfl))⟩
  | true =>
    have hv := e2.1 rfl
    constructor
    · refine Ev.bind hq (Ev.pos rfl (Ev.bind (Ev.const (l1In_val _ _ _)) ?_))
      by_cases c : 0 ≤ a ∧ a ≤ b
      · refine Ev.pos (decide_eq_true c) (sj _ (decide_eq_true ?_))
        unfold AtOk at h
        by_cases c2 : b ≤ (L.length : Int)
        · exact absurd ⟨hv, c.1, c.2, c2⟩ h
        · omega
      · exact Ev.neg (by simpa using c) (sj _ rfl)
    · refine Ev.bind e1 (Ev.pos rfl (Ev.bind (Ev.const (in_val _ _ _)) ?_))
      by_cases c : 0 ≤ b ∧ b ≤ (L.length : Int)
      · refine Ev.pos (decide_eq_true c) (Ev.bind (Ev.const (in_val _ _ _)) (ij _ ?_))
        have : ¬ (0 ≤ a ∧ a ≤ b) := fun c2 => h ⟨hv, c2.1, c2.2, c.2⟩
        rw [decide_eq_false this]
        rfl
      · exact Ev.neg (by simpa using c) (ij _ rfl)
theorem shared_loop (y : List Bool) (N : Nat) (hN : N ≤ 1000) (hy : y.length = N) : ∀ (d i : Nat) (x : List Bool), i + d = N → x.length = N →
    ∃ z : List Bool, Ev (fun k => impl_shared.l0 k x y (N : Int) (i : Int)) z ∧ z.length = N ∧ ∀ j : Nat, j < N → rdOf false z (j : Int) = (if i ≤ j then (rdOf false x (j : Int) && rdOf false y (j : Int)) else rdOf false x (j : Int)) := by
  intro d
  induction d with
  | zero =>
    intro i x hi hx
    exact ⟨x, Ev.step (Ev.neg (by omega) (Ev.val x)) (fun k => impl_shared.l0.eq_2 ..), hx, fun j hj => by rw [if_neg (by omega)]⟩
  | succ d ih =>
    intro i x hi hx
    have go : ∀ v : Bool, v = (rdOf false x (i : Int) && rdOf false y (i : Int)) → ∃ z : List Bool, Ev (fun k => impl_shared.l0 k (x.set (i : Int).toNat v) y (N : Int) (wrap64 ((i : Int) + 1))) z ∧ z.length = N ∧ ∀ j : Nat, j < N → rdOf false z (j : Int) = (if i ≤ j then (rdOf false x (j : Int) && rdOf false y (j : Int)) else rdOf false x (j : Int)) := by
      intro v hv
      rw [wsucc i (by omega), Int.toNat_natCast]
      obtain ⟨z, h1, h2, h3⟩ := ih (i + 1) (x.set i v) (by omega) (by rw [List.length_set]; exact hx)
      refine ⟨z, h1, h2, fun j hj => ?_⟩
      rw [h3 j hj]
      by_cases c : j = i
      · rw [c, if_neg (by omega), if_pos (Nat.le_refl _), bo_set_eq (by omega), hv]
      · rw [bo_set_ne (fun h => c h.symm)]
        by_cases c2 : i + 1 ≤ j
        · rw [if_pos c2, if_pos (by omega)]
        · rw [if_neg c2, if_neg (by omega)]
    cases hb : rdOf false x (i : Int) with
    | true =>
      obtain ⟨z, h1, h2⟩ := go (rdOf false y (i : Int)) (by rw [hb]; rfl)
      exact ⟨z, Ev.step (Ev.pos (by omega) (Ev.pos (by omega) (Ev.pos (by omega) (Ev.pos (by omega) (Ev.pos hb h1))))) (fun k => impl_shared.l0.eq_2 ..), h2⟩
    | false =>
      obtain ⟨z, h1, h2⟩ := go false (by rw [hb]; rfl)
      exact ⟨z, Ev.step (Ev.pos (by omega) (Ev.pos (by omega) (Ev.pos (by omega) (Ev.pos (by omega) (Ev.neg (by rw [hb]; decide) h1))))) (fun k => impl_shared.l0.eq_2 ..), h2⟩
theorem has_mem (l : List Int) (hl : l.length ≤ 1048576) (x : Int) : Ev (fun k => spec_l2Has.f k l x) (decide (x ∈ l)) := by
  obtain ⟨b, hb, e⟩ := has_dec l hl x
  refine hb.to (Bool.eq_iff_iff.2 (e.trans ?_))
  rw [decide_eq_true_iff]
  constructor
  · rintro ⟨j, hj, rfl⟩
    rw [rd_lt hj]
    exact List.getElem_mem hj
  · intro h
    obtain ⟨j, hj, e⟩ := List.mem_iff_getElem.1 h
    exact ⟨j, hj, by rw [rd_lt hj]; exact e⟩
theorem spec_shared_loop (one two : List Int) (h1 : one.length ≤ 1048576) (h2 : two.length ≤ 1048576) : ∀ (d i : Nat) (acc : List Int), i + d = one.length → acc.length ≤ i →
    Ev (fun k => spec_SharedAtoms.l0 k acc one two (i : Int)) (acc ++ (one.drop i).filter (fun v => decide (v ∈ two))) := by
  intro d
  induction d with
  | zero =>
    intro i acc hi ha
    rw [List.drop_of_length_le (by omega)]
    exact Ev.step (Ev.neg (by omega) (Ev.valEq (by simp))) (fun k => spec_SharedAtoms.l0.eq_2 ..)
  | succ d ih =>
    intro i acc hi ha
    rw [drop_at one (by omega)]
    refine Ev.step (Ev.pos (by omega) (Ev.pos (by omega) (Ev.bind (has_mem two h2 _) ?_))) (fun k => spec_SharedAtoms.l0.eq_2 ..)
    rw [wsucc i (by omega)]
    by_cases c : decide (rd one (i : Int) ∈ two) = true
    · refine Ev.pos c (Ev.pos (by omega) ?_)
      rw [List.filter_cons_of_pos (by exact c)]
      have := ih (i + 1) (acc ++ [rd one (i : Int)]) (by omega) (by simp; omega)
      rw [List.append_assoc] at this
      exact this
    · refine Ev.neg c ?_
      rw [List.filter_cons_of_neg (by exact c)]
      exact ih (i + 1) acc (by omega) (by omega)
theorem ones_and (x y z : List Bool) (N : Nat) (hx : x.length = N) (hy : y.length = N) (hz : z.length = N) (h : ∀ j : Nat, j < N → rdOf false z (j : Int) = (rdOf false x (j : Int) && rdOf false y (j : Int))) : ones z = (ones x).filter (fun v => decide (v ∈ ones y)) := by
  have e : ones z = onesR z 0 N := by rw [ones, hz]
  have e1 : ones x = onesR x 0 N := by rw [ones, hx]
  rw [e, e1]
  unfold onesR
  rw [List.filter_map, List.filter_filter]
  congr 1
  apply List.filter_congr
  intro j hj
  have hj2 := List.mem_range'_1.1 hj
  rw [h j (by omega)]
  show _ = (decide ((j : Int) ∈ ones y) && rdOf false x (j : Int))
  have : decide ((j : Int) ∈ ones y) = rdOf false y (j : Int) := by
    rw [Bool.eq_iff_iff, decide_eq_true_iff, ones_mem]
    constructor
    · exact fun h => h.2
    · exact fun h => ⟨by omega, h⟩
  rw [this, Bool.and_comm]
/-- What both sides tell of a draw. -/
theorem both_shared (n : Int) (L : List (List Int)) (hL : Small L) (a : Int) : ∃ one two : List Int, one.length ≤ 1048576 ∧ two.length ≤ 1048576 ∧
    Ev (fun k => spec_AtomsOf.f k n L 0 a) one ∧ Ev (fun k => impl_AtomsOf.f k n L 0 a) one ∧ Ev (fun k => spec_AtomsOf.f k n L a (L.length : Int)) two ∧ Ev (fun k => impl_AtomsOf.f k n L a (L.length : Int)) two ∧
    Ev (fun k => spec_SharedAtoms.f k n L a) (one.filter (fun v => decide (v ∈ two))) ∧ Ev (fun k => impl_SharedAtoms.f k n L a) (one.filter (fun v => decide (v ∈ two))) := by
  have sp : ∀ one two : List Int, one.length ≤ 1048576 → two.length ≤ 1048576 → Ev (fun k => spec_AtomsOf.f k n L 0 a) one → Ev (fun k => spec_AtomsOf.f k n L a (L.length : Int)) two → Ev (fun k => spec_SharedAtoms.f k n L a) (one.filter (fun v => decide (v ∈ two))) := by
    intro one two h1 h2 e1 e2
    unfold spec_SharedAtoms.f
    exact Ev.bind e1 (Ev.bind e2 (spec_shared_loop one two h1 h2 one.length 0 [] (by omega) (by simp)))
  obtain ⟨q, hq, e1, e2⟩ := Dec.same (spec_clauses n L hL) (impl_clauses n L hL)
  by_cases hv : ClausesOk n L ∧ 0 ≤ a ∧ a ≤ (L.length : Int)
  · obtain ⟨v1, v2, v3⟩ := hv
    obtain ⟨m, rfl⟩ := Int.eq_ofNat_of_zero_le v1.1.1
    obtain ⟨p, rfl⟩ := Int.eq_ofNat_of_zero_le v2
    have hm : m ≤ 700 := by have := v1.1.2; omega
    have hl : ∀ j : Nat, j < L.length → LitsIn m (rd_L2 L (j : Int)) := lits_in v1 hL rfl
    have A1 := atoms_yes m L hL 0 p ⟨v1, by omega, by omega, v3⟩
    have A2 := atoms_yes m L hL p L.length ⟨v1, by omega, v3, by omega⟩
    rw [List.drop_zero] at A1
    rw [List.take_length] at A2
    have l1 : ∀ X, (ones (atomsM m X)).length ≤ 1048576 := fun X => Nat.le_trans (onesR_le _ _ _) (by rw [atomsM_length]; omega)
    refine ⟨_, _, l1 _, l1 _, A1.1, A1.2, A2.1, A2.2, sp _ _ (l1 _) (l1 _) A1.1 A2.1, ?_⟩
    obtain rfl : q = true := e2.2 v1
    unfold impl_SharedAtoms.f
    refine Ev.bind e1 (Ev.pos rfl (Ev.bind (Ev.const (in_val _ _ _)) ?_))
    rw [decide_eq_true (show (0 : Int) ≤ (p : Int) ∧ (p : Int) ≤ (L.length : Int) from ⟨v2, v3⟩)]
    have I1 := impl_atoms m hm (L.take p) (by have := hL.1; rw [List.length_take]; omega) (fun j hj => by
      rw [List.length_take] at hj
      have e : rd_L2 (L.take p) (j : Int) = rd_L2 L (j : Int) := by rw [rows_lt (by rw [List.length_take]; omega), rows_lt (by omega), List.getElem_take]
      rw [e]
      exact hl _ (by omega))
    have I2 := impl_atoms m hm (L.drop p) (by have := hL.1; rw [List.length_drop]; omega) (fun j hj => by
      rw [List.length_drop] at hj
      have e : rd_L2 (L.drop p) (j : Int) = rd_L2 L ((p + j : Nat) : Int) := by rw [rows_lt (by rw [List.length_drop]; omega), rows_lt (by omega), List.getElem_drop]
      rw [e]
      exact hl _ (by omega))
    obtain ⟨z, z1, z2, z3⟩ := shared_loop (atomsM m (L.drop p)) (m + 1) (by omega) (atomsM_length _ _) (m + 1) 0 (atomsM m (L.take p)) (by omega) (atomsM_length _ _)
    have hz : ones z = (ones (atomsM m (L.take p))).filter (fun v => decide (v ∈ ones (atomsM m (L.drop p)))) := ones_and _ _ z (m + 1) (atomsM_length _ _) (atomsM_length _ _) z2 (fun j hj => by rw [z3 j hj, if_pos (Nat.zero_le _)])
    have S1 : Ev (fun k => impl_shared.f k (m : Int) L (p : Int)) z := by
      unfold impl_shared.f
      refine Ev.pos v2 (Ev.pos v3 (Ev.bind I1 (Ev.bind I2 ?_)))
      rw [atomsM_length]
      exact z1
    refine Ev.step (Ev.neg (by decide) (Ev.bind S1 (Ev.bind (impl_list z (by omega)) (Ev.valEq hz)))) (fun k => impl_SharedAtoms.j0.eq_2 ..)
  · have n1 : ¬ AtOk n L 0 a := fun h => hv ⟨h.1, h.2.2.1, h.2.2.2⟩
    have n2 : ¬ AtOk n L a (L.length : Int) := fun h => hv ⟨h.1, h.2.1, h.2.2.1⟩
    have A1 := atoms_no n L hL 0 a n1
    have A2 := atoms_no n L hL a _ n2
    have ij : ∀ z, z = true → Ev (fun k => impl_SharedAtoms.j0 k a z n L) [] := fun z hz => Ev.step (Ev.pos hz (Ev.val _)) (fun k => impl_SharedAtoms.j0.eq_2 ..)
    refine ⟨[], [], by simp, by simp, A1.1, A1.2, A2.1, A2.2, sp [] [] (by simp) (by simp) A1.1 A2.1, ?_⟩
    unfold impl_SharedAtoms.f
    refine Ev.bind e1 ?_
    cases q with
    | false => exact Ev.neg (by decide) (ij _ rfl)
    | true =>
      refine Ev.pos rfl (Ev.bind (Ev.const (in_val _ _ _)) (ij _ ?_))
      rw [decide_eq_false (fun c => hv ⟨e2.1 rfl, c.1, c.2⟩)]
      rfl
theorem wc_has_loop (l : List Int) (hl : l.length ≤ 1048576) (x : Int) : ∀ (d i : Nat), i + d = l.length → Ev (fun k => laws_wcHas.l0 k x l (l.length : Int) (i : Int)) (decide (x ∈ l.drop i)) := by
  intro d
  induction d with
  | zero =>
    intro i hi
    rw [List.drop_of_length_le (by omega)]
    exact Ev.step (Ev.neg (by omega) (Ev.valEq (by simp))) (fun k => laws_wcHas.l0.eq_2 ..)
  | succ d ih =>
    intro i hi
    rw [drop_at l (by omega)]
    refine Ev.step (Ev.pos (by omega) (Ev.pos (by omega) (Ev.pos (by omega) ?_))) (fun k => laws_wcHas.l0.eq_2 ..)
    rw [wsucc i (by omega)]
    by_cases c : rd l (i : Int) = x
    · exact Ev.pos c (Ev.valEq (by rw [c]; simp))
    · refine Ev.neg c ((ih (i + 1) (by omega)).to ?_)
      rw [Bool.eq_iff_iff, decide_eq_true_iff, decide_eq_true_iff, List.mem_cons]
      constructor
      · exact fun h => .inr h
      · exact fun h => h.elim (fun e => absurd e.symm c) id
theorem wc_has (l : List Int) (hl : l.length ≤ 1048576) (x : Int) : Ev (fun k => laws_wcHas.f k l x) (decide (x ∈ l)) := by
  have := wc_has_loop l hl x l.length 0 (by omega)
  rw [List.drop_zero] at this
  exact this
theorem law_loop (n : Int) (L : List (List Int)) (a : Int) (one two : List Int) (h1 : one.length ≤ 1048576) (h2 : two.length ≤ 1048576)
    (e1 : Ev (fun k => spec_AtomsOf.f k n L 0 a) one) (e2 : Ev (fun k => spec_AtomsOf.f k n L a (L.length : Int)) two) : ∀ (d x : Nat), x + d = 20 →
    Ev (fun k => laws_FnSharedAtoms.l0 k a (one.filter (fun v => decide (v ∈ two))) one two (x : Int) n L) true := by
  have fin : ∀ x : Int, Ev (fun k => laws_FnSharedAtoms.j2 k a (one.filter (fun v => decide (v ∈ two))) one two x false n L) true := fun x =>
    Ev.step (Ev.neg (by decide) (Ev.bind e1 (Ev.bind (wc_same one h1) (Ev.pos rfl (Ev.bind e2 (Ev.bind (wc_same two h2) (Ev.val _))))))) (fun k => laws_FnSharedAtoms.j2.eq_2 ..)
  intro d
  induction d with
  | zero =>
    intro x hx
    by_cases c : (x : Int) ≤ n
    · exact Ev.step (Ev.pos c (by rw [decide_eq_false (show ¬ (x : Int) < 20 by omega)]; exact fin _)) (fun k => laws_FnSharedAtoms.l0.eq_2 ..)
    · exact Ev.step (Ev.neg c (fin _)) (fun k => laws_FnSharedAtoms.l0.eq_2 ..)
  | succ d ih =>
    intro x hx
    by_cases c : (x : Int) ≤ n
    · refine Ev.step (Ev.pos c ?_) (fun k => laws_FnSharedAtoms.l0.eq_2 ..)
      rw [decide_eq_true (show (x : Int) < 20 by omega)]
      have hf : (one.filter (fun v => decide (v ∈ two))).length ≤ 1048576 := Nat.le_trans (List.length_filter_le _ _) h1
      have key : decide ((x : Int) ∈ one.filter (fun v => decide (v ∈ two))) = (decide ((x : Int) ∈ one) && decide ((x : Int) ∈ two)) := by
        rw [Bool.eq_iff_iff, decide_eq_true_iff, List.mem_filter, Bool.and_eq_true, decide_eq_true_iff, decide_eq_true_iff]
      have nx := ih (x + 1) (by omega)
      refine Ev.step (Ev.pos rfl (Ev.bind (wc_has _ hf _) (Ev.bind (wc_has one h1 _) ?_))) (fun k => laws_FnSharedAtoms.j2.eq_2 ..)
      rw [wsucc x (by omega), key]
      by_cases m1 : (x : Int) ∈ one
      · refine Ev.pos (decide_eq_true m1) (Ev.bind (wc_has two h2 _) (Ev.neg ?_ nx))
        rw [decide_eq_true m1, Bool.true_and]
        simp
      · refine Ev.neg (by simpa using m1) (Ev.neg ?_ nx)
        rw [decide_eq_false m1, Bool.false_and]
        decide
    · exact Ev.step (Ev.neg c (fin _)) (fun k => laws_FnSharedAtoms.l0.eq_2 ..)
theorem draw_shared (code : List Int) (hc : ∀ x ∈ code, (Lit.int .u8 x).wf = true) : Tot (fun k => spec_DrawSharedAtoms.f k code) (fun r => Small r.2.1) := by
  obtain ⟨b, ho, hb⟩ := open_tot code hc
  show Tot (fun k => spec_l18Draw.f k code) _
  unfold spec_l18Draw.f
  refine Tot.bind (Tot.of (Ev.const ho) (P := fun r => r = (b, 0)) rfl) ?_
  rintro r rfl
  refine Tot.bind (l12some_tot b hb 0 (by decide) (by decide)) ?_
  rintro ⟨n, L, q⟩ ⟨h1, h2, h3, h4⟩
  simp only at h1 h2 h3 h4 ⊢
  refine Tot.bind (pick_tot b hb q _ h3 (by omega)) ?_
  rintro ⟨y, q1⟩ ⟨e1, _⟩
  simp only at e1 ⊢
  subst e1
  refine Tot.bind (pick_tot b hb _ 2 (by omega) (by omega)) ?_
  rintro ⟨y2, q2⟩ ⟨e1, _⟩
  simp only at e1 ⊢
  subst e1
  refine Tot.bind (pick_tot b hb _ 2 (by omega) (by omega)) ?_
  rintro ⟨y3, q3⟩ _
  refine Tot.val ⟨by show L.length ≤ _; omega, fun j hj => ?_⟩
  rw [rows_lt hj]
  exact Nat.le_trans (h2 _ (List.getElem_mem hj)) (by decide)
theorem FnSharedAtoms : laws_FnSharedAtoms.Pure := by
  intro code _ _ hc
  unfold laws_FnSharedAtoms.f
  by_cases c : (code.length : Int) > 1048576
  · exact (Ev.pos c (Ev.val true)).get
  obtain ⟨⟨n, L, a⟩, hd, hL⟩ := draw_shared code hc
  simp only at hL
  obtain ⟨one, two, h1, h2, s1, i1, s2, i2, ss, si⟩ := both_shared n L hL a
  obtain ⟨q, q1, q2, _⟩ := Dec.same (impl_clauses n L hL) (spec_clauses n L hL)
  refine (Ev.neg c (Ev.bind hd (Ev.bind si (Ev.bind ss (Ev.bind (wc_same _ (Nat.le_trans (List.length_filter_le _ _) h1)) (Ev.pos rfl (Ev.bind q1 (Ev.bind q2 ?_)))))))).get
  simp only [bne_self_eq_false]
  exact Ev.step (Ev.neg (by decide) (Ev.bind i1 (Ev.bind i2 (law_loop n L a one two h1 h2 s1 s2 19 1 (by omega))))) (fun k => laws_FnSharedAtoms.j0.eq_2 ..)

end Go.Proofs.Ytcmpngglnpjgdaa.Pure
