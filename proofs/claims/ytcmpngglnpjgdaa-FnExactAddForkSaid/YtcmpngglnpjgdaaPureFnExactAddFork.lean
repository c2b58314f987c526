/- FnExactAddFork: the program adds a fork to a diagram just as the reference does, whatever is handed in, and keeps none of what was handed in. -/
import Derived.Test.YtcmpngglnpjgdaaQFnExactAddForkx10
namespace Go.Proofs.Ytcmpngglnpjgdaa.Pure
open Go.RowKit Go.Proofs.Ytcmpngglnpjgdaa.QFnExactAddFork Go.Proofs.YtcmpngglnpjgdaaW.PrintWords Go.Proofs.YtcmpngglnpjgdaaW.PrintLast Go.Proofs.YtcmpngglnpjgdaaW.PrintMore
set_option linter.unusedVariables false
set_option linter.unusedSimpArgs false

/-! #### rounds -/
/-- From some number of rounds on, g tells r. -/
def Ev {α : Type} (g : Nat → Option α) (r : α) : Prop := ∃ K, ∀ k, K ≤ k → g k = some r
theorem Ev.val {α : Type} (r : α) : Ev (fun _ => some r) r := ⟨0, fun _ _ => rfl⟩
theorem Ev.valEq {α : Type} {r r' : α} (h : r = r') : Ev (fun _ => some r) r' := ⟨0, fun _ _ => by rw [h]⟩
theorem Ev.const {α : Type} {g : Option α} {r : α} (h : g = some r) : Ev (fun _ => g) r := ⟨0, fun _ _ => h⟩
theorem Ev.bind {α β : Type} {g : Nat → Option α} {f : Nat → α → Option β} {a : α} {b : β} (h : Ev g a) (h2 : Ev (fun k => f k a) b) : Ev (fun k => (g k).bind (f k)) b := by
  obtain ⟨K, hK⟩ := h
  obtain ⟨L, hL⟩ := h2
  exact ⟨max K L, fun k hk => by show (g k).bind (f k) = _; rw [hK k (by omega)]; exact hL k (by omega)⟩
theorem Ev.step {α : Type} {g g' : Nat → Option α} {r : α} (h : Ev g' r) (e : ∀ k, g (k + 1) = g' k) : Ev g r := by
  obtain ⟨K, hK⟩ := h
  exact ⟨K + 1, fun k hk => by
    obtain ⟨m, rfl⟩ : ∃ m, k = m + 1 := ⟨k - 1, by omega⟩
    rw [e]
    exact hK m (by omega)⟩
theorem Ev.pos {α : Type} {c : Prop} [Decidable c] {g g' : Nat → Option α} {r : α} (hc : c) (h : Ev g r) : Ev (fun k => if c then g k else g' k) r := by
  obtain ⟨K, hK⟩ := h
  exact ⟨K, fun k hk => by simp only [if_pos hc]; exact hK k hk⟩
theorem Ev.neg {α : Type} {c : Prop} [Decidable c] {g g' : Nat → Option α} {r : α} (hc : ¬ c) (h : Ev g' r) : Ev (fun k => if c then g k else g' k) r := by
  obtain ⟨K, hK⟩ := h
  exact ⟨K, fun k hk => by simp only [if_neg hc]; exact hK k hk⟩
theorem Ev.get {α : Type} {g : Nat → Option α} {r : α} (h : Ev g r) : ∃ k, g k = some r := by
  obtain ⟨K, hK⟩ := h
  exact ⟨K, hK K (Nat.le_refl _)⟩
/-! #### numbers -/
theorem w_id {x : Int} (h0 : -9223372036854775808 ≤ x) (h1 : x ≤ 9223372036854775807) : wrap64 x = x := by
  unfold wrap64
  omega
def dfind (L : List S77) (x : S77) : Option Nat := L.findIdx? (fun y => decide (y = x))
def dadd (L : List S77) (v lo hi : Int) : List S77 × Int :=
  if lo < 0 ∨ hi < 0 then (L, -1) else if lo = hi then (L, lo) else
  match dfind L ⟨v, lo, hi⟩ with
  | some i => (L, (i : Int) + 2)
  | none => if 2000 ≤ L.length then (L, -1) else (L ++ [⟨v, lo, hi⟩], (L.length : Int) + 2)
theorem dfind_some {L : List S77} {x : S77} {i : Nat} (h : dfind L x = some i) : L[i]? = some x := by
  unfold dfind at h
  rw [List.findIdx?_eq_some_iff_getElem] at h
  obtain ⟨hi, h1, _⟩ := h
  rw [List.getElem?_eq_getElem hi]
  exact congrArg some (of_decide_eq_true h1)
theorem dfind_none {L : List S77} {x : S77} (h : dfind L x = none) : x ∉ L := by
  unfold dfind at h
  rw [List.findIdx?_eq_none_iff] at h
  intro hx
  have := h x hx
  simp at this
theorem dfind_append {L : List S77} {x : S77} {i : Nat} (h : dfind L x = some i) (t : List S77) : dfind (L ++ t) x = some i := by
  unfold dfind at h ⊢
  rw [List.findIdx?_append, h]
  rfl
theorem dfind_new {L : List S77} {x : S77} (h : dfind L x = none) (t : List S77) : dfind (L ++ x :: t) x = some L.length := by
  unfold dfind at h ⊢
  rw [List.findIdx?_append, h, List.findIdx?_cons]
  simp
def NoDup (L : List S77) : Prop := ∀ (i : Nat) x, L[i]? = some x → x ∉ L.take i
theorem neg1 {a : List S77} (h : 0 ≤ (a, (-1 : Int)).2) : False := absurd (show (0 : Int) ≤ -1 from h) (by decide)
/-- The variable of a place; c at constants. -/
def dvar (c : Int) (L : List S77) (n : Int) : Int := if n < 2 then c else (L.getD (n - 2).toNat ⟨0, 0, 0⟩).f0
def Pl (L : List S77) (n : Int) : Prop := 0 ≤ n ∧ n ≤ (L.length : Int) + 1
structure DV (vars : Int) (L : List S77) : Prop where
  v0 : 0 ≤ vars
  v12 : vars ≤ 12
  len : L.length ≤ 2000
  nd : NoDup L
  ok : ∀ (i : Nat) x, L[i]? = some x → 0 ≤ x.f0 ∧ x.f0 < vars ∧ 0 ≤ x.f1 ∧ x.f1 ≤ (i : Int) + 1 ∧ 0 ≤ x.f2 ∧ x.f2 ≤ (i : Int) + 1 ∧ x.f1 ≠ x.f2 ∧ x.f0 < dvar vars L x.f1 ∧ x.f0 < dvar vars L x.f2
theorem getD_ext {L L2 : List S77} (he : L <+: L2) {i : Nat} (h : i < L.length) (z : S77) : L2.getD i z = L.getD i z := by
  obtain ⟨t, rfl⟩ := he
  rw [List.getD_eq_getElem?_getD, List.getD_eq_getElem?_getD, List.getElem?_append_left h]
theorem dvar_ext {c : Int} {L L2 : List S77} {n : Int} (h : Pl L n) (he : L <+: L2) : dvar c L2 n = dvar c L n := by
  unfold dvar
  by_cases h2 : n < 2
  · rw [if_pos h2, if_pos h2]
  · rw [if_neg h2, if_neg h2, getD_ext he (by have := h.2; omega)]
theorem dv_dadd {vars : Int} {L : List S77} (h : DV vars L) {v lo hi : Int} (hl : Pl L lo) (hh : Pl L hi) (v0 : 0 ≤ v) (v1 : v < vars) (hvl : v < dvar vars L lo) (hvh : v < dvar vars L hi) :
    DV vars (dadd L v lo hi).1 ∧ (0 ≤ (dadd L v lo hi).2 → Pl (dadd L v lo hi).1 (dadd L v lo hi).2 ∧ v ≤ dvar vars (dadd L v lo hi).1 (dadd L v lo hi).2) := by
  unfold dadd
  by_cases c1 : lo < 0 ∨ hi < 0
  · rw [if_pos c1]
    exact ⟨h, fun hn => (neg1 hn).elim⟩
  rw [if_neg c1]
  by_cases c2 : lo = hi
  · rw [if_pos c2]
    exact ⟨h, fun _ => ⟨hl, Int.le_of_lt hvl⟩⟩
  rw [if_neg c2]
  cases hf : dfind L ⟨v, lo, hi⟩ with
  | some i =>
    have hx := dfind_some hf
    obtain ⟨hi, _⟩ := List.getElem?_eq_some_iff.1 hx
    have hp : Pl L ((i : Int) + 2) := ⟨by omega, by omega⟩
    refine ⟨h, fun _ => ⟨hp, ?_⟩⟩
    show v ≤ dvar vars L ((i : Int) + 2)
    unfold dvar
    rw [if_neg (by omega), show ((i : Int) + 2 - 2).toNat = i by omega, List.getD_eq_getElem?_getD, hx]
    exact Int.le_refl _
  | none =>
    simp only
    by_cases c3 : 2000 ≤ L.length
    · rw [if_pos c3]
      exact ⟨h, fun hn => (neg1 hn).elim⟩
    rw [if_neg c3]
    have he : L <+: L ++ [⟨v, lo, hi⟩] := List.prefix_append _ _
    refine ⟨⟨h.v0, h.v12, by simp; omega, ?_, ?_⟩, fun _ => ⟨⟨by simp; omega, by simp; omega⟩, ?_⟩⟩
    · intro i x hx hm
      by_cases hil : i < L.length
      · rw [List.getElem?_append_left hil] at hx
        rw [List.take_append_of_le_length (by omega)] at hm
        exact h.nd i x hx hm
      · have hil : i = L.length := by
          have := (List.getElem?_eq_some_iff.1 hx).1
          simp at this
          omega
        subst hil
        have ex : x = ⟨v, lo, hi⟩ := by simpa using hx.symm
        subst ex
        rw [List.take_append_of_le_length (Nat.le_refl _), List.take_length] at hm
        exact dfind_none hf hm
    · intro i x hx
      by_cases hil : i < L.length
      · rw [List.getElem?_append_left hil] at hx
        obtain ⟨a1, a2, a3, a4, a5, a6, a7, a8, a9⟩ := h.ok _ _ hx
        have p1 : Pl L x.f1 := ⟨a3, by omega⟩
        have p2 : Pl L x.f2 := ⟨a5, by omega⟩
        rw [dvar_ext p1 he, dvar_ext p2 he]
        exact ⟨a1, a2, a3, a4, a5, a6, a7, a8, a9⟩
      · have hil : i = L.length := by
          have := (List.getElem?_eq_some_iff.1 hx).1
          simp at this
          omega
        subst hil
        have ex : x = ⟨v, lo, hi⟩ := by simpa using hx.symm
        subst ex
        refine ⟨v0, v1, hl.1, hl.2, hh.1, hh.2, c2, ?_, ?_⟩
        · rw [dvar_ext hl he]
          exact hvl
        · rw [dvar_ext hh he]
          exact hvh
    · show v ≤ dvar vars _ ((L.length : Int) + 2)
      unfold dvar
      rw [if_neg (by omega), show ((L.length : Int) + 2 - 2).toNat = L.length by omega, List.getD_eq_getElem?_getD]
      simp
/-! #### the reference's diagrams -/
theorem l1In_val (a b c : Int) : spec_l1In.f a b c = some (decide (b ≤ a ∧ a ≤ c)) := by
  unfold spec_l1In.f
  by_cases h : a ≥ b
  · rw [if_pos h]
    congr 1
    rw [decide_eq_decide]
    constructor
    · intro h2; exact ⟨h, h2⟩
    · intro h2; exact h2.2
  · rw [if_neg h]
    congr 1
    symm
    rw [decide_eq_false_iff_not]
    intro h2
    exact h h2.1
theorem rdF {L : List S77} {i : Nat} (h : i < L.length) : rd_T77 L (i : Int) = L[i] := by
  unfold rd_T77
  rw [Int.toNat_natCast, List.getD_eq_getElem?_getD, List.getElem?_eq_getElem h]
  rfl
theorem rdP {L : List S77} (n : Int) : rd_T77 L (n - 2) = L.getD (n - 2).toNat ⟨0, 0, 0⟩ := rfl
theorem l8Var_val (c : Int) {L : List S77} {n : Int} (hp : Pl L n) (hl : L.length ≤ 1000000000) : spec_l8Var.f c L n = some (dvar c L n) := by
  unfold spec_l8Var.f dvar
  have h1 := hp.1
  have h2 := hp.2
  by_cases h : n < 2
  · rw [if_pos h, if_pos h]
  · rw [if_neg h, if_neg h, w_id (by omega) (by omega), if_pos (by omega), if_pos (by omega), rdP]
/-- What the reference asks of a fork, the places of which are ahead of it. -/
def FOk (vars : Int) (L : List S77) (x : S77) (most : Int) : Prop := (0 ≤ x.f0 ∧ x.f0 ≤ vars - 1) ∧ (0 ≤ x.f1 ∧ x.f1 ≤ most) ∧ (0 ≤ x.f2 ∧ x.f2 ≤ most) ∧ x.f0 < dvar vars L x.f1 ∧ x.f0 < dvar vars L x.f2
theorem l8Fork_dec (vars : Int) (L : List S77) (x : S77) (most : Int) (hv : -9223372036854775807 ≤ vars ∧ vars ≤ 9223372036854775807) (hm : most ≤ (L.length : Int) + 1) (hl : L.length ≤ 1000000000) :
    ∃ b, Ev (fun k => spec_l8Fork.f k vars L x.f0 x.f1 x.f2 most) b ∧ (b = true ↔ FOk vars L x most) := by
  have hj : ∃ b, Ev (fun k => spec_l8Fork.j0 k true vars L x.f0 x.f1 x.f2) b ∧ b = false := ⟨false, Ev.step (Ev.pos rfl (Ev.val _)) (fun k => spec_l8Fork.j0.eq_2 ..), rfl⟩
  obtain ⟨b0, e0, rfl⟩ := hj
  unfold spec_l8Fork.f
  simp only [l1In_val, Option.bind_some, w_id (show -9223372036854775808 ≤ vars - 1 by omega) (by omega)]
  by_cases c1 : 0 ≤ x.f0 ∧ x.f0 ≤ vars - 1
  · rw [decide_eq_true c1]
    by_cases c2 : 0 ≤ x.f1 ∧ x.f1 ≤ most
    · rw [decide_eq_true c2]
      by_cases c3 : 0 ≤ x.f2 ∧ x.f2 ≤ most
      · rw [decide_eq_true c3]
        have p1 : Pl L x.f1 := ⟨c2.1, by omega⟩
        have p2 : Pl L x.f2 := ⟨c3.1, by omega⟩
        by_cases c4 : x.f0 < dvar vars L x.f1
        · refine ⟨decide (x.f0 < dvar vars L x.f2), Ev.pos rfl (Ev.pos rfl (Ev.step (Ev.neg (by decide) (Ev.bind (Ev.const (l8Var_val vars p1 hl)) (Ev.pos c4 (Ev.bind (Ev.const (l8Var_val vars p2 hl)) (Ev.val (decide (x.f0 < dvar vars L x.f2))))))) (fun k => spec_l8Fork.j0.eq_2 ..))), ?_⟩
          rw [decide_eq_true_eq]
          exact ⟨fun h => ⟨c1, c2, c3, c4, h⟩, fun h => h.2.2.2.2⟩
        · refine ⟨false, Ev.pos rfl (Ev.pos rfl (Ev.step (Ev.neg (by decide) (Ev.bind (Ev.const (l8Var_val vars p1 hl)) (Ev.neg c4 (Ev.val _)))) (fun k => spec_l8Fork.j0.eq_2 ..))), ?_⟩
          exact ⟨fun h => (by cases h), fun h => absurd h.2.2.2.1 c4⟩
      · rw [decide_eq_false c3]
        exact ⟨false, Ev.pos rfl (Ev.pos rfl e0), fun h => (by cases h), fun h => absurd h.2.2.1 c3⟩
    · rw [decide_eq_false c2]
      exact ⟨false, Ev.pos rfl (Ev.neg (by decide) e0), fun h => (by cases h), fun h => absurd h.2.1 c2⟩
  · rw [decide_eq_false c1]
    exact ⟨false, Ev.neg (by decide) e0, fun h => (by cases h), fun h => absurd h.1 c1⟩
/-- What is asked of the fork at i. -/
def OkAt (vars : Int) (L : List S77) (i : Nat) (h : i < L.length) : Prop := FOk vars L L[i] ((i : Int) + 1) ∧ L[i].f1 ≠ L[i].f2 ∧ L[i] ∉ L.take i
theorem dv_iff (vars : Int) (L : List S77) : DV vars L ↔ (0 ≤ vars ∧ vars ≤ 12) ∧ L.length ≤ 2000 ∧ ∀ i (h : i < L.length), OkAt vars L i h := by
  constructor
  · intro h
    refine ⟨⟨h.v0, h.v12⟩, h.len, fun i hi => ?_⟩
    obtain ⟨a1, a2, a3, a4, a5, a6, a7, a8, a9⟩ := h.ok i _ (List.getElem?_eq_getElem hi)
    exact ⟨⟨⟨a1, by omega⟩, ⟨a3, a4⟩, ⟨a5, a6⟩, a8, a9⟩, a7, h.nd i _ (List.getElem?_eq_getElem hi)⟩
  · rintro ⟨⟨h1, h2⟩, h3, h4⟩
    refine ⟨h1, h2, h3, fun i x hx => ?_, fun i x hx => ?_⟩
    · obtain ⟨hi, rfl⟩ := List.getElem?_eq_some_iff.1 hx
      exact (h4 i hi).2.2
    · obtain ⟨hi, rfl⟩ := List.getElem?_eq_some_iff.1 hx
      obtain ⟨⟨a1, a2, a3, a4, a5⟩, b, _⟩ := h4 i hi
      exact ⟨a1.1, by omega, a2.1, a2.2, a3.1, a3.2, b, a4, a5⟩
theorem eqF (a : S77) (p q r : Int) : ((a.f0 == p && (a.f1 == q && (a.f2 == r))) = true) ↔ a = ⟨p, q, r⟩ := by
  obtain ⟨x, y, z⟩ := a
  simp
theorem mem_take {L : List S77} {i : Nat} {x : S77} : x ∈ L.take i ↔ ∃ (j : Nat) (_ : j < i) (hl : j < L.length), L[j] = x := by
  rw [List.mem_iff_getElem?]
  constructor
  · rintro ⟨j, hj⟩
    rw [List.getElem?_take] at hj
    split at hj
    · next hji =>
      obtain ⟨hl, e⟩ := List.getElem?_eq_some_iff.1 hj
      exact ⟨j, hji, hl, e⟩
    · cases hj
  · rintro ⟨j, hji, hl, e⟩
    exact ⟨j, by rw [List.getElem?_take, if_pos hji, List.getElem?_eq_getElem hl, e]⟩
theorem sv_l1 (vars : Int) (L : List S77) (hl : L.length ≤ 2000) (i : Nat) (hi : i < L.length) (rest : Bool) (hrest : Ev (fun k => spec_DiagramValid.l0 k (wrap64 ((i : Int) + 1)) vars L) rest) : ∀ (d j : Nat), j + d = i → (∀ q (hq : q < L.length), q < j → L[q] ≠ L[i]) →
    Ev (fun k => spec_DiagramValid.l1 k (i : Int) (j : Int) vars L L[i].f0 L[i].f1 L[i].f2) (if L[i] ∈ L.take i then false else rest) := by
  intro d
  induction d with
  | zero =>
    intro j hj hn
    have : ¬ L[i] ∈ L.take i := fun h => by
      obtain ⟨q, h1, h2, h3⟩ := mem_take.1 h
      exact hn q h2 (by omega) h3
    rw [if_neg this]
    exact Ev.step (Ev.neg (by omega) hrest) (fun k => spec_DiagramValid.l1.eq_2 ..)
  | succ d ih =>
    intro j hj hn
    have hjl : j < L.length := by omega
    refine Ev.step ?_ (fun k => spec_DiagramValid.l1.eq_2 ..)
    refine Ev.pos (by omega) (Ev.pos (by omega) (Ev.pos (by omega) ?_))
    rw [rdF hjl]
    by_cases e : L[j] = L[i]
    · rw [if_pos (mem_take.2 ⟨j, by omega, hjl, e⟩)]
      exact Ev.pos ((eqF _ _ _ _).2 e) (Ev.val _)
    · refine Ev.neg (fun h => e ((eqF _ _ _ _).1 h)) ?_
      rw [w_id (by omega) (by omega), show (j : Int) + 1 = ((j + 1 : Nat) : Int) by omega]
      exact ih (j + 1) (by omega) (fun q hq hqj => by
        by_cases c : q = j
        · subst c
          exact e
        · exact hn q hq (by omega))
theorem sv_l0 (vars : Int) (L : List S77) (hv : 0 ≤ vars ∧ vars ≤ 12) (hl : L.length ≤ 2000) : ∀ (d i : Nat), i + d = L.length →
    ∃ b, Ev (fun k => spec_DiagramValid.l0 k (i : Int) vars L) b ∧ (b = true ↔ ∀ q (h : q < L.length), i ≤ q → OkAt vars L q h) := by
  intro d
  induction d with
  | zero =>
    intro i hi
    exact ⟨true, Ev.step (Ev.neg (by omega) (Ev.val _)) (fun k => spec_DiagramValid.l0.eq_2 ..), fun _ q h hq => absurd h (by omega), fun _ => rfl⟩
  | succ d ih =>
    intro i hi
    have hil : i < L.length := by omega
    obtain ⟨rest, er, hr⟩ := ih (i + 1) (by omega)
    have hw : wrap64 ((i : Int) + 1) = ((i + 1 : Nat) : Int) := by rw [w_id (by omega) (by omega)]; omega
    obtain ⟨b1, e1, h1⟩ := l8Fork_dec vars L L[i] ((i : Int) + 1) (by omega) (by omega) (by omega)
    have split_ : (∀ q (h : q < L.length), i ≤ q → OkAt vars L q h) ↔ OkAt vars L i hil ∧ ∀ q (h : q < L.length), i + 1 ≤ q → OkAt vars L q h := by
      constructor
      · intro h
        exact ⟨h i hil (Nat.le_refl _), fun q hq hq2 => h q hq (by omega)⟩
      · rintro ⟨ha, hb⟩ q hq hq2
        by_cases c : i = q
        · subst c
          exact ha
        · exact hb q hq (by omega)
    have e1' : Ev (fun k => spec_l8Fork.f k vars L (rd_T77 L (i : Int)).f0 (rd_T77 L (i : Int)).f1 (rd_T77 L (i : Int)).f2 (wrap64 ((i : Int) + 1))) b1 := by
      rw [rdF hil, w_id (by omega) (by omega)]
      exact e1
    have jt : ∀ b, Ev (fun k => spec_DiagramValid.j2 k (i : Int) b vars L (rd_T77 L (i : Int)).f0 (rd_T77 L (i : Int)).f1 (rd_T77 L (i : Int)).f2) (if b = true then false else if L[i] ∈ L.take i then false else rest) := by
      intro b
      refine Ev.step ?_ (fun k => spec_DiagramValid.j2.eq_2 ..)
      cases b with
      | true => exact Ev.pos rfl (Ev.val _)
      | false =>
        refine Ev.neg (by decide) ?_
        rw [rdF hil]
        exact sv_l1 vars L hl i hil rest (by rw [hw]; exact er) i 0 (by omega) (fun q _ hq => absurd hq (by omega))
    cases b1 with
    | false =>
      refine ⟨false, Ev.step (Ev.pos (by omega) (Ev.pos (by omega) (Ev.bind e1' (Ev.neg (by decide) (jt true))))) (fun k => spec_DiagramValid.l0.eq_2 ..), fun h => (by cases h), fun h => ?_⟩
      exact absurd (h1.2 (h i hil (Nat.le_refl _)).1) (by decide)
    | true =>
      refine ⟨_, Ev.step (Ev.pos (by omega) (Ev.pos (by omega) (Ev.bind e1' (Ev.pos rfl (jt _))))) (fun k => spec_DiagramValid.l0.eq_2 ..), ?_⟩
      rw [rdF hil, split_]
      by_cases c1 : L[i].f1 = L[i].f2
      · rw [if_pos (beq_iff_eq.mpr c1)]
        exact ⟨fun h => (by cases h), fun h => absurd c1 h.1.2.1⟩
      · rw [if_neg (by simpa using c1)]
        by_cases c2 : L[i] ∈ L.take i
        · rw [if_pos c2]
          exact ⟨fun h => (by cases h), fun h => absurd c2 h.1.2.2⟩
        · rw [if_neg c2, hr]
          exact ⟨fun h => ⟨⟨h1.1 rfl, c1, c2⟩, h⟩, fun h => h.2⟩
theorem spec_dv (vars : Int) (L : List S77) : ∃ b, Ev (fun k => spec_DiagramValid.f k vars L) b ∧ (b = true ↔ DV vars L) := by
  unfold spec_DiagramValid.f
  simp only [l1In_val, Option.bind_some]
  have e0 : Ev (fun k => spec_DiagramValid.j0 k true vars L) false := Ev.step (Ev.pos rfl (Ev.val _)) (fun k => spec_DiagramValid.j0.eq_2 ..)
  by_cases c1 : 0 ≤ vars ∧ vars ≤ 12
  · rw [decide_eq_true c1]
    by_cases c2 : (L.length : Int) > 2000
    · rw [decide_eq_true c2]
      exact ⟨false, Ev.pos rfl e0, fun h => (by cases h), fun h => by have := h.len; omega⟩
    · rw [decide_eq_false c2]
      obtain ⟨b, hb, h2⟩ := sv_l0 vars L c1 (by omega) L.length 0 (by omega)
      refine ⟨b, Ev.pos rfl (Ev.step (Ev.neg (by decide) hb) (fun k => spec_DiagramValid.j0.eq_2 ..)), ?_⟩
      rw [h2, dv_iff]
      exact ⟨fun h => ⟨c1, by omega, fun i hi => h i hi (Nat.zero_le _)⟩, fun h q hq _ => h.2.2 q hq⟩
  · rw [decide_eq_false c1]
    exact ⟨false, Ev.neg (by decide) e0, fun h => (by cases h), fun h => absurd ⟨h.v0, h.v12⟩ c1⟩
theorem copy_loop (vars : Int) (L : List S77) (hl : L.length ≤ 2000) : ∀ (d i : Nat), i + d = L.length → Ev (fun k => spec_l8Copy.l0 k (i : Int) vars L vars (L.take i)) (vars, L) := by
  intro d
  induction d with
  | zero =>
    intro i hi
    rw [List.take_of_length_le (by omega)]
    exact Ev.step (Ev.neg (by omega) (Ev.val _)) (fun k => spec_l8Copy.l0.eq_2 ..)
  | succ d ih =>
    intro i hi
    have hil : i < L.length := by omega
    refine Ev.step ?_ (fun k => spec_l8Copy.l0.eq_2 ..)
    rw [rdF hil, w_id (by omega) (by omega), show (i : Int) + 1 = ((i + 1 : Nat) : Int) by omega]
    refine Ev.pos (by omega) (Ev.pos (by omega) (Ev.pos (by rw [List.length_take]; omega) ?_))
    have e : L.take i ++ [(⟨L[i].f0, L[i].f1, L[i].f2⟩ : S77)] = L.take (i + 1) := by
      rw [List.take_add_one, List.getElem?_eq_getElem hil]
      rfl
    rw [e]
    exact ih (i + 1) (by omega)
theorem spec_copy (vars : Int) (L : List S77) (hl : L.length ≤ 2000) : Ev (fun k => spec_l8Copy.f k vars L) (vars, L) := copy_loop vars L hl L.length 0 (by omega)
theorem dfind_first {L : List S77} {x : S77} {i : Nat} (hi : i < L.length) (h : L[i] = x) (hn : ∀ q (hq : q < L.length), q < i → L[q] ≠ x) : dfind L x = some i := by
  unfold dfind
  rw [List.findIdx?_eq_some_iff_getElem]
  exact ⟨hi, decide_eq_true h, fun j hj => by simpa using hn j (by omega) hj⟩
theorem dfind_no {L : List S77} {x : S77} (hn : ∀ q (hq : q < L.length), L[q] ≠ x) : dfind L x = none := by
  unfold dfind
  rw [List.findIdx?_eq_none_iff]
  intro y hy
  obtain ⟨q, hq, rfl⟩ := List.mem_iff_getElem.1 hy
  simpa using hn q hq
theorem add_loop (vars v lo hi : Int) (L : List S77) (hl : L.length ≤ 2000) (h1 : ¬ (lo < 0 ∨ hi < 0)) (h2 : lo ≠ hi) : ∀ (d i : Nat), i + d = L.length → (∀ q (hq : q < L.length), q < i → L[q] ≠ ⟨v, lo, hi⟩) →
    Ev (fun k => spec_l8Add.l0 k (i : Int) vars L v lo hi) (vars, (dadd L v lo hi).1, (dadd L v lo hi).2) := by
  intro d
  induction d with
  | zero =>
    intro i hq0 hn
    have hf : dfind L ⟨v, lo, hi⟩ = none := dfind_no (fun q hq => hn q hq (by omega))
    unfold dadd
    rw [if_neg h1, if_neg h2, hf]
    refine Ev.step (Ev.neg (by omega) ?_) (fun k => spec_l8Add.l0.eq_2 ..)
    by_cases c : 2000 ≤ L.length
    · rw [if_pos c]
      exact Ev.pos (by omega) (Ev.val _)
    · rw [if_neg c]
      refine Ev.neg (by omega) (Ev.pos (by omega) ?_)
      simp only [Option.bind_some, List.length_append, List.length_singleton]
      rw [w_id (by omega) (by omega)]
      exact Ev.valEq (by simp; omega)
  | succ d ih =>
    intro i hq0 hn
    have hil : i < L.length := by omega
    refine Ev.step ?_ (fun k => spec_l8Add.l0.eq_2 ..)
    rw [rdF hil]
    refine Ev.pos (by omega) (Ev.pos (by omega) ?_)
    by_cases e : L[i] = ⟨v, lo, hi⟩
    · refine Ev.pos ((eqF _ _ _ _).2 e) ?_
      unfold dadd
      rw [if_neg h1, if_neg h2, dfind_first hil e hn, w_id (by omega) (by omega)]
      exact Ev.val _
    · refine Ev.neg (fun h => e ((eqF _ _ _ _).1 h)) ?_
      rw [w_id (by omega) (by omega), show (i : Int) + 1 = ((i + 1 : Nat) : Int) by omega]
      exact ih (i + 1) (by omega) (fun q hq hqi => by
        by_cases c : q = i
        · subst c
          exact e
        · exact hn q hq (by omega))
theorem spec_add (vars v lo hi : Int) (L : List S77) (hl : L.length ≤ 2000) : Ev (fun k => spec_l8Add.f k vars L v lo hi) (vars, (dadd L v lo hi).1, (dadd L v lo hi).2) := by
  unfold spec_l8Add.f
  by_cases h0 : lo < 0
  · refine Ev.pos h0 (Ev.step (Ev.pos rfl ?_) (fun k => spec_l8Add.j0.eq_2 ..))
    unfold dadd
    rw [if_pos (.inl h0)]
    exact Ev.val _
  · refine Ev.neg h0 ?_
    by_cases h1 : hi < 0
    · rw [decide_eq_true h1]
      refine Ev.step (Ev.pos rfl ?_) (fun k => spec_l8Add.j0.eq_2 ..)
      unfold dadd
      rw [if_pos (.inr h1)]
      exact Ev.val _
    · rw [decide_eq_false h1]
      refine Ev.step (Ev.neg (by decide) ?_) (fun k => spec_l8Add.j0.eq_2 ..)
      by_cases h2 : lo = hi
      · refine Ev.pos h2 ?_
        unfold dadd
        rw [if_neg (by omega), if_pos h2]
        exact Ev.val _
      · exact Ev.neg h2 (add_loop vars v lo hi L hl (by omega) h2 L.length 0 (by omega) (fun q _ hq => absurd hq (by omega)))
/-! #### the program's diagrams -/
theorem in_val (a b c : Int) : impl_in.f a b c = some (decide (b ≤ a ∧ a ≤ c)) := by
  unfold impl_in.f
  by_cases h : a ≥ b
  · rw [if_pos h]
    congr 1
    rw [decide_eq_decide]
    constructor
    · intro h2; exact ⟨h, h2⟩
    · intro h2; exact h2.2
  · rw [if_neg h]
    congr 1
    symm
    rw [decide_eq_false_iff_not]
    intro h2
    exact h h2.1
theorem varAt_val (a : Int) {L : List S77} {n : Int} (hp : Pl L n) (hl : L.length ≤ 1000000000) : impl_Diagram_varAt.f a L n = some (dvar 12 L n) := by
  unfold impl_Diagram_varAt.f dvar
  have h1 := hp.1
  have h2 := hp.2
  by_cases h : n < 2
  · rw [if_pos h, if_pos h]
  · rw [if_neg h, if_neg h, w_id (by omega) (by omega), if_pos (by omega), if_pos (by omega), rdP]
def decPl (L : List S77) (n : Int) : Decidable (Pl L n) := inferInstanceAs (Decidable (_ ∧ _))
theorem isPlace_val (a : Int) {L : List S77} (n : Int) (hl : L.length ≤ 1000000000) : impl_Diagram_isPlace.f a L n = some (@decide (Pl L n) (decPl L n)) := by
  unfold impl_Diagram_isPlace.f
  rw [in_val, w_id (by omega) (by omega)]
  rfl
/-- Where variables are few, it is the same to what the constants are held. -/
theorem dvar_lt {vars v : Int} (L : List S77) (n : Int) (h : v < vars) (h12 : vars ≤ 12) : v < dvar 12 L n ↔ v < dvar vars L n := by
  unfold dvar
  split
  · omega
  · exact Iff.rfl
theorem keyI {n : Int} (h : 0 ≤ n) (h2 : n ≤ 1000000000) : KeyI n := ⟨h, by omega⟩
theorem iv_bad (vars : Int) (L : List S77) (hv : 0 ≤ vars ∧ vars ≤ 12) (hl : L.length ≤ 2000) (i : Nat) (hi : i < L.length) : ∃ b, impl_DiagramValid.bad vars L i L[i] = some b ∧ (b = false ↔ OkAt vars L i hi) := by
  unfold impl_DiagramValid.bad OkAt FOk
  simp only [in_val, Option.bind_some, w_id (show -9223372036854775808 ≤ vars - 1 by omega) (by omega), w_id (show -9223372036854775808 ≤ (i : Int) + 1 by omega) (by omega), decide_eq_false_iff_not]
  by_cases c1 : 0 ≤ L[i].f0 ∧ L[i].f0 ≤ vars - 1
  · rw [if_neg (by simpa using c1)]
    by_cases c2 : 0 ≤ L[i].f1 ∧ L[i].f1 ≤ (i : Int) + 1
    · rw [if_neg (by simpa using c2)]
      by_cases c3 : 0 ≤ L[i].f2 ∧ L[i].f2 ≤ (i : Int) + 1
      · rw [if_neg (by simpa using c3)]
        have p1 : Pl L L[i].f1 := ⟨c2.1, by omega⟩
        have p2 : Pl L L[i].f2 := ⟨c3.1, by omega⟩
        by_cases c4 : L[i].f1 = L[i].f2
        · rw [if_pos c4]
          exact ⟨true, rfl, fun h => (by cases h), fun h => absurd c4 h.2.1⟩
        · rw [if_neg c4, varAt_val _ p1 (by omega), Option.bind_some]
          by_cases c5 : dvar 12 L L[i].f1 ≤ L[i].f0
          · rw [if_pos c5]
            exact ⟨true, rfl, fun h => (by cases h), fun h => absurd ((dvar_lt L _ (by omega) hv.2).2 h.1.2.2.2.1) (by omega)⟩
          · rw [if_neg c5, varAt_val _ p2 (by omega), Option.bind_some]
            by_cases c6 : dvar 12 L L[i].f2 ≤ L[i].f0
            · rw [if_pos c6]
              exact ⟨true, rfl, fun h => (by cases h), fun h => absurd ((dvar_lt L _ (by omega) hv.2).2 h.1.2.2.2.2) (by omega)⟩
            · rw [if_neg c6, if_pos ⟨keyI c1.1 (by omega), keyI c2.1 (by omega), keyI c3.1 (by omega)⟩]
              refine ⟨_, rfl, ?_⟩
              rw [decide_eq_false_iff_not]
              exact ⟨fun h => ⟨⟨c1, c2, c3, (dvar_lt L _ (by omega) hv.2).1 (by omega), (dvar_lt L _ (by omega) hv.2).1 (by omega)⟩, c4, h⟩, fun h => h.2.2⟩
      · rw [if_pos (by simpa using c3)]
        exact ⟨true, rfl, fun h => (by cases h), fun h => absurd h.1.2.2.1 c3⟩
    · rw [if_pos (by simpa using c2)]
      exact ⟨true, rfl, fun h => (by cases h), fun h => absurd h.1.2.1 c2⟩
  · rw [if_pos (by simpa using c1)]
    exact ⟨true, rfl, fun h => (by cases h), fun h => absurd h.1.1 c1⟩
theorem iv_l0 (vars : Int) (L : List S77) (hv : 0 ≤ vars ∧ vars ≤ 12) (hl : L.length ≤ 2000) : ∀ (d i : Nat), i + d = L.length → ∃ b, impl_DiagramValid.l0 vars L d i = some b ∧ (b = true ↔ ∀ q (h : q < L.length), i ≤ q → OkAt vars L q h) := by
  intro d
  induction d with
  | zero =>
    intro i hi
    exact ⟨true, rfl, fun _ q h hq => absurd h (by omega), fun _ => rfl⟩
  | succ d ih =>
    intro i hi
    have hil : i < L.length := by omega
    obtain ⟨rest, er, hr⟩ := ih (i + 1) (by omega)
    obtain ⟨b, eb, hb⟩ := iv_bad vars L hv hl i hil
    unfold impl_DiagramValid.l0
    rw [rdF hil, eb, Option.bind_some]
    cases b with
    | true =>
      refine ⟨false, rfl, fun h => (by cases h), fun h => ?_⟩
      exact absurd (hb.2 (h i hil (Nat.le_refl _))) (by decide)
    | false =>
      refine ⟨rest, er, ?_⟩
      rw [hr]
      constructor
      · intro h q hq hq2
        by_cases c : i = q
        · subst c
          exact hb.1 rfl
        · exact h q hq (by omega)
      · intro h q hq hq2
        exact h q hq (by omega)
theorem impl_dv (vars : Int) (L : List S77) : ∃ b, impl_DiagramValid.f vars L = some b ∧ (b = true ↔ DV vars L) := by
  unfold impl_DiagramValid.f
  simp only [in_val, Option.bind_some]
  by_cases c1 : 0 ≤ vars ∧ vars ≤ 12
  · rw [if_neg (by simpa using c1)]
    by_cases c2 : (L.length : Int) > 2000
    · rw [if_pos c2]
      exact ⟨false, rfl, fun h => (by cases h), fun h => by have := h.len; omega⟩
    · rw [if_neg c2]
      obtain ⟨b, hb, h2⟩ := iv_l0 vars L c1 (by omega) L.length 0 (by omega)
      refine ⟨b, hb, ?_⟩
      rw [h2, dv_iff]
      exact ⟨fun h => ⟨c1, by omega, fun i hi => h i hi (Nat.zero_le _)⟩, fun h q hq _ => h.2.2 q hq⟩
  · rw [if_pos (by simpa using c1)]
    exact ⟨false, rfl, fun h => (by cases h), fun h => absurd ⟨h.v0, h.v12⟩ c1⟩
/-- Where each fork stands. -/
def seenP (L : List S77) (x : S77) : Option Int := (dfind L x).map (fun i => (i : Int) + 2)
theorem seen_take {L : List S77} (hn : NoDup L) : ∀ i, i ≤ L.length → impl_forkingOf.seen L i = seenP (L.take i) := by
  intro i
  induction i with
  | zero =>
    intro _
    funext x
    rfl
  | succ i ih =>
    intro hi
    have hil : i < L.length := by omega
    funext x
    show (if x = rd_T77 L (i : Int) then some ((i : Int) + 2) else impl_forkingOf.seen L i x) = _
    rw [rdF hil, ih (by omega)]
    have e : L.take (i + 1) = L.take i ++ [L[i]] := by
      rw [List.take_add_one, List.getElem?_eq_getElem hil]
      rfl
    have hlen : (L.take i).length = i := by rw [List.length_take]; omega
    have hno : dfind (L.take i) L[i] = none := by
      cases hd : dfind (L.take i) L[i] with
      | none => rfl
      | some j =>
        have := dfind_some hd
        exact absurd (List.mem_of_getElem? this) (hn i _ (List.getElem?_eq_getElem hil))
    unfold seenP
    rw [e]
    by_cases c : x = L[i]
    · rw [if_pos c, c, dfind_new hno []]
      simp [hlen]
    · rw [if_neg c]
      cases hd : dfind (L.take i) x with
      | some j => rw [dfind_append hd]
      | none =>
        have : dfind (L.take i ++ [L[i]]) x = none := dfind_no (fun q hq e2 => by
          by_cases hqi : q < (L.take i).length
          · rw [List.getElem_append_left hqi] at e2
            exact dfind_none hd (e2 ▸ List.getElem_mem hqi)
          · have hq' : q = (L.take i).length := by
              have := hq
              rw [List.length_append, List.length_singleton] at this
              omega
            subst hq'
            rw [List.getElem_append_right (Nat.le_refl _)] at e2
            simp at e2
            exact c e2.symm)
        rw [this]
theorem okF_of {vars : Int} {L : List S77} (h : DV vars L) {x : S77} (hx : x ∈ L) : okF x := by
  obtain ⟨i, hi⟩ := List.mem_iff_getElem?.1 hx
  obtain ⟨a1, a2, a3, a4, a5, a6, _⟩ := h.ok i x hi
  have := h.v12
  have := (List.getElem?_eq_some_iff.1 hi).1
  have := h.len
  exact ⟨keyI a1 (by omega), keyI a3 (by omega), keyI a5 (by omega)⟩
/-- A diagram that grows, as the program holds it: nothing is done with it yet that is not so. -/
def fs0 (vars : Int) (L : List S77) : FS := ⟨vars, L, seenP L, false, fun _ => none⟩
theorem clone_val (L : List S77) (h : L.length ≤ 1000000000) : impl_Fork_85.f L = some L := by
  unfold impl_Fork_85.f
  simp only [Option.bind_some, List.length_nil, List.nil_append]
  rw [if_pos (by omega)]
theorem clone2_val (L : List S77) (h : L.length ≤ 1000000000) : impl_Fork_86.f L = some L := by
  unfold impl_Fork_86.f
  rw [if_pos (by omega)]
theorem forkingOf_val {vars : Int} {L : List S77} (h : DV vars L) : impl_forkingOf.f vars L = some (fs0 vars L) := by
  unfold impl_forkingOf.f
  rw [clone_val L (by have := h.len; omega), Option.bind_some, if_pos (fun x hx => okF_of h hx), seen_take h.nd _ (Nat.le_refl _), List.take_length]
  rfl
theorem fork_val (s : FS) (v lo hi : Int) (hk : okF ⟨v, lo, hi⟩) (hlo : 0 ≤ lo) (hhi : 0 ≤ hi) (hs : s.seen = seenP s.forks) :
    ∃ s' r, impl_forking_fork.f s v lo hi = some (s', r) ∧ s'.vars = s.vars ∧ s'.memo = s.memo ∧ s'.seen = seenP s'.forks ∧ s'.forks = (dadd s.forks v lo hi).1 ∧ (if (dadd s.forks v lo hi).2 < 0 then s'.full = true ∧ r = 0 else s'.full = s.full ∧ r = (dadd s.forks v lo hi).2) := by
  unfold impl_forking_fork.f dadd
  rw [if_neg (show ¬ (lo < 0 ∨ hi < 0) by omega)]
  by_cases c1 : lo = hi
  · rw [if_pos c1, if_pos c1]
    exact ⟨s, lo, rfl, rfl, rfl, hs, rfl, by rw [if_neg (by omega)]; exact ⟨rfl, rfl⟩⟩
  rw [if_neg c1, if_neg c1, if_pos hk, hs]
  cases hd : dfind s.forks ⟨v, lo, hi⟩ with
  | some i =>
    have e : seenP s.forks ⟨v, lo, hi⟩ = some ((i : Int) + 2) := by unfold seenP; rw [hd]; rfl
    rw [e]
    exact ⟨s, _, rfl, rfl, rfl, hs, rfl, by rw [if_neg (by show ¬ ((_ : Nat) : Int) + 2 < 0; omega)]; exact ⟨rfl, rfl⟩⟩
  | none =>
    have e : seenP s.forks ⟨v, lo, hi⟩ = none := by unfold seenP; rw [hd]; rfl
    rw [e]
    by_cases c2 : 2000 ≤ s.forks.length
    · simp only
      rw [if_pos (by omega), if_pos c2]
      exact ⟨_, _, rfl, rfl, rfl, rfl, rfl, by rw [if_pos (show (-1 : Int) < 0 by decide)]; exact ⟨rfl, rfl⟩⟩
    · simp only
      rw [if_neg (by omega), if_neg c2]
      refine ⟨_, _, rfl, rfl, rfl, ?_, rfl, by rw [if_neg (by show ¬ ((_ : Nat) : Int) + 2 < 0; omega)]; exact ⟨rfl, rfl⟩⟩
      funext y
      show (if y = ⟨v, lo, hi⟩ then some ((s.forks.length : Int) + 2) else seenP s.forks y) = seenP (s.forks ++ [⟨v, lo, hi⟩]) y
      unfold seenP
      by_cases c : y = ⟨v, lo, hi⟩
      · rw [if_pos c, c, dfind_new hd []]
        rfl
      · rw [if_neg c]
        cases hy : dfind s.forks y with
        | some j => rw [dfind_append hy]
        | none =>
          have : dfind (s.forks ++ [⟨v, lo, hi⟩]) y = none := dfind_no (fun q hq e2 => by
            by_cases hqi : q < s.forks.length
            · rw [List.getElem_append_left hqi] at e2
              exact dfind_none hy (e2 ▸ List.getElem_mem hqi)
            · have hq' : q = s.forks.length := by
                have := hq
                rw [List.length_append, List.length_singleton] at this
                omega
              subst hq'
              rw [List.getElem_append_right (Nat.le_refl _)] at e2
              simp at e2
              exact c e2.symm)
          rw [this]
theorem done_val (s : FS) (n : Int) (hl : s.forks.length ≤ 2000) : impl_forking_done.f s n = some (if s.full = true then (0, [], -1) else (s.vars, s.forks, n)) := by
  unfold impl_forking_done.f
  by_cases c : s.full = true
  · rw [if_pos c, if_pos c]
  · rw [if_neg c, if_neg c, clone2_val _ (by omega)]
    rfl
/-- A diagram and a place, or nothing and -1. -/
def told (vars : Int) (p : List S77 × Int) : Int × List S77 × Int := if p.2 < 0 then (0, [], -1) else (vars, p.1, p.2)
/-! #### the law's own copies of diagrams -/
theorem sz_forks (l : List S103) (h : l.length ≤ maxLen) : ∃ z, laws_szForkS.f l 1048576 = some z ∧ (z < 0 ∨ l.length ≤ 1048576) := by
  unfold laws_szForkS.f
  simp only [maxLen] at h
  rw [w_id (by omega) (by omega)]
  by_cases c : 1048576 - (l.length : Int) < 0
  · rw [if_pos c]
    exact ⟨_, rfl, .inl (by decide)⟩
  · rw [if_neg c]
    exact ⟨_, rfl, .inr (by omega)⟩
theorem sz_diagram (a : Int) (l : List S103) (h : l.length ≤ maxLen) : ∃ z, laws_szDiagram.f a l 1048576 = some z ∧ (z < 0 ∨ l.length ≤ 1048576) := by
  obtain ⟨z, h1, h2⟩ := sz_forks l h
  unfold laws_szDiagram.f
  rw [h1, Option.bind_some]
  by_cases c : z < 0
  · rw [if_pos c]
    exact ⟨_, rfl, .inl (by decide)⟩
  · rw [if_neg c]
    exact ⟨_, rfl, h2⟩
theorem wnat (i : Nat) (h : i ≤ 1000000000000) : wrap64 ((i : Int) + 1) = ((i + 1 : Nat) : Int) := by rw [w_id (by omega) (by omega)]; omega
theorem to_forks_loop (l : List S103) (hl : l.length ≤ 1048576) : ∀ (d i : Nat) (ys : List S77), i + d = l.length → ys.length = l.length →
    ∃ r, Ev (fun k => laws_toForkS.l0 k l ys (i : Int)) r ∧ r.length = l.length := by
  intro d
  induction d with
  | zero =>
    intro i ys hi hy
    exact ⟨ys, Ev.step (Ev.neg (by omega) (Ev.val _)) (fun k => laws_toForkS.l0.eq_2 ..), hy⟩
  | succ d ih =>
    intro i ys hi hy
    have hwi := wnat i (by omega)
    obtain ⟨r, hr, hl2⟩ := ih (i + 1) (ys.set i (⟨(rd_T103 l (i : Int)).f0, (rd_T103 l (i : Int)).f1, (rd_T103 l (i : Int)).f2⟩ : S77)) (by omega) (by simpa using hy)
    refine ⟨r, Ev.step ?_ (fun k => laws_toForkS.l0.eq_2 ..), hl2⟩
    rw [hwi, Int.toNat_natCast]
    exact Ev.pos (by omega) (Ev.pos (by omega) (Ev.bind (Ev.const (by unfold laws_toFork.f; rfl)) (Ev.pos (by omega) hr)))
theorem to_diagram (a : Int) (l : List S103) (hl : l.length ≤ 1048576) : ∃ L, Ev (fun k => laws_toDiagram.f k a l) (a, L) ∧ L.length = l.length := by
  obtain ⟨r, hr, hl2⟩ := to_forks_loop l hl l.length 0 (List.replicate l.length z77) (by omega) (by simp)
  refine ⟨r, ?_, hl2⟩
  unfold laws_toDiagram.f
  refine Ev.bind (a := r) ?_ (Ev.val _)
  unfold laws_toForkS.f
  refine Ev.pos (by omega) (Ev.pos (by omega) ?_)
  rw [Int.toNat_natCast]
  exact hr
theorem eq_forks_loop (l : List S77) (hl : l.length ≤ 4611686018427387904) : ∀ (d i : Nat), i + d = l.length → Ev (fun k => laws_eqForkS.l0 k l l (i : Int)) true := by
  intro d
  induction d with
  | zero =>
    intro i hi
    exact Ev.step (Ev.neg (by omega) (Ev.val _)) (fun k => laws_eqForkS.l0.eq_2 ..)
  | succ d ih =>
    intro i hi
    have hwi : wrap64 ((i : Int) + 1) = ((i + 1 : Nat) : Int) := by rw [w_id (by omega) (by omega)]; omega
    refine Ev.step ?_ (fun k => laws_eqForkS.l0.eq_2 ..)
    rw [hwi]
    exact Ev.pos (by omega) (Ev.pos (by omega) (Ev.pos (by omega) (Ev.bind (Ev.const (by unfold laws_eqFork.f; simp)) (Ev.pos rfl (ih (i + 1) (by omega))))))
theorem eq_diagram (a : Int) (l : List S77) (hl : l.length ≤ 4611686018427387904) : Ev (fun k => laws_eqDiagram.f k a l a l) true := by
  unfold laws_eqDiagram.f
  refine Ev.pos rfl (Ev.bind (a := true) ?_ (Ev.pos rfl (Ev.val _)))
  unfold laws_eqForkS.f
  exact Ev.pos rfl (eq_forks_loop l hl l.length 0 (by omega))
theorem rdSetF {L : List S77} {i : Nat} (x : S77) (h : i < L.length) : rd_T77 (L.set i x) (i : Int) = x := by rw [rdF (by simpa using h), List.getElem_set_self]
/-- The numbers that the law writes into forks. -/
def markF (c : Nat) : S77 := ⟨1 + 3 * (c : Int), 2 + 3 * (c : Int), 3 + 3 * (c : Int)⟩
theorem mark_forks_loop (n : Nat) (hn : n ≤ 1048576) : ∀ (d i : Nat) (c : Int) (ys : List S77), i + d = n → ys.length = n → c = 1 + 3 * (i : Int) → (∀ q (h : q < ys.length), q < i → ys[q] = markF q) →
    ∃ zs, Ev (fun k => laws_markForkS.l0 k ys c (i : Int)) (1 + 3 * (n : Int), zs) ∧ zs.length = n ∧ ∀ q (h : q < zs.length), zs[q] = markF q := by
  intro d
  induction d with
  | zero =>
    intro i c ys hi hy hc hq
    have : i = n := by omega
    subst this
    subst hc
    exact ⟨ys, Ev.step (Ev.neg (by omega) (Ev.val _)) (fun k => laws_markForkS.l0.eq_2 ..), hy, fun q h => hq q h (by omega)⟩
  | succ d ih =>
    intro i c ys hi hy hc hq
    have hwi := wnat i (by omega)
    have w1 : wrap64 (c + 1) = c + 1 := w_id (by omega) (by omega)
    have w2 : wrap64 (c + 1 + 1) = c + 1 + 1 := w_id (by omega) (by omega)
    have w3 : wrap64 (c + 1 + 1 + 1) = c + 1 + 1 + 1 := w_id (by omega) (by omega)
    have hil : i < ys.length := by omega
    have key := ih (i + 1) (c + 1 + 1 + 1) (ys.set i (markF i)) (by omega) (by simpa using hy) (by omega) (fun q h hqi => by
      rw [List.length_set] at h
      by_cases e : q = i
      · subst e
        rw [List.getElem_set_self]
      · rw [List.getElem_set_ne (fun e2 => e e2.symm)]
        exact hq q h (by omega))
    obtain ⟨zs, e1, e2, e3⟩ := key
    refine ⟨zs, Ev.step ?_ (fun k => laws_markForkS.l0.eq_2 ..), e2, e3⟩
    simp only [w1, w2, w3, hwi, Int.toNat_natCast, Option.bind_some]
    refine Ev.pos (by omega) (Ev.pos (by omega) ?_)
    have e : ((ys.set i (⟨c, (rd_T77 ys (i : Int)).f1, (rd_T77 ys (i : Int)).f2⟩ : S77)).set i (⟨(rd_T77 (ys.set i (⟨c, (rd_T77 ys (i : Int)).f1, (rd_T77 ys (i : Int)).f2⟩ : S77)) (i : Int)).f0, c + 1, (rd_T77 (ys.set i (⟨c, (rd_T77 ys (i : Int)).f1, (rd_T77 ys (i : Int)).f2⟩ : S77)) (i : Int)).f2⟩ : S77)) = ys.set i ⟨c, c + 1, (rd_T77 ys (i : Int)).f2⟩ := by
      rw [rdSetF _ hil, List.set_set]
    rw [e, rdSetF _ hil, List.set_set]
    have e4 : (⟨c, c + 1, c + 1 + 1⟩ : S77) = markF i := by
      unfold markF
      rw [hc]
      congr 1 <;> omega
    rw [e4]
    exact e1
theorem mark_diagram (a : Int) (l : List S77) (hl : l.length ≤ 1048576) : ∃ zs, Ev (fun k => laws_markDiagram.f k a l 1) (1 + 3 * (l.length : Int), zs) ∧ zs.length = l.length ∧ ∀ q (h : q < zs.length), zs[q] = markF q := by
  obtain ⟨zs, h1, h2, h3⟩ := mark_forks_loop l.length hl l.length 0 1 l (by omega) rfl (by omega) (fun q h hq => absurd hq (by omega))
  refine ⟨zs, ?_, h2, h3⟩
  unfold laws_markDiagram.f
  refine Ev.bind (a := (1 + 3 * (l.length : Int), zs)) ?_ (Ev.val _)
  unfold laws_markForkS.f
  exact h1
theorem held_forks_loop (zs : List S77) (hn : zs.length ≤ 1048576) (hz : ∀ q (h : q < zs.length), zs[q] = markF q) : ∀ (d i : Nat) (c : Int), i + d = zs.length → c = 1 + 3 * (i : Int) → Ev (fun k => laws_heldForkS.l0 k zs c (i : Int)) (1 + 3 * (zs.length : Int)) := by
  intro d
  induction d with
  | zero =>
    intro i c hi hc
    subst hc
    exact Ev.step (Ev.neg (by omega) (Ev.valEq (by omega))) (fun k => laws_heldForkS.l0.eq_2 ..)
  | succ d ih =>
    intro i c hi hc
    have hwi := wnat i (by omega)
    have w1 : wrap64 (c + 1) = c + 1 := w_id (by omega) (by omega)
    have w2 : wrap64 (c + 1 + 1) = c + 1 + 1 := w_id (by omega) (by omega)
    have w3 : wrap64 (c + 1 + 1 + 1) = c + 1 + 1 + 1 := w_id (by omega) (by omega)
    have hil : i < zs.length := by omega
    refine Ev.step ?_ (fun k => laws_heldForkS.l0.eq_2 ..)
    simp only [w1, w2, w3, hwi]
    rw [rdF hil, hz i hil]
    exact Ev.pos (by omega) (Ev.pos (by omega) (Ev.pos (by unfold markF; simp only; omega) (Ev.pos (by unfold markF; simp only; omega) (Ev.pos (by unfold markF; simp only; omega) (ih (i + 1) _ (by omega) (by omega))))))
theorem held_diagram (a : Int) (zs : List S77) (hn : zs.length ≤ 1048576) (hz : ∀ q (h : q < zs.length), zs[q] = markF q) : Ev (fun k => laws_heldDiagram.f k a zs 1) (1 + 3 * (zs.length : Int)) := by
  unfold laws_heldDiagram.f
  refine Ev.bind (a := 1 + 3 * (zs.length : Int)) ?_ (Ev.neg (by omega) (Ev.val _))
  unfold laws_heldForkS.f
  exact held_forks_loop zs hn hz zs.length 0 1 (by omega) (by omega)

theorem spec_fork (vars v lo hi : Int) (L : List S77) (r : Int × List S77 × Int) (hy : DV vars L ∧ FOk vars L ⟨v, lo, hi⟩ ((L.length : Int) + 1) → r = told vars (dadd L v lo hi)) (hn : ¬ (DV vars L ∧ FOk vars L ⟨v, lo, hi⟩ ((L.length : Int) + 1)) → r = (0, [], -1)) : Ev (fun k => spec_AddFork.f k vars L v lo hi) r := by
  unfold spec_AddFork.f
  have e0 : Ev (fun k => spec_AddFork.j0 k v lo hi true vars L) (0, [], -1) := Ev.step (Ev.pos rfl (Ev.val _)) (fun k => spec_AddFork.j0.eq_2 ..)
  obtain ⟨b, hb, h1⟩ := spec_dv vars L
  cases b with
  | false =>
    rw [hn (fun h => by have := h1.2 h.1; cases this)]
    exact Ev.bind hb (Ev.neg (by decide) e0)
  | true =>
    have hd := h1.1 rfl
    have hl := hd.len
    have := hd.v12
    have := hd.v0
    obtain ⟨b2, hb2, h2⟩ := l8Fork_dec vars L ⟨v, lo, hi⟩ ((L.length : Int) + 1) (by omega) (by omega) (by omega)
    refine Ev.bind hb (Ev.pos rfl ?_)
    rw [w_id (by omega) (by omega)]
    refine Ev.bind hb2 ?_
    cases b2 with
    | false =>
      rw [hn (fun h => by have := h2.2 h.2; cases this)]
      exact e0
    | true =>
      rw [hy ⟨hd, h2.1 rfl⟩]
      refine Ev.step (Ev.neg (by decide) (Ev.bind (spec_copy vars L hl) (Ev.bind (spec_add vars v lo hi L hl) (Ev.bind (a := told vars (dadd L v lo hi)) (Ev.const ?_) (Ev.val _))))) (fun k => spec_AddFork.j0.eq_2 ..)
      unfold spec_l8Told.f told
      by_cases c : (dadd L v lo hi).2 < 0
      · rw [if_pos c, if_pos c]
      · rw [if_neg c, if_neg c]
theorem impl_fork (vars v lo hi : Int) (L : List S77) (r : Int × List S77 × Int) (hy : DV vars L ∧ FOk vars L ⟨v, lo, hi⟩ ((L.length : Int) + 1) → r = told vars (dadd L v lo hi)) (hn : ¬ (DV vars L ∧ FOk vars L ⟨v, lo, hi⟩ ((L.length : Int) + 1)) → r = (0, [], -1)) : impl_AddFork.f vars L v lo hi = some r := by
  unfold impl_AddFork.f
  obtain ⟨b, hb, h1⟩ := impl_dv vars L
  rw [hb, Option.bind_some]
  cases b with
  | false => rw [if_pos rfl, hn (fun h => by have := h1.2 h.1; cases this)]
  | true =>
    rw [if_neg (by decide)]
    have hd := h1.1 rfl
    have hl := hd.len
    have h12 := hd.v12
    have h0 := hd.v0
    simp only [in_val, Option.bind_some, isPlace_val vars _ (show L.length ≤ 1000000000 by omega), w_id (show -9223372036854775808 ≤ vars - 1 by omega) (by omega)]
    by_cases c1 : 0 ≤ v ∧ v ≤ vars - 1
    · rw [if_neg (by simpa using c1)]
      by_cases c2 : Pl L lo
      · rw [if_neg (by simpa using c2)]
        by_cases c3 : Pl L hi
        · rw [if_neg (by simpa using c3), varAt_val vars c2 (by omega), Option.bind_some]
          by_cases c4 : dvar 12 L lo ≤ v
          · rw [if_pos c4, hn (fun h => absurd ((dvar_lt (v := v) L lo (by omega) h12).2 h.2.2.2.2.1) (by omega))]
          · rw [if_neg c4, varAt_val vars c3 (by omega), Option.bind_some]
            by_cases c5 : dvar 12 L hi ≤ v
            · rw [if_pos c5, hn (fun h => absurd ((dvar_lt (v := v) L hi (by omega) h12).2 h.2.2.2.2.2) (by omega))]
            · rw [if_neg c5, hy ⟨hd, c1, c2, c3, (dvar_lt (v := v) L lo (by omega) h12).1 (by omega), (dvar_lt (v := v) L hi (by omega) h12).1 (by omega)⟩, forkingOf_val hd, Option.bind_some]
              have hk : okF ⟨v, lo, hi⟩ := show KeyI v ∧ KeyI lo ∧ KeyI hi from ⟨keyI c1.1 (by omega), keyI c2.1 (by have := c2.2; omega), keyI c3.1 (by have := c3.2; omega)⟩
              obtain ⟨s', r, e1, e2, _, _, e4, e5⟩ := fork_val (fs0 vars L) v lo hi hk c2.1 c3.1 rfl
              rw [e1, Option.bind_some]
              have hdd := (dv_dadd hd c2 c3 c1.1 (by omega) ((dvar_lt (v := v) L lo (by omega) h12).1 (by omega)) ((dvar_lt (v := v) L hi (by omega) h12).1 (by omega))).1
              have e4' : s'.forks = (dadd L v lo hi).1 := e4
              have e2' : s'.vars = vars := e2
              have e5' : if (dadd L v lo hi).2 < 0 then s'.full = true ∧ r = 0 else s'.full = false ∧ r = (dadd L v lo hi).2 := e5
              show impl_forking_done.f s' r = _
              rw [done_val s' r (by rw [e4']; exact hdd.len)]
              unfold told
              by_cases c : (dadd L v lo hi).2 < 0
              · rw [if_pos c] at e5' ⊢
                rw [if_pos e5'.1]
              · rw [if_neg c] at e5' ⊢
                rw [if_neg (by rw [e5'.1]; decide), e2', e4', e5'.2]
        · rw [if_pos (by simpa using c3), hn (fun h => c3 h.2.2.2.1)]
      · rw [if_pos (by simpa using c2), hn (fun h => c2 h.2.2.1)]
    · rw [if_pos (by simpa using c1), hn (fun h => c1 h.2.1)]
theorem told_len {vars : Int} {p : List S77 × Int} (h : p.1.length ≤ 2000) : (told vars p).2.1.length ≤ 2000 := by
  unfold told
  split
  · exact Nat.zero_le _
  · exact h
theorem fork_len (vars v lo hi : Int) (L : List S77) (r : Int × List S77 × Int) (hy : DV vars L ∧ FOk vars L ⟨v, lo, hi⟩ ((L.length : Int) + 1) → r = told vars (dadd L v lo hi)) (hn : ¬ (DV vars L ∧ FOk vars L ⟨v, lo, hi⟩ ((L.length : Int) + 1)) → r = (0, [], -1)) : r.2.1.length ≤ 2000 := by
  by_cases c : DV vars L ∧ FOk vars L ⟨v, lo, hi⟩ ((L.length : Int) + 1)
  · rw [hy c]
    obtain ⟨h, a1, a2, a3, a4, a5⟩ := c
    exact told_len (dv_dadd h a2 a3 a1.1 (by have := a1.2; omega) a4 a5).1.len
  · rw [hn c]
    exact Nat.zero_le _
theorem FnExactAddFork : laws_FnExactAddFork.Pure := by
  intro a0 l0 a1 a2 a3 _ hl _ _ _
  apply Ev.get
  unfold laws_FnExactAddFork.f
  obtain ⟨z, hz1, hz2⟩ := sz_diagram a0 l0 hl.1
  refine Ev.bind (Ev.const hz1) ?_
  by_cases c : z < 0
  · exact Ev.pos c (Ev.val _)
  refine Ev.neg c ?_
  have hl0 : l0.length ≤ 1048576 := by omega
  obtain ⟨L, hL, hLl⟩ := to_diagram a0 l0 hl0
  obtain ⟨⟨r1, R, r3⟩, hy, hno⟩ : ∃ r : Int × List S77 × Int, (DV a0 L ∧ FOk a0 L ⟨a1, a2, a3⟩ ((L.length : Int) + 1) → r = told a0 (dadd L a1 a2 a3)) ∧ (¬ (DV a0 L ∧ FOk a0 L ⟨a1, a2, a3⟩ ((L.length : Int) + 1)) → r = (0, [], -1)) := by
    by_cases c : DV a0 L ∧ FOk a0 L ⟨a1, a2, a3⟩ ((L.length : Int) + 1)
    · exact ⟨told a0 (dadd L a1 a2 a3), fun _ => rfl, fun h => absurd c h⟩
    · exact ⟨(0, [], -1), fun h => absurd h c, fun _ => rfl⟩
  have hs := spec_fork a0 a1 a2 a3 L _ hy hno
  have hi := impl_fork a0 a1 a2 a3 L _ hy hno
  have hR := fork_len a0 a1 a2 a3 L _ hy hno
  have hR2 : R.length ≤ 2000 := hR
  obtain ⟨zs, hm, hml, _⟩ := mark_diagram a0 L (by omega)
  obtain ⟨ys, hn, hnl, hny⟩ := mark_diagram r1 R (by omega)
  have hh := held_diagram r1 ys (by omega) hny
  rw [hnl] at hh
  have j2 : Ev (fun k => laws_FnExactAddFork.j2 k (1 + 3 * (R.length : Int)) (r3 != r3) r1 ys) true := by
    refine Ev.step (Ev.neg (by simp) (Ev.bind hh (Ev.neg (by omega) (Ev.pos rfl (Ev.val _))))) (fun k => laws_FnExactAddFork.j2.eq_2 ..)
  have j1 : Ev (fun k => laws_FnExactAddFork.j1 k a1 a2 a3 r3 (r3 != r3) a0 l0 r1 R r1 R) true :=
    Ev.step (Ev.neg (by simp) (Ev.bind hn (Ev.bind hh (Ev.neg (by omega) (Ev.pos rfl (Ev.bind hL (Ev.bind (Ev.const hi) (Ev.bind (eq_diagram r1 R (by omega)) (Ev.pos rfl j2))))))))) (fun k => laws_FnExactAddFork.j1.eq_2 ..)
  have j0 : Ev (fun k => laws_FnExactAddFork.j0 k a1 a2 a3 r3 r3 (r3 != r3) a0 l0 r1 R a0 L r1 R) true :=
    Ev.step (Ev.neg (by simp) (Ev.bind hL (Ev.bind (eq_diagram a0 L (by omega)) (Ev.pos rfl (Ev.bind hm (Ev.neg (by simp only; omega) (Ev.bind (eq_diagram r1 R (by omega)) (Ev.pos rfl j1)))))))) (fun k => laws_FnExactAddFork.j0.eq_2 ..)
  exact Ev.bind hL (Ev.bind hs (Ev.bind hL (Ev.bind (Ev.const hi) (Ev.bind (eq_diagram r1 R (by omega)) (Ev.pos rfl j0)))))

end Go.Proofs.Ytcmpngglnpjgdaa.Pure
