/- FnExactReordered: the program's diagram in another order is the reference's, whatever is handed in, and keeps none of what was handed in. -/
import Derived.Test.YtpcckoljocpchaaQFnExactReorderedx12
namespace Go.Proofs.Ytpcckoljocpchaa.Pure
open Go.RowKit Go.Proofs.Ytpcckoljocpchaa.QFnExactReordered Go.Proofs.YtpcckoljocpchaaW.PrintWords Go.Proofs.YtpcckoljocpchaaW.PrintLast Go.Proofs.YtpcckoljocpchaaW.PrintMore
set_option linter.unusedVariables false
set_option linter.unusedSimpArgs false

/-! #### rounds -/
/-- From some number of rounds on, g tells r. -/
def Ev {α : Type} (g : Nat → Option α) (r : α) : Prop := ∃ K, ∀ k, K ≤ k → g k = some r
theorem Ev.val {α : Type} (r : α) : Ev (fun _ => some r) r := ⟨0, fun _ _ => rfl⟩
theorem Ev.valEq {α : Type} {r r' : α} (h : r = r') : Ev (fun _ => some r) r' := ⟨0, fun _ _ => by rw [h]⟩
theorem Ev.const {α : Type} {g : Option α} {r : α} (h : g = some r) : Ev (fun _ => g) r := ⟨0, fun _ _ => h⟩
theorem Ev.bind {α β : Type} {g : Nat → Option α} {f : Nat → α → Option β} {a : α} {b : β} (h : Ev g a) (h2 : Ev (fun k => f k a) b) : Ev (fun k => (g k).bind (f k)) b := by
  obtain ⟨K, hK⟩ := h
  obtain ⟨L, hL⟩ := h2
  exact ⟨max K L, fun k hk => by show (g k).bind (f k) = _; rw [hK k (by omega)]; exact hL k (by omega)⟩
theorem Ev.step {α : Type} {g g' : Nat → Option α} {r : α} (h : Ev g' r) (e : ∀ k, g (k + 1) = g' k) : Ev g r := by
  obtain ⟨K, hK⟩ := h
  exact ⟨K + 1, fun k hk => by
    obtain ⟨m, rfl⟩ : ∃ m, k = m + 1 := ⟨k - 1, by omega⟩
    rw [e]
    exact hK m (by omega)⟩
theorem Ev.pos {α : Type} {c : Prop} [Decidable c] {g g' : Nat → Option α} {r : α} (hc : c) (h : Ev g r) : Ev (fun k => if c then g k else g' k) r := by
  obtain ⟨K, hK⟩ := h
  exact ⟨K, fun k hk => by simp only [if_pos hc]; exact hK k hk⟩
theorem Ev.neg {α : Type} {c : Prop} [Decidable c] {g g' : Nat → Option α} {r : α} (hc : ¬ c) (h : Ev g' r) : Ev (fun k => if c then g k else g' k) r := by
  obtain ⟨K, hK⟩ := h
  exact ⟨K, fun k hk => by simp only [if_neg hc]; exact hK k hk⟩
theorem Ev.get {α : Type} {g : Nat → Option α} {r : α} (h : Ev g r) : ∃ k, g k = some r := by
  obtain ⟨K, hK⟩ := h
  exact ⟨K, hK K (Nat.le_refl _)⟩
theorem Ev.to {α : Type} {g : Nat → Option α} {r r' : α} (h : Ev g r) (e : r = r') : Ev g r' := e ▸ h
/-! #### numbers -/
theorem w_id {x : Int} (h0 : -9223372036854775808 ≤ x) (h1 : x ≤ 9223372036854775807) : wrap64 x = x := by
  unfold wrap64
  omega
/-! #### lists -/
theorem rd_nat (l : List Int) (i : Nat) : rd l (i : Int) = l.getD i 0 := by
  unfold rd
  rw [Int.toNat_natCast]
theorem getD_lt {α : Type} {l : List α} {i : Nat} (h : i < l.length) (d : α) : l.getD i d = l[i] := by
  rw [List.getD_eq_getElem?_getD, List.getElem?_eq_getElem h]
  rfl
theorem rd_lt {l : List Int} {i : Nat} (h : i < l.length) : rd l (i : Int) = l[i] := by rw [rd_nat, getD_lt h]
theorem rd_set_eq {l : List Int} {i : Nat} {v : Int} (h : i < l.length) : rd (l.set i v) (i : Int) = v := by
  rw [rd_lt (by simpa using h)]
  simp
theorem rd_set_ne {l : List Int} {i j : Nat} {v : Int} (h : i ≠ j) : rd (l.set i v) (j : Int) = rd l (j : Int) := by
  rw [rd_nat, rd_nat, List.getD_eq_getElem?_getD, List.getD_eq_getElem?_getD, List.getElem?_set_ne h]
theorem list_eq_rd {l m : List Int} (hl : l.length = m.length) (h : ∀ j : Nat, j < l.length → rd l (j : Int) = rd m (j : Int)) : l = m := by
  apply List.ext_getElem hl
  intro i h1 h2
  rw [← rd_lt h1, ← rd_lt h2]
  exact h i h1
theorem wsucc (i : Nat) (h : i ≤ 4611686018427387904) : wrap64 ((i : Int) + 1) = ((i + 1 : Nat) : Int) := by
  unfold wrap64
  omega
/-- g tells in the end whether p is so. -/
def Dec (g : Nat → Option Bool) (p : Prop) : Prop := ∃ b, Ev g b ∧ (b = true ↔ p)
/-! #### it tells something, of which P holds -/
def Tot {α : Type} (g : Nat → Option α) (P : α → Prop) : Prop := ∃ r, Ev g r ∧ P r
theorem Tot.val {α : Type} {P : α → Prop} {r : α} (h : P r) : Tot (fun _ => some r) P := ⟨r, Ev.val r, h⟩
theorem Tot.mono {α : Type} {g : Nat → Option α} {P Q : α → Prop} (h : Tot g P) (hq : ∀ r, P r → Q r) : Tot g Q := by
  obtain ⟨r, h1, h2⟩ := h
  exact ⟨r, h1, hq r h2⟩
theorem Tot.step {α : Type} {g g' : Nat → Option α} {P : α → Prop} (h : Tot g' P) (e : ∀ k, g (k + 1) = g' k) : Tot g P := by
  obtain ⟨r, h1, h2⟩ := h
  exact ⟨r, Ev.step h1 e, h2⟩
theorem Tot.bind {α β : Type} {g : Nat → Option α} {f : Nat → α → Option β} {Q : α → Prop} {P : β → Prop} (h : Tot g Q) (h2 : ∀ a, Q a → Tot (fun k => f k a) P) : Tot (fun k => (g k).bind (f k)) P := by
  obtain ⟨a, ha, hq⟩ := h
  obtain ⟨r, h1, h3⟩ := h2 a hq
  exact ⟨r, Ev.bind ha h1, h3⟩
theorem Tot.pos {α : Type} {c : Prop} [Decidable c] {g g' : Nat → Option α} {P : α → Prop} (hc : c) (h : Tot g P) : Tot (fun k => if c then g k else g' k) P := by
  obtain ⟨r, h1, h2⟩ := h
  exact ⟨r, Ev.pos hc h1, h2⟩
theorem Tot.neg {α : Type} {c : Prop} [Decidable c] {g g' : Nat → Option α} {P : α → Prop} (hc : ¬ c) (h : Tot g' P) : Tot (fun k => if c then g k else g' k) P := by
  obtain ⟨r, h1, h2⟩ := h
  exact ⟨r, Ev.neg hc h1, h2⟩
theorem Tot.ite {α : Type} {c : Prop} [Decidable c] {g g' : Nat → Option α} {P : α → Prop} (h1 : c → Tot g P) (h2 : ¬ c → Tot g' P) : Tot (fun k => if c then g k else g' k) P := by
  by_cases hc : c
  · exact Tot.pos hc (h1 hc)
  · exact Tot.neg hc (h2 hc)
/-! #### drawn clauses: something is drawn, and it isn't great -/
theorem has_tot (l : List Int) (hl : l.length ≤ 1048576) (x : Int) : ∀ (d i : Nat), i + d = l.length → Tot (fun k => spec_l2Has.l0 k l x (i : Int)) (fun b => b = true ↔ ∃ j : Nat, i ≤ j ∧ j < l.length ∧ rd l (j : Int) = x) := by
  intro d
  induction d with
  | zero =>
    intro i hi
    exact Tot.step (Tot.neg (by omega) (Tot.val ⟨(fun h => by cases h), (fun ⟨j, h1, h2, _⟩ => by omega)⟩)) (fun k => spec_l2Has.l0.eq_2 ..)
  | succ d ih =>
    intro i hi
    have hwi := wsucc i (by omega)
    refine Tot.step (Tot.pos (by omega) (Tot.pos (by omega) ?_)) (fun k => spec_l2Has.l0.eq_2 ..)
    rw [hwi]
    refine Tot.ite (fun h => Tot.val ⟨fun _ => ⟨i, Nat.le_refl _, by omega, h⟩, fun _ => rfl⟩) (fun h => (ih (i + 1) (by omega)).mono (fun b hb => hb.trans ?_))
    constructor
    · rintro ⟨j, h1, h2, h3⟩
      exact ⟨j, by omega, h2, h3⟩
    · rintro ⟨j, h1, h2, h3⟩
      rcases Nat.lt_or_eq_of_le h1 with h4 | rfl
      · exact ⟨j, h4, h2, h3⟩
      · exact absurd h3 h
theorem has_dec (l : List Int) (hl : l.length ≤ 1048576) (x : Int) : Dec (fun k => spec_l2Has.f k l x) (∃ j : Nat, j < l.length ∧ rd l (j : Int) = x) := by
  unfold spec_l2Has.f
  obtain ⟨b, h1, h2⟩ := has_tot l hl x l.length 0 (by omega)
  exact ⟨b, h1, h2.trans ⟨fun ⟨j, _, h3, h4⟩ => ⟨j, h3, h4⟩, fun ⟨j, h3, h4⟩ => ⟨j, Nat.zero_le _, h3, h4⟩⟩⟩
/-! #### diagrams, plainly: forks that are added once -/
/-- A tree of decisions over places. -/
inductive DT where
  | leaf (n : Int)
  | fork (v : Int) (lo hi : DT)
def dfind (L : List S56) (x : S56) : Option Nat := L.findIdx? (fun y => decide (y = x))
def dadd (L : List S56) (v lo hi : Int) : List S56 × Int :=
  if lo < 0 ∨ hi < 0 then (L, -1) else if lo = hi then (L, lo) else
  match dfind L ⟨v, lo, hi⟩ with
  | some i => (L, (i : Int) + 2)
  | none => if 2000 ≤ L.length then (L, -1) else (L ++ [⟨v, lo, hi⟩], (L.length : Int) + 2)
def ins (L : List S56) : DT → List S56 × Int
  | .leaf n => (L, n)
  | .fork v lo hi => if (ins L lo).2 < 0 then (L, -1) else dadd (ins (ins L lo).1 hi).1 v (ins L lo).2 (ins (ins L lo).1 hi).2
theorem dfind_some {L : List S56} {x : S56} {i : Nat} (h : dfind L x = some i) : L[i]? = some x := by
  unfold dfind at h
  rw [List.findIdx?_eq_some_iff_getElem] at h
  obtain ⟨hi, h1, _⟩ := h
  rw [List.getElem?_eq_getElem hi]
  exact congrArg some (of_decide_eq_true h1)
theorem dfind_none {L : List S56} {x : S56} (h : dfind L x = none) : x ∉ L := by
  unfold dfind at h
  rw [List.findIdx?_eq_none_iff] at h
  intro hx
  have := h x hx
  simp at this
theorem dfind_append {L : List S56} {x : S56} {i : Nat} (h : dfind L x = some i) (t : List S56) : dfind (L ++ t) x = some i := by
  unfold dfind at h ⊢
  rw [List.findIdx?_append, h]
  rfl
theorem dfind_new {L : List S56} {x : S56} (h : dfind L x = none) (t : List S56) : dfind (L ++ x :: t) x = some L.length := by
  unfold dfind at h ⊢
  rw [List.findIdx?_append, h, List.findIdx?_cons]
  simp
def NoDup (L : List S56) : Prop := ∀ (i : Nat) x, L[i]? = some x → x ∉ L.take i
theorem neg1 {a : List S56} (h : 0 ≤ (a, (-1 : Int)).2) : False := absurd (show (0 : Int) ≤ -1 from h) (by decide)
theorem dadd_ext (L : List S56) (v lo hi : Int) : L <+: (dadd L v lo hi).1 := by
  unfold dadd
  split
  · exact List.prefix_refl _
  split
  · exact List.prefix_refl _
  split
  · exact List.prefix_refl _
  split
  · exact List.prefix_refl _
  · exact List.prefix_append _ _
theorem ins_ext (L : List S56) (t : DT) : L <+: (ins L t).1 := by
  induction t generalizing L with
  | leaf n => exact List.prefix_refl _
  | fork v lo hi ihl ihh =>
    unfold ins
    split
    · exact List.prefix_refl _
    · exact (ihl L).trans ((ihh _).trans (dadd_ext _ _ _ _))
/-- The variable of a place; c at constants. -/
def dvar (c : Int) (L : List S56) (n : Int) : Int := if n < 2 then c else (L.getD (n - 2).toNat ⟨0, 0, 0⟩).f0
def Pl (L : List S56) (n : Int) : Prop := 0 ≤ n ∧ n ≤ (L.length : Int) + 1
structure DV (vars : Int) (L : List S56) : Prop where
  v0 : 0 ≤ vars
  v12 : vars ≤ 12
  len : L.length ≤ 2000
  nd : NoDup L
  ok : ∀ (i : Nat) x, L[i]? = some x → 0 ≤ x.f0 ∧ x.f0 < vars ∧ 0 ≤ x.f1 ∧ x.f1 ≤ (i : Int) + 1 ∧ 0 ≤ x.f2 ∧ x.f2 ≤ (i : Int) + 1 ∧ x.f1 ≠ x.f2 ∧ x.f0 < dvar vars L x.f1 ∧ x.f0 < dvar vars L x.f2
theorem Pl.ext {L L2 : List S56} {n : Int} (h : Pl L n) (he : L <+: L2) : Pl L2 n := ⟨h.1, by have := he.length_le; have := h.2; omega⟩
theorem getD_ext {L L2 : List S56} (he : L <+: L2) {i : Nat} (h : i < L.length) (z : S56) : L2.getD i z = L.getD i z := by
  obtain ⟨t, rfl⟩ := he
  rw [List.getD_eq_getElem?_getD, List.getD_eq_getElem?_getD, List.getElem?_append_left h]
theorem dvar_ext {c : Int} {L L2 : List S56} {n : Int} (h : Pl L n) (he : L <+: L2) : dvar c L2 n = dvar c L n := by
  unfold dvar
  by_cases h2 : n < 2
  · rw [if_pos h2, if_pos h2]
  · rw [if_neg h2, if_neg h2, getD_ext he (by have := h.2; omega)]
/-- The fork at a place that is none of the constants. -/
theorem DV.at_ {vars : Int} {L : List S56} (h : DV vars L) {n : Int} (hp : Pl L n) (h2 : ¬ n < 2) : ∃ x, L[(n - 2).toNat]? = some x ∧ L.getD (n - 2).toNat ⟨0, 0, 0⟩ = x ∧ dvar vars L n = x.f0 ∧ 0 ≤ x.f0 ∧ x.f0 < vars ∧ Pl L x.f1 ∧ Pl L x.f2 ∧ x.f1 < n ∧ x.f2 < n ∧ x.f1 ≠ x.f2 ∧ x.f0 < dvar vars L x.f1 ∧ x.f0 < dvar vars L x.f2 := by
  have hl : (n - 2).toNat < L.length := by have := hp.2; omega
  have hx : L[(n - 2).toNat]? = some L[(n - 2).toNat] := List.getElem?_eq_getElem hl
  obtain ⟨a1, a2, a3, a4, a5, a6, a7, a8, a9⟩ := h.ok _ _ hx
  have hd : L.getD (n - 2).toNat ⟨0, 0, 0⟩ = L[(n - 2).toNat] := by rw [List.getD_eq_getElem?_getD, hx]; rfl
  refine ⟨_, hx, hd, ?_, a1, a2, ⟨a3, ?_⟩, ⟨a5, ?_⟩, ?_, ?_, a7, a8, a9⟩
  · unfold dvar
    rw [if_neg h2, hd]
  all_goals (have := hp.2; omega)
theorem DV.dvar_le {vars : Int} {L : List S56} (h : DV vars L) {n : Int} (hp : Pl L n) : 0 ≤ dvar vars L n ∧ dvar vars L n ≤ vars := by
  by_cases h2 : n < 2
  · unfold dvar
    rw [if_pos h2]
    exact ⟨h.v0, Int.le_refl _⟩
  · obtain ⟨x, _, _, e, a, b, _⟩ := h.at_ hp h2
    omega
theorem dv_dadd {vars : Int} {L : List S56} (h : DV vars L) {v lo hi : Int} (hl : Pl L lo) (hh : Pl L hi) (v0 : 0 ≤ v) (v1 : v < vars) (hvl : v < dvar vars L lo) (hvh : v < dvar vars L hi) :
    DV vars (dadd L v lo hi).1 ∧ (0 ≤ (dadd L v lo hi).2 → Pl (dadd L v lo hi).1 (dadd L v lo hi).2 ∧ v ≤ dvar vars (dadd L v lo hi).1 (dadd L v lo hi).2) := by
  unfold dadd
  by_cases c1 : lo < 0 ∨ hi < 0
  · rw [if_pos c1]
    exact ⟨h, fun hn => (neg1 hn).elim⟩
  rw [if_neg c1]
  by_cases c2 : lo = hi
  · rw [if_pos c2]
    exact ⟨h, fun _ => ⟨hl, Int.le_of_lt hvl⟩⟩
  rw [if_neg c2]
  cases hf : dfind L ⟨v, lo, hi⟩ with
  | some i =>
    have hx := dfind_some hf
    obtain ⟨hi, _⟩ := List.getElem?_eq_some_iff.1 hx
    have hp : Pl L ((i : Int) + 2) := ⟨by omega, by omega⟩
    refine ⟨h, fun _ => ⟨hp, ?_⟩⟩
    show v ≤ dvar vars L ((i : Int) + 2)
    unfold dvar
    rw [if_neg (by omega), show ((i : Int) + 2 - 2).toNat = i by omega, List.getD_eq_getElem?_getD, hx]
    exact Int.le_refl _
  | none =>
    simp only
    by_cases c3 : 2000 ≤ L.length
    · rw [if_pos c3]
      exact ⟨h, fun hn => (neg1 hn).elim⟩
    rw [if_neg c3]
    have he : L <+: L ++ [⟨v, lo, hi⟩] := List.prefix_append _ _
    refine ⟨⟨h.v0, h.v12, by simp; omega, ?_, ?_⟩, fun _ => ⟨⟨by simp; omega, by simp; omega⟩, ?_⟩⟩
    · intro i x hx hm
      by_cases hil : i < L.length
      · rw [List.getElem?_append_left hil] at hx
        rw [List.take_append_of_le_length (by omega)] at hm
        exact h.nd i x hx hm
      · have hil : i = L.length := by
          have := (List.getElem?_eq_some_iff.1 hx).1
          simp at this
          omega
        subst hil
        have ex : x = ⟨v, lo, hi⟩ := by simpa using hx.symm
        subst ex
        rw [List.take_append_of_le_length (Nat.le_refl _), List.take_length] at hm
        exact dfind_none hf hm
    · intro i x hx
      by_cases hil : i < L.length
      · rw [List.getElem?_append_left hil] at hx
        obtain ⟨a1, a2, a3, a4, a5, a6, a7, a8, a9⟩ := h.ok _ _ hx
        have p1 : Pl L x.f1 := ⟨a3, by omega⟩
        have p2 : Pl L x.f2 := ⟨a5, by omega⟩
        rw [dvar_ext p1 he, dvar_ext p2 he]
        exact ⟨a1, a2, a3, a4, a5, a6, a7, a8, a9⟩
      · have hil : i = L.length := by
          have := (List.getElem?_eq_some_iff.1 hx).1
          simp at this
          omega
        subst hil
        have ex : x = ⟨v, lo, hi⟩ := by simpa using hx.symm
        subst ex
        refine ⟨v0, v1, hl.1, hl.2, hh.1, hh.2, c2, ?_, ?_⟩
        · rw [dvar_ext hl he]
          exact hvl
        · rw [dvar_ext hh he]
          exact hvh
    · show v ≤ dvar vars _ ((L.length : Int) + 2)
      unfold dvar
      rw [if_neg (by omega), show ((L.length : Int) + 2 - 2).toNat = L.length by omega, List.getD_eq_getElem?_getD]
      simp
/-- A tree whose leaves are places, its variables from m on, ascending. -/
def TOk (vars : Int) (L : List S56) : Int → DT → Prop
  | m, .leaf n => Pl L n ∧ m ≤ dvar vars L n
  | m, .fork v lo hi => m ≤ v ∧ 0 ≤ v ∧ v < vars ∧ TOk vars L (v + 1) lo ∧ TOk vars L (v + 1) hi
theorem TOk.ext {vars : Int} {L L2 : List S56} (he : L <+: L2) {t : DT} : ∀ {m : Int}, TOk vars L m t → TOk vars L2 m t := by
  induction t with
  | leaf n =>
    intro m h
    exact ⟨h.1.ext he, by rw [dvar_ext h.1 he]; exact h.2⟩
  | fork v lo hi ihl ihh =>
    intro m h
    exact ⟨h.1, h.2.1, h.2.2.1, ihl h.2.2.2.1, ihh h.2.2.2.2⟩
theorem dv_ins {vars : Int} {t : DT} : ∀ {L : List S56} {m : Int}, DV vars L → TOk vars L m t → DV vars (ins L t).1 ∧ (0 ≤ (ins L t).2 → Pl (ins L t).1 (ins L t).2 ∧ m ≤ dvar vars (ins L t).1 (ins L t).2) := by
  induction t with
  | leaf n =>
    intro L m h ht
    exact ⟨h, fun _ => ht⟩
  | fork v lo hi ihl ihh =>
    intro L m h ht
    obtain ⟨t1, t2, t3, t4, t5⟩ := ht
    unfold ins
    by_cases c : (ins L lo).2 < 0
    · rw [if_pos c]
      exact ⟨h, fun hn => (neg1 hn).elim⟩
    rw [if_neg c]
    obtain ⟨d1, p1⟩ := ihl h t4
    obtain ⟨p1, q1⟩ := p1 (by omega)
    obtain ⟨d2, p2⟩ := ihh d1 (t5.ext (ins_ext _ _))
    by_cases c2 : (ins (ins L lo).1 hi).2 < 0
    · have : dadd (ins (ins L lo).1 hi).1 v (ins L lo).2 (ins (ins L lo).1 hi).2 = ((ins (ins L lo).1 hi).1, -1) := by
        unfold dadd
        rw [if_pos (.inr c2)]
      rw [this]
      exact ⟨d2, fun hn => (neg1 hn).elim⟩
    obtain ⟨p2, q2⟩ := p2 (by omega)
    have he := ins_ext (ins L lo).1 hi
    obtain ⟨r1, r2⟩ := dv_dadd d2 (p1.ext he) p2 t2 t3 (by rw [dvar_ext p1 he]; omega) (by omega)
    exact ⟨r1, fun hn => ⟨(r2 hn).1, Int.le_trans t1 (r2 hn).2⟩⟩
/-! #### the reference's diagrams -/
theorem l1In_val (a b c : Int) : spec_l1In.f a b c = some (decide (b ≤ a ∧ a ≤ c)) := by
  unfold spec_l1In.f
  by_cases h : a ≥ b
  · rw [if_pos h]
    congr 1
    rw [decide_eq_decide]
    constructor
    · intro h2; exact ⟨h, h2⟩
    · intro h2; exact h2.2
  · rw [if_neg h]
    congr 1
    symm
    rw [decide_eq_false_iff_not]
    intro h2
    exact h h2.1
theorem rdF {L : List S56} {i : Nat} (h : i < L.length) : rd_T56 L (i : Int) = L[i] := by
  unfold rd_T56
  rw [Int.toNat_natCast, List.getD_eq_getElem?_getD, List.getElem?_eq_getElem h]
  rfl
theorem rdP {L : List S56} (n : Int) : rd_T56 L (n - 2) = L.getD (n - 2).toNat ⟨0, 0, 0⟩ := rfl
theorem l8Var_val (c : Int) {L : List S56} {n : Int} (hp : Pl L n) (hl : L.length ≤ 1000000000) : spec_l8Var.f c L n = some (dvar c L n) := by
  unfold spec_l8Var.f dvar
  have h1 := hp.1
  have h2 := hp.2
  by_cases h : n < 2
  · rw [if_pos h, if_pos h]
  · rw [if_neg h, if_neg h, w_id (by omega) (by omega), if_pos (by omega), if_pos (by omega), rdP]
/-- What the reference asks of a fork, the places of which are ahead of it. -/
def FOk (vars : Int) (L : List S56) (x : S56) (most : Int) : Prop := (0 ≤ x.f0 ∧ x.f0 ≤ vars - 1) ∧ (0 ≤ x.f1 ∧ x.f1 ≤ most) ∧ (0 ≤ x.f2 ∧ x.f2 ≤ most) ∧ x.f0 < dvar vars L x.f1 ∧ x.f0 < dvar vars L x.f2
theorem l8Fork_dec (vars : Int) (L : List S56) (x : S56) (most : Int) (hv : -9223372036854775807 ≤ vars ∧ vars ≤ 9223372036854775807) (hm : most ≤ (L.length : Int) + 1) (hl : L.length ≤ 1000000000) :
    ∃ b, Ev (fun k => spec_l8Fork.f k vars L x.f0 x.f1 x.f2 most) b ∧ (b = true ↔ FOk vars L x most) := by
  have hj : ∃ b, Ev (fun k => spec_l8Fork.j0 k true vars L x.f0 x.f1 x.f2) b ∧ b = false := ⟨false, Ev.step (Ev.pos rfl (Ev.val _)) (fun k => spec_l8Fork.j0.eq_2 ..), rfl⟩
  obtain ⟨b0, e0, rfl⟩ := hj
  unfold spec_l8Fork.f
  simp only [l1In_val, Option.bind_some, w_id (show -9223372036854775808 ≤ vars - 1 by omega) (by omega)]
  by_cases c1 : 0 ≤ x.f0 ∧ x.f0 ≤ vars - 1
  · rw [decide_eq_true c1]
    by_cases c2 : 0 ≤ x.f1 ∧ x.f1 ≤ most
    · rw [decide_eq_true c2]
      by_cases c3 : 0 ≤ x.f2 ∧ x.f2 ≤ most
      · rw [decide_eq_true c3]
        have p1 : Pl L x.f1 := ⟨c2.1, by omega⟩
        have p2 : Pl L x.f2 := ⟨c3.1, by omega⟩
        by_cases c4 : x.f0 < dvar vars L x.f1
        · refine ⟨decide (x.f0 < dvar vars L x.f2), Ev.pos rfl (Ev.pos rfl (Ev.step (Ev.neg (by decide) (Ev.bind (Ev.const (l8Var_val vars p1 hl)) (Ev.pos c4 (Ev.bind (Ev.const (l8Var_val vars p2 hl)) (Ev.val (decide (x.f0 < dvar vars L x.f2))))))) (fun k => spec_l8Fork.j0.eq_2 ..))), ?_⟩
          rw [decide_eq_true_eq]
          exact ⟨fun h => ⟨c1, c2, c3, c4, h⟩, fun h => h.2.2.2.2⟩
        · refine ⟨false, Ev.pos rfl (Ev.pos rfl (Ev.step (Ev.neg (by decide) (Ev.bind (Ev.const (l8Var_val vars p1 hl)) (Ev.neg c4 (Ev.val _)))) (fun k => spec_l8Fork.j0.eq_2 ..))), ?_⟩
          exact ⟨fun h => (by cases h), fun h => absurd h.2.2.2.1 c4⟩
      · rw [decide_eq_false c3]
        exact ⟨false, Ev.pos rfl (Ev.pos rfl e0), fun h => (by cases h), fun h => absurd h.2.2.1 c3⟩
    · rw [decide_eq_false c2]
      exact ⟨false, Ev.pos rfl (Ev.neg (by decide) e0), fun h => (by cases h), fun h => absurd h.2.1 c2⟩
  · rw [decide_eq_false c1]
    exact ⟨false, Ev.neg (by decide) e0, fun h => (by cases h), fun h => absurd h.1 c1⟩
/-- What is asked of the fork at i. -/
def OkAt (vars : Int) (L : List S56) (i : Nat) (h : i < L.length) : Prop := FOk vars L L[i] ((i : Int) + 1) ∧ L[i].f1 ≠ L[i].f2 ∧ L[i] ∉ L.take i
theorem dv_iff (vars : Int) (L : List S56) : DV vars L ↔ (0 ≤ vars ∧ vars ≤ 12) ∧ L.length ≤ 2000 ∧ ∀ i (h : i < L.length), OkAt vars L i h := by
  constructor
  · intro h
    refine ⟨⟨h.v0, h.v12⟩, h.len, fun i hi => ?_⟩
    obtain ⟨a1, a2, a3, a4, a5, a6, a7, a8, a9⟩ := h.ok i _ (List.getElem?_eq_getElem hi)
    exact ⟨⟨⟨a1, by omega⟩, ⟨a3, a4⟩, ⟨a5, a6⟩, a8, a9⟩, a7, h.nd i _ (List.getElem?_eq_getElem hi)⟩
  · rintro ⟨⟨h1, h2⟩, h3, h4⟩
    refine ⟨h1, h2, h3, fun i x hx => ?_, fun i x hx => ?_⟩
    · obtain ⟨hi, rfl⟩ := List.getElem?_eq_some_iff.1 hx
      exact (h4 i hi).2.2
    · obtain ⟨hi, rfl⟩ := List.getElem?_eq_some_iff.1 hx
      obtain ⟨⟨a1, a2, a3, a4, a5⟩, b, _⟩ := h4 i hi
      exact ⟨a1.1, by omega, a2.1, a2.2, a3.1, a3.2, b, a4, a5⟩
theorem eqF (a : S56) (p q r : Int) : ((a.f0 == p && (a.f1 == q && (a.f2 == r))) = true) ↔ a = ⟨p, q, r⟩ := by
  obtain ⟨x, y, z⟩ := a
  simp
theorem mem_take {L : List S56} {i : Nat} {x : S56} : x ∈ L.take i ↔ ∃ (j : Nat) (_ : j < i) (hl : j < L.length), L[j] = x := by
  rw [List.mem_iff_getElem?]
  constructor
  · rintro ⟨j, hj⟩
    rw [List.getElem?_take] at hj
    split at hj
    · next hji =>
      obtain ⟨hl, e⟩ := List.getElem?_eq_some_iff.1 hj
      exact ⟨j, hji, hl, e⟩
    · cases hj
  · rintro ⟨j, hji, hl, e⟩
    exact ⟨j, by rw [List.getElem?_take, if_pos hji, List.getElem?_eq_getElem hl, e]⟩
theorem sv_l1 (vars : Int) (L : List S56) (hl : L.length ≤ 2000) (i : Nat) (hi : i < L.length) (rest : Bool) (hrest : Ev (fun k => spec_DiagramValid.l0 k (wrap64 ((i : Int) + 1)) vars L) rest) : ∀ (d j : Nat), j + d = i → (∀ q (hq : q < L.length), q < j → L[q] ≠ L[i]) →
    Ev (fun k => spec_DiagramValid.l1 k (i : Int) (j : Int) vars L L[i].f0 L[i].f1 L[i].f2) (if L[i] ∈ L.take i then false else rest) := by
  intro d
  induction d with
  | zero =>
    intro j hj hn
    have : ¬ L[i] ∈ L.take i := fun h => by
      obtain ⟨q, h1, h2, h3⟩ := mem_take.1 h
      exact hn q h2 (by omega) h3
    rw [if_neg this]
    exact Ev.step (Ev.neg (by omega) hrest) (fun k => spec_DiagramValid.l1.eq_2 ..)
  | succ d ih =>
    intro j hj hn
    have hjl : j < L.length := by omega
    refine Ev.step ?_ (fun k => spec_DiagramValid.l1.eq_2 ..)
    refine Ev.pos (by omega) (Ev.pos (by omega) (Ev.pos (by omega) ?_))
    rw [rdF hjl]
    by_cases e : L[j] = L[i]
    · rw [if_pos (mem_take.2 ⟨j, by omega, hjl, e⟩)]
      exact Ev.pos ((eqF _ _ _ _).2 e) (Ev.val _)
    · refine Ev.neg (fun h => e ((eqF _ _ _ _).1 h)) ?_
      rw [w_id (by omega) (by omega), show (j : Int) + 1 = ((j + 1 : Nat) : Int) by omega]
      exact ih (j + 1) (by omega) (fun q hq hqj => by
        by_cases c : q = j
        · subst c
          exact e
        · exact hn q hq (by omega))
theorem sv_l0 (vars : Int) (L : List S56) (hv : 0 ≤ vars ∧ vars ≤ 12) (hl : L.length ≤ 2000) : ∀ (d i : Nat), i + d = L.length →
    ∃ b, Ev (fun k => spec_DiagramValid.l0 k (i : Int) vars L) b ∧ (b = true ↔ ∀ q (h : q < L.length), i ≤ q → OkAt vars L q h) := by
  intro d
  induction d with
  | zero =>
    intro i hi
    exact ⟨true, Ev.step (Ev.neg (by omega) (Ev.val _)) (fun k => spec_DiagramValid.l0.eq_2 ..), fun _ q h hq => absurd h (by omega), fun _ => rfl⟩
  | succ d ih =>
    intro i hi
    have hil : i < L.length := by omega
    obtain ⟨rest, er, hr⟩ := ih (i + 1) (by omega)
    have hw : wrap64 ((i : Int) + 1) = ((i + 1 : Nat) : Int) := by rw [w_id (by omega) (by omega)]; omega
    obtain ⟨b1, e1, h1⟩ := l8Fork_dec vars L L[i] ((i : Int) + 1) (by omega) (by omega) (by omega)
    have split_ : (∀ q (h : q < L.length), i ≤ q → OkAt vars L q h) ↔ OkAt vars L i hil ∧ ∀ q (h : q < L.length), i + 1 ≤ q → OkAt vars L q h := by
      constructor
      · intro h
        exact ⟨h i hil (Nat.le_refl _), fun q hq hq2 => h q hq (by omega)⟩
      · rintro ⟨ha, hb⟩ q hq hq2
        by_cases c : i = q
        · subst c
          exact ha
        · exact hb q hq (by omega)
    have e1' : Ev (fun k => spec_l8Fork.f k vars L (rd_T56 L (i : Int)).f0 (rd_T56 L (i : Int)).f1 (rd_T56 L (i : Int)).f2 (wrap64 ((i : Int) + 1))) b1 := by
      rw [rdF hil, w_id (by omega) (by omega)]
      exact e1
    have jt : ∀ b, Ev (fun k => spec_DiagramValid.j2 k (i : Int) b vars L (rd_T56 L (i : Int)).f0 (rd_T56 L (i : Int)).f1 (rd_T56 L (i : Int)).f2) (if b = true then false else if L[i] ∈ L.take i then false else rest) := by
      intro b
      refine Ev.step ?_ (fun k => spec_DiagramValid.j2.eq_2 ..)
      cases b with
      | true => exact Ev.pos rfl (Ev.val _)
      | false =>
        refine Ev.neg (by decide) ?_
        rw [rdF hil]
        exact sv_l1 vars L hl i hil rest (by rw [hw]; exact er) i 0 (by omega) (fun q _ hq => absurd hq (by omega))
    cases b1 with
    | false =>
      refine ⟨false, Ev.step (Ev.pos (by omega) (Ev.pos (by omega) (Ev.bind e1' (Ev.neg (by decide) (jt true))))) (fun k => spec_DiagramValid.l0.eq_2 ..), fun h => (by cases h), fun h => ?_⟩
      exact absurd (h1.2 (h i hil (Nat.le_refl _)).1) (by decide)
    | true =>
      refine ⟨_, Ev.step (Ev.pos (by omega) (Ev.pos (by omega) (Ev.bind e1' (Ev.pos rfl (jt _))))) (fun k => spec_DiagramValid.l0.eq_2 ..), ?_⟩
      rw [rdF hil, split_]
      by_cases c1 : L[i].f1 = L[i].f2
      · rw [if_pos (beq_iff_eq.mpr c1)]
        exact ⟨fun h => (by cases h), fun h => absurd c1 h.1.2.1⟩
      · rw [if_neg (by simpa using c1)]
        by_cases c2 : L[i] ∈ L.take i
        · rw [if_pos c2]
          exact ⟨fun h => (by cases h), fun h => absurd c2 h.1.2.2⟩
        · rw [if_neg c2, hr]
          exact ⟨fun h => ⟨⟨h1.1 rfl, c1, c2⟩, h⟩, fun h => h.2⟩
theorem spec_dv (vars : Int) (L : List S56) : ∃ b, Ev (fun k => spec_DiagramValid.f k vars L) b ∧ (b = true ↔ DV vars L) := by
  unfold spec_DiagramValid.f
  simp only [l1In_val, Option.bind_some]
  have e0 : Ev (fun k => spec_DiagramValid.j0 k true vars L) false := Ev.step (Ev.pos rfl (Ev.val _)) (fun k => spec_DiagramValid.j0.eq_2 ..)
  by_cases c1 : 0 ≤ vars ∧ vars ≤ 12
  · rw [decide_eq_true c1]
    by_cases c2 : (L.length : Int) > 2000
    · rw [decide_eq_true c2]
      exact ⟨false, Ev.pos rfl e0, fun h => (by cases h), fun h => by have := h.len; omega⟩
    · rw [decide_eq_false c2]
      obtain ⟨b, hb, h2⟩ := sv_l0 vars L c1 (by omega) L.length 0 (by omega)
      refine ⟨b, Ev.pos rfl (Ev.step (Ev.neg (by decide) hb) (fun k => spec_DiagramValid.j0.eq_2 ..)), ?_⟩
      rw [h2, dv_iff]
      exact ⟨fun h => ⟨c1, by omega, fun i hi => h i hi (Nat.zero_le _)⟩, fun h q hq _ => h.2.2 q hq⟩
  · rw [decide_eq_false c1]
    exact ⟨false, Ev.neg (by decide) e0, fun h => (by cases h), fun h => absurd ⟨h.v0, h.v12⟩ c1⟩
theorem dfind_no {L : List S56} {x : S56} (hn : ∀ q (hq : q < L.length), L[q] ≠ x) : dfind L x = none := by
  unfold dfind
  rw [List.findIdx?_eq_none_iff]
  intro y hy
  obtain ⟨q, hq, rfl⟩ := List.mem_iff_getElem.1 hy
  simpa using hn q hq
/-! #### the program's diagrams -/
theorem in_val (a b c : Int) : impl_in.f a b c = some (decide (b ≤ a ∧ a ≤ c)) := by
  unfold impl_in.f
  by_cases h : a ≥ b
  · rw [if_pos h]
    congr 1
    rw [decide_eq_decide]
    constructor
    · intro h2; exact ⟨h, h2⟩
    · intro h2; exact h2.2
  · rw [if_neg h]
    congr 1
    symm
    rw [decide_eq_false_iff_not]
    intro h2
    exact h h2.1
theorem varAt_val (a : Int) {L : List S56} {n : Int} (hp : Pl L n) (hl : L.length ≤ 1000000000) : impl_Diagram_varAt.f a L n = some (dvar 12 L n) := by
  unfold impl_Diagram_varAt.f dvar
  have h1 := hp.1
  have h2 := hp.2
  by_cases h : n < 2
  · rw [if_pos h, if_pos h]
  · rw [if_neg h, if_neg h, w_id (by omega) (by omega), if_pos (by omega), if_pos (by omega), rdP]
def decPl (L : List S56) (n : Int) : Decidable (Pl L n) := inferInstanceAs (Decidable (_ ∧ _))
theorem isPlace_val (a : Int) {L : List S56} (n : Int) (hl : L.length ≤ 1000000000) : impl_Diagram_isPlace.f a L n = some (@decide (Pl L n) (decPl L n)) := by
  unfold impl_Diagram_isPlace.f
  rw [in_val, w_id (by omega) (by omega)]
  rfl
/-- Where variables are few, it is the same to what the constants are held. -/
theorem dvar_lt {vars v : Int} (L : List S56) (n : Int) (h : v < vars) (h12 : vars ≤ 12) : v < dvar 12 L n ↔ v < dvar vars L n := by
  unfold dvar
  split
  · omega
  · exact Iff.rfl
theorem keyI {n : Int} (h : 0 ≤ n) (h2 : n ≤ 1000000000) : KeyI n := ⟨h, by omega⟩
theorem iv_bad (vars : Int) (L : List S56) (hv : 0 ≤ vars ∧ vars ≤ 12) (hl : L.length ≤ 2000) (i : Nat) (hi : i < L.length) : ∃ b, impl_DiagramValid.bad vars L i L[i] = some b ∧ (b = false ↔ OkAt vars L i hi) := by
  unfold impl_DiagramValid.bad OkAt FOk
  simp only [in_val, Option.bind_some, w_id (show -9223372036854775808 ≤ vars - 1 by omega) (by omega), w_id (show -9223372036854775808 ≤ (i : Int) + 1 by omega) (by omega), decide_eq_false_iff_not]
  by_cases c1 : 0 ≤ L[i].f0 ∧ L[i].f0 ≤ vars - 1
  · rw [if_neg (by simpa using c1)]
    by_cases c2 : 0 ≤ L[i].f1 ∧ L[i].f1 ≤ (i : Int) + 1
    · rw [if_neg (by simpa using c2)]
      by_cases c3 : 0 ≤ L[i].f2 ∧ L[i].f2 ≤ (i : Int) + 1
      · rw [if_neg (by simpa using c3)]
        have p1 : Pl L L[i].f1 := ⟨c2.1, by omega⟩
        have p2 : Pl L L[i].f2 := ⟨c3.1, by omega⟩
        by_cases c4 : L[i].f1 = L[i].f2
        · rw [if_pos c4]
          exact ⟨true, rfl, fun h => (by cases h), fun h => absurd c4 h.2.1⟩
        · rw [if_neg c4, varAt_val _ p1 (by omega), Option.bind_some]
          by_cases c5 : dvar 12 L L[i].f1 ≤ L[i].f0
          · rw [if_pos c5]
            exact ⟨true, rfl, fun h => (by cases h), fun h => absurd ((dvar_lt L _ (by omega) hv.2).2 h.1.2.2.2.1) (by omega)⟩
          · rw [if_neg c5, varAt_val _ p2 (by omega), Option.bind_some]
            by_cases c6 : dvar 12 L L[i].f2 ≤ L[i].f0
            · rw [if_pos c6]
              exact ⟨true, rfl, fun h => (by cases h), fun h => absurd ((dvar_lt L _ (by omega) hv.2).2 h.1.2.2.2.2) (by omega)⟩
            · rw [if_neg c6, if_pos ⟨keyI c1.1 (by omega), keyI c2.1 (by omega), keyI c3.1 (by omega)⟩]
              refine ⟨_, rfl, ?_⟩
              rw [decide_eq_false_iff_not]
              exact ⟨fun h => ⟨⟨c1, c2, c3, (dvar_lt L _ (by omega) hv.2).1 (by omega), (dvar_lt L _ (by omega) hv.2).1 (by omega)⟩, c4, h⟩, fun h => h.2.2⟩
      · rw [if_pos (by simpa using c3)]
        exact ⟨true, rfl, fun h => (by cases h), fun h => absurd h.1.2.2.1 c3⟩
    · rw [if_pos (by simpa using c2)]
      exact ⟨true, rfl, fun h => (by cases h), fun h => absurd h.1.2.1 c2⟩
  · rw [if_pos (by simpa using c1)]
    exact ⟨true, rfl, fun h => (by cases h), fun h => absurd h.1.1 c1⟩
theorem iv_l0 (vars : Int) (L : List S56) (hv : 0 ≤ vars ∧ vars ≤ 12) (hl : L.length ≤ 2000) : ∀ (d i : Nat), i + d = L.length → ∃ b, impl_DiagramValid.l0 vars L d i = some b ∧ (b = true ↔ ∀ q (h : q < L.length), i ≤ q → OkAt vars L q h) := by
  intro d
  induction d with
  | zero =>
    intro i hi
    exact ⟨true, rfl, fun _ q h hq => absurd h (by omega), fun _ => rfl⟩
  | succ d ih =>
    intro i hi
    have hil : i < L.length := by omega
    obtain ⟨rest, er, hr⟩ := ih (i + 1) (by omega)
    obtain ⟨b, eb, hb⟩ := iv_bad vars L hv hl i hil
    unfold impl_DiagramValid.l0
    rw [rdF hil, eb, Option.bind_some]
    cases b with
    | true =>
      refine ⟨false, rfl, fun h => (by cases h), fun h => ?_⟩
      exact absurd (hb.2 (h i hil (Nat.le_refl _))) (by decide)
    | false =>
      refine ⟨rest, er, ?_⟩
      rw [hr]
      constructor
      · intro h q hq hq2
        by_cases c : i = q
        · subst c
          exact hb.1 rfl
        · exact h q hq (by omega)
      · intro h q hq hq2
        exact h q hq (by omega)
theorem impl_dv (vars : Int) (L : List S56) : ∃ b, impl_DiagramValid.f vars L = some b ∧ (b = true ↔ DV vars L) := by
  unfold impl_DiagramValid.f
  simp only [in_val, Option.bind_some]
  by_cases c1 : 0 ≤ vars ∧ vars ≤ 12
  · rw [if_neg (by simpa using c1)]
    by_cases c2 : (L.length : Int) > 2000
    · rw [if_pos c2]
      exact ⟨false, rfl, fun h => (by cases h), fun h => by have := h.len; omega⟩
    · rw [if_neg c2]
      obtain ⟨b, hb, h2⟩ := iv_l0 vars L c1 (by omega) L.length 0 (by omega)
      refine ⟨b, hb, ?_⟩
      rw [h2, dv_iff]
      exact ⟨fun h => ⟨c1, by omega, fun i hi => h i hi (Nat.zero_le _)⟩, fun h q hq _ => h.2.2 q hq⟩
  · rw [if_pos (by simpa using c1)]
    exact ⟨false, rfl, fun h => (by cases h), fun h => absurd ⟨h.v0, h.v12⟩ c1⟩
/-- Where each fork stands. -/
def seenP (L : List S56) (x : S56) : Option Int := (dfind L x).map (fun i => (i : Int) + 2)
theorem seen_take {L : List S56} (hn : NoDup L) : ∀ i, i ≤ L.length → impl_forkingOf.seen L i = seenP (L.take i) := by
  intro i
  induction i with
  | zero =>
    intro _
    funext x
    rfl
  | succ i ih =>
    intro hi
    have hil : i < L.length := by omega
    funext x
    show (if x = rd_T56 L (i : Int) then some ((i : Int) + 2) else impl_forkingOf.seen L i x) = _
    rw [rdF hil, ih (by omega)]
    have e : L.take (i + 1) = L.take i ++ [L[i]] := by
      rw [List.take_add_one, List.getElem?_eq_getElem hil]
      rfl
    have hlen : (L.take i).length = i := by rw [List.length_take]; omega
    have hno : dfind (L.take i) L[i] = none := by
      cases hd : dfind (L.take i) L[i] with
      | none => rfl
      | some j =>
        have := dfind_some hd
        exact absurd (List.mem_of_getElem? this) (hn i _ (List.getElem?_eq_getElem hil))
    unfold seenP
    rw [e]
    by_cases c : x = L[i]
    · rw [if_pos c, c, dfind_new hno []]
      simp [hlen]
    · rw [if_neg c]
      cases hd : dfind (L.take i) x with
      | some j => rw [dfind_append hd]
      | none =>
        have : dfind (L.take i ++ [L[i]]) x = none := dfind_no (fun q hq e2 => by
          by_cases hqi : q < (L.take i).length
          · rw [List.getElem_append_left hqi] at e2
            exact dfind_none hd (e2 ▸ List.getElem_mem hqi)
          · have hq' : q = (L.take i).length := by
              have := hq
              rw [List.length_append, List.length_singleton] at this
              omega
            subst hq'
            rw [List.getElem_append_right (Nat.le_refl _)] at e2
            simp at e2
            exact c e2.symm)
        rw [this]
theorem okF_of {vars : Int} {L : List S56} (h : DV vars L) {x : S56} (hx : x ∈ L) : okF x := by
  obtain ⟨i, hi⟩ := List.mem_iff_getElem?.1 hx
  obtain ⟨a1, a2, a3, a4, a5, a6, _⟩ := h.ok i x hi
  have := h.v12
  have := (List.getElem?_eq_some_iff.1 hi).1
  have := h.len
  exact ⟨keyI a1 (by omega), keyI a3 (by omega), keyI a5 (by omega)⟩
/-- A diagram that grows, as the program holds it: nothing is done with it yet that is not so. -/
def fs0 (vars : Int) (L : List S56) : FS := ⟨vars, L, seenP L, false, fun _ => none⟩
theorem clone_val (L : List S56) (h : L.length ≤ 1000000000) : impl_Fork_137.f L = some L := by
  unfold impl_Fork_137.f
  simp only [Option.bind_some, List.length_nil, List.nil_append]
  rw [if_pos (by omega)]
theorem clone2_val (L : List S56) (h : L.length ≤ 1000000000) : impl_Fork_138.f L = some L := by
  unfold impl_Fork_138.f
  rw [if_pos (by omega)]
theorem forkingOf_val {vars : Int} {L : List S56} (h : DV vars L) : impl_forkingOf.f vars L = some (fs0 vars L) := by
  unfold impl_forkingOf.f
  rw [clone_val L (by have := h.len; omega), Option.bind_some, if_pos (fun x hx => okF_of h hx), seen_take h.nd _ (Nat.le_refl _), List.take_length]
  rfl
theorem fork_val (s : FS) (v lo hi : Int) (hk : okF ⟨v, lo, hi⟩) (hlo : 0 ≤ lo) (hhi : 0 ≤ hi) (hs : s.seen = seenP s.forks) :
    ∃ s' r, impl_forking_fork.f s v lo hi = some (s', r) ∧ s'.vars = s.vars ∧ s'.memo = s.memo ∧ s'.seen = seenP s'.forks ∧ s'.forks = (dadd s.forks v lo hi).1 ∧ (if (dadd s.forks v lo hi).2 < 0 then s'.full = true ∧ r = 0 else s'.full = s.full ∧ r = (dadd s.forks v lo hi).2) := by
  unfold impl_forking_fork.f dadd
  rw [if_neg (show ¬ (lo < 0 ∨ hi < 0) by omega)]
  by_cases c1 : lo = hi
  · rw [if_pos c1, if_pos c1]
    exact ⟨s, lo, rfl, rfl, rfl, hs, rfl, by rw [if_neg (by omega)]; exact ⟨rfl, rfl⟩⟩
  rw [if_neg c1, if_neg c1, if_pos hk, hs]
  cases hd : dfind s.forks ⟨v, lo, hi⟩ with
  | some i =>
    have e : seenP s.forks ⟨v, lo, hi⟩ = some ((i : Int) + 2) := by unfold seenP; rw [hd]; rfl
    rw [e]
    exact ⟨s, _, rfl, rfl, rfl, hs, rfl, by rw [if_neg (by show ¬ ((_ : Nat) : Int) + 2 < 0; omega)]; exact ⟨rfl, rfl⟩⟩
  | none =>
    have e : seenP s.forks ⟨v, lo, hi⟩ = none := by unfold seenP; rw [hd]; rfl
    rw [e]
    by_cases c2 : 2000 ≤ s.forks.length
    · simp only
      rw [if_pos (by omega), if_pos c2]
      exact ⟨_, _, rfl, rfl, rfl, rfl, rfl, by rw [if_pos (show (-1 : Int) < 0 by decide)]; exact ⟨rfl, rfl⟩⟩
    · simp only
      rw [if_neg (by omega), if_neg c2]
      refine ⟨_, _, rfl, rfl, rfl, ?_, rfl, by rw [if_neg (by show ¬ ((_ : Nat) : Int) + 2 < 0; omega)]; exact ⟨rfl, rfl⟩⟩
      funext y
      show (if y = ⟨v, lo, hi⟩ then some ((s.forks.length : Int) + 2) else seenP s.forks y) = seenP (s.forks ++ [⟨v, lo, hi⟩]) y
      unfold seenP
      by_cases c : y = ⟨v, lo, hi⟩
      · rw [if_pos c, c, dfind_new hd []]
        rfl
      · rw [if_neg c]
        cases hy : dfind s.forks y with
        | some j => rw [dfind_append hy]
        | none =>
          have : dfind (s.forks ++ [⟨v, lo, hi⟩]) y = none := dfind_no (fun q hq e2 => by
            by_cases hqi : q < s.forks.length
            · rw [List.getElem_append_left hqi] at e2
              exact dfind_none hy (e2 ▸ List.getElem_mem hqi)
            · have hq' : q = s.forks.length := by
                have := hq
                rw [List.length_append, List.length_singleton] at this
                omega
              subst hq'
              rw [List.getElem_append_right (Nat.le_refl _)] at e2
              simp at e2
              exact c e2.symm)
          rw [this]
theorem done_val (s : FS) (n : Int) (hl : s.forks.length ≤ 2000) : impl_forking_done.f s n = some (if s.full = true then (0, [], -1) else (s.vars, s.forks, n)) := by
  unfold impl_forking_done.f
  by_cases c : s.full = true
  · rw [if_pos c, if_pos c]
  · rw [if_neg c, if_neg c, clone2_val _ (by omega)]
    rfl
/-- A diagram and a place, or nothing and -1. -/
def told (vars : Int) (p : List S56 × Int) : Int × List S56 × Int := if p.2 < 0 then (0, [], -1) else (vars, p.1, p.2)
/-! #### what is done with two places, as a tree of decisions (0 and, 1 or, 2 exactly one) -/
def gat (L : List S56) (n v : Int) (hi : Bool) : Int :=
  if n < 2 then n else if (L.getD (n - 2).toNat ⟨0, 0, 0⟩).f0 = v then (if hi = true then (L.getD (n - 2).toNat ⟨0, 0, 0⟩).f2 else (L.getD (n - 2).toNat ⟨0, 0, 0⟩).f1) else n
theorem gat_ok {vars : Int} {L : List S56} (h : DV vars L) {n v : Int} (hp : Pl L n) (hv : v ≤ dvar vars L n) (hvv : v < vars) (hi : Bool) : Pl L (gat L n v hi) ∧ v < dvar vars L (gat L n v hi) := by
  unfold gat
  by_cases h2 : n < 2
  · rw [if_pos h2]
    refine ⟨hp, ?_⟩
    unfold dvar
    rw [if_pos h2]
    exact hvv
  · rw [if_neg h2]
    obtain ⟨x, hx, hd, e, a0, a1, p1, p2, _, _, _, q1, q2⟩ := h.at_ hp h2
    rw [hd]
    by_cases c : x.f0 = v
    · rw [if_pos c]
      cases hi with
      | true => rw [if_pos rfl]; exact ⟨p2, by omega⟩
      | false => rw [if_neg (by decide)]; exact ⟨p1, by omega⟩
    · rw [if_neg c]
      exact ⟨hp, by omega⟩
theorem dvar_two {vars : Int} {L : List S56} (h : DV vars L) {n : Int} (hp : Pl L n) : dvar vars L n < vars ↔ ¬ n < 2 := by
  constructor
  · intro h1 h2
    unfold dvar at h1
    rw [if_pos h2] at h1
    omega
  · intro h2
    obtain ⟨x, _, _, e, _, a1, _⟩ := h.at_ hp h2
    omega
/-! #### what is done with two places: the reference and the program -/
theorem add_val (vars v lo hi : Int) (L : List S56) (hl : L.length ≤ 2000) : spec_l8Add.f vars L v lo hi = some (vars, (dadd L v lo hi).1, (dadd L v lo hi).2) := by
  unfold spec_l8Add.f dadd
  by_cases c1 : lo < 0 ∨ hi < 0
  · rw [if_pos c1, if_pos c1]
  rw [if_neg c1, if_neg c1]
  by_cases c2 : lo = hi
  · rw [if_pos c2, if_pos c2]
  rw [if_neg c2, if_neg c2, if_pos (show L.length ≤ 1000000000000 by omega)]
  show (match dfind L ⟨v, lo, hi⟩ with | some i => _ | none => _) = _
  cases dfind L ⟨v, lo, hi⟩ with
  | some i => rfl
  | none =>
    simp only
    by_cases c3 : 2000 ≤ L.length
    · rw [if_pos c3, if_pos c3]
    · rw [if_neg c3, if_neg c3]
theorem ins_fork (L : List S56) (v : Int) (lo hi : DT) : ins L (.fork v lo hi) = if (ins L lo).2 < 0 then (L, -1) else dadd (ins (ins L lo).1 hi).1 v (ins L lo).2 (ins (ins L lo).1 hi).2 := by rw [ins]
theorem place_val {vars : Int} (L : List S56) (n : Int) (hl : L.length ≤ 1000000000) : spec_l8Place.f vars L n = some (@decide (Pl L n) (decPl L n)) := by
  unfold spec_l8Place.f
  rw [l1In_val, w_id (by omega) (by omega)]
  rfl
theorem gat_self {L : List S56} {vars n : Int} (c : ¬ n < 2) (hi : Bool) : gat L n (dvar vars L n) hi = if hi = true then (rd_T56 L (n - 2)).f2 else (rd_T56 L (n - 2)).f1 := by
  unfold gat dvar
  rw [if_neg c, if_neg c, if_pos rfl, rdP]
theorem dvar_self {L : List S56} {vars n : Int} (c : ¬ n < 2) : dvar vars L n = (rd_T56 L (n - 2)).f0 := by
  unfold dvar
  rw [if_neg c, rdP]
/-! #### rows of values as a tree -/
def rowsT : Nat → Int → List Int → DT
  | 0, _, vs => .leaf (rd vs 0)
  | m + 1, v, vs => .fork v (rowsT m (v + 1) (vs.take (vs.length / 2))) (rowsT m (v + 1) (vs.drop (vs.length / 2)))
def BitRow (vs : List Int) : Prop := ∀ x ∈ vs, x = 0 ∨ x = 1
theorem BitRow.take {vs : List Int} (h : BitRow vs) (n : Nat) : BitRow (vs.take n) := fun x hx => h x (List.mem_of_mem_take hx)
theorem BitRow.drop {vs : List Int} (h : BitRow vs) (n : Nat) : BitRow (vs.drop n) := fun x hx => h x (List.mem_of_mem_drop hx)
theorem half_len {vs : List Int} {m : Nat} (h : vs.length = 2 ^ (m + 1)) : (vs.take (vs.length / 2)).length = 2 ^ m ∧ (vs.drop (vs.length / 2)).length = 2 ^ m := by
  rw [List.length_take, List.length_drop, h, Nat.pow_succ]
  omega
theorem rowsT_ok {vars : Int} {L : List S56} (hL : DV vars L) : ∀ (m : Nat) (v : Int) (vs : List Int), 0 ≤ v → v + m = vars → vs.length = 2 ^ m → BitRow vs → TOk vars L v (rowsT m v vs) := by
  intro m
  induction m with
  | zero =>
    intro v vs h0 hv hl hb
    unfold rowsT
    have hm : rd vs 0 ∈ vs := by
      have : 0 < vs.length := by rw [hl]; decide
      rw [show rd vs 0 = vs[0] from rd_lt this]
      exact List.getElem_mem _
    have hx := hb _ hm
    have hd : dvar vars L (rd vs 0) = vars := by
      unfold dvar
      rw [if_pos (by omega)]
    refine ⟨⟨by omega, by omega⟩, ?_⟩
    rw [hd]
    omega
  | succ m ih =>
    intro v vs h0 hv hl hb
    obtain ⟨h1, h2⟩ := half_len hl
    unfold rowsT
    exact ⟨Int.le_refl _, h0, by omega, ih (v + 1) _ (by omega) (by omega) h1 (hb.take _), ih (v + 1) _ (by omega) (by omega) h2 (hb.drop _)⟩
theorem spec_rows {vars : Int} : ∀ (m : Nat) (L : List S56) (v : Int) (vs : List Int), DV vars L → 0 ≤ v → v + m = vars → vs.length = 2 ^ m → BitRow vs →
    Ev (fun k => spec_l8Rows.f k vars L vs v) (vars, (ins L (rowsT m v vs)).1, (ins L (rowsT m v vs)).2) := by
  intro m
  induction m with
  | zero =>
    intro L v vs h h0 hv hl hb
    refine Ev.step (Ev.pos (by omega) (Ev.pos (by rw [hl]; decide) (Ev.val _))) (fun k => spec_l8Rows.f.eq_2 ..)
  | succ m ih =>
    intro L v vs h h0 hv hl hb
    have h12 := h.v12
    obtain ⟨h1, h2⟩ := half_len hl
    have hp : (2 : Nat) ^ (m + 1) ≤ 1000000000000 := Nat.le_trans (Nat.pow_le_pow_right (by decide) (show m + 1 ≤ 12 by omega)) (by decide)
    refine Ev.step (Ev.neg (by omega) (Ev.pos (by omega) ?_)) (fun k => spec_l8Rows.f.eq_2 ..)
    rw [w_id (by omega) (by omega)]
    refine Ev.bind (ih L (v + 1) _ h (by omega) (by omega) h1 (hb.take _)) ?_
    obtain ⟨d1, _⟩ := dv_ins h (rowsT_ok h m (v + 1) _ (by omega) (by omega) h1 (hb.take _))
    rw [show rowsT (m + 1) v vs = .fork v (rowsT m (v + 1) (vs.take (vs.length / 2))) (rowsT m (v + 1) (vs.drop (vs.length / 2))) from rfl]
    rw [ins_fork]
    by_cases c4 : (ins L (rowsT m (v + 1) (vs.take (vs.length / 2)))).2 < 0
    · rw [if_pos c4]
      exact Ev.pos c4 (Ev.val _)
    rw [if_neg c4]
    obtain ⟨d2, _⟩ := dv_ins d1 (rowsT_ok d1 m (v + 1) _ (by omega) (by omega) h2 (hb.drop _))
    exact Ev.neg c4 (Ev.bind (ih _ (v + 1) _ d1 (by omega) (by omega) h2 (hb.drop _)) (Ev.const (add_val vars v _ _ _ d2.len)))
/-! #### drawn diagrams -/
theorem dv_nil {vars : Int} (h0 : 0 ≤ vars) (h12 : vars ≤ 12) : DV vars [] := ⟨h0, h12, Nat.zero_le _, fun i x hx => by simp at hx, fun i x hx => by simp at hx⟩
/-! #### the value of a place -/
def dval (vars : Int) (L : List S56) (bits : List Int) : Nat → Int → Int
  | 0, n => n
  | m + 1, n => if n < 2 then n else dval vars L bits m (gat L n (dvar vars L n) (decide (rd bits (dvar vars L n) = 1)))
/-- The constant to which one comes from a place. -/
def dvP (vars : Int) (L : List S56) (bits : List Int) (n : Int) : Int := dval vars L bits 13 n
theorem dval_01 {vars : Int} {L : List S56} (h : DV vars L) (bits : List Int) : ∀ (m : Nat) (n : Int), Pl L n → vars - dvar vars L n < m → dval vars L bits m n = 0 ∨ dval vars L bits m n = 1 := by
  intro m
  induction m with
  | zero =>
    intro n p h1
    have := (h.dvar_le p).2
    omega
  | succ m ih =>
    intro n p h1
    unfold dval
    by_cases c : n < 2
    · rw [if_pos c]
      have := p.1
      omega
    · rw [if_neg c]
      have f := gat_ok h p (Int.le_refl _) ((dvar_two h p).2 c) (decide (rd bits (dvar vars L n) = 1))
      exact ih _ f.1 (by omega)
theorem dvP_01 {vars : Int} {L : List S56} (h : DV vars L) (bits : List Int) {n : Int} (p : Pl L n) : dvP vars L bits n = 0 ∨ dvP vars L bits n = 1 := by
  have a0 := (h.dvar_le p).1
  have a1 := h.v12
  exact dval_01 h bits 13 n p (by omega)
/-! #### the program's value of a place -/
theorem value_l0 {vars : Int} {L : List S56} (h : DV vars L) (bits : List Int) (hb : (bits.length : Int) = vars) : ∀ (m : Nat) (n : Int), Pl L n → vars - dvar vars L n < m → Ev (fun k => impl_Diagram_value.l0 k n bits vars L) (dval vars L bits m n) := by
  intro m
  induction m with
  | zero =>
    intro n p h1
    have := (h.dvar_le p).2
    omega
  | succ m ih =>
    intro n p h1
    have p0 := p.1
    have p1 := p.2
    have hl := h.len
    unfold dval
    by_cases c : n < 2
    · rw [if_pos c]
      exact Ev.step (Ev.neg (by omega) (Ev.val _)) (fun k => impl_Diagram_value.l0.eq_2 ..)
    · rw [if_neg c]
      have hv := (dvar_two h p).2 c
      have hv0 := (h.dvar_le p).1
      have g0 : (rd_T56 L (n - 2)).f0 = dvar vars L n := (dvar_self c).symm
      have g1 : (rd_T56 L (n - 2)).f1 = gat L n (dvar vars L n) false := by rw [gat_self c]; rfl
      have g2 : (rd_T56 L (n - 2)).f2 = gat L n (dvar vars L n) true := by rw [gat_self c]; rfl
      refine Ev.step ?_ (fun k => impl_Diagram_value.l0.eq_2 ..)
      rw [w_id (by omega) (by omega), g0, g1, g2]
      refine Ev.pos (by omega) (Ev.pos (by omega) (Ev.pos (by omega) (Ev.pos hv0 (Ev.pos (by omega) ?_))))
      have f := fun hi => gat_ok h p (Int.le_refl _) hv hi
      by_cases cb : rd bits (dvar vars L n) = 1
      · rw [decide_eq_true cb]
        exact Ev.pos cb (ih _ (f true).1 (by have := (f true).2; omega))
      · rw [decide_eq_false cb]
        exact Ev.neg cb (ih _ (f false).1 (by have := (f false).2; omega))
/-- A number's lower bits, the highest one first. -/
def bitsD (n : Int) : Nat → List Int
  | 0 => []
  | d + 1 => (n / 2 ^ d % 2) :: bitsD n d
theorem bitsD_length (n : Int) : ∀ d, (bitsD n d).length = d := by
  intro d
  induction d with
  | zero => rfl
  | succ d ih => simp [bitsD, ih]
theorem shr_eq (n : Int) (d : Nat) (h : d ≤ 64) : shr .i64 n (d : Int) = n / 2 ^ d := by
  unfold shr
  rw [Int.toNat_natCast, Nat.min_eq_left (by simpa [IntKind.bits] using h)]
theorem spec_value_loop (n : Int) (hn : 0 ≤ n) : ∀ (d : Nat) (acc : List Int), d ≤ 60 → acc.length ≤ 1000 - d →
    Ev (fun k => spec_l6Value.l0 k n acc ((d : Int) - 1)) (acc ++ bitsD n d) := by
  intro d
  induction d with
  | zero =>
    intro acc _ _
    refine Ev.step (Ev.neg (by omega) (Ev.valEq (by simp [bitsD]))) (fun k => spec_l6Value.l0.eq_2 ..)
  | succ d ih =>
    intro acc hd ha
    refine Ev.step ?_ (fun k => spec_l6Value.l0.eq_2 ..)
    rw [show ((d + 1 : Nat) : Int) - 1 = (d : Int) by omega, shr_eq n d (by omega), w_id (by omega) (by omega)]
    refine Ev.pos (by omega) (Ev.pos (by omega) (Ev.pos (by omega) ?_))
    have := ih (acc ++ [n / 2 ^ d % 2]) (by omega) (by simp; omega)
    have e : Int.tmod (n / 2 ^ d) 2 = n / 2 ^ d % 2 := by
      rw [Int.tmod_eq_emod_of_nonneg]
      exact Int.ediv_nonneg hn (by exact_mod_cast Nat.zero_le _)
    rw [e]
    refine this.to ?_
    simp [bitsD]
theorem spec_value (n : Int) (hn : 0 ≤ n) (m : Nat) (hm : m ≤ 60) : Ev (fun k => spec_l6Value.f k n (m : Int)) (bitsD n m) := by
  unfold spec_l6Value.f
  rw [w_id (by omega) (by omega)]
  exact (spec_value_loop n hn m [] hm (by simp)).to (by simp)
/-! #### a diagram that is made value by value -/
def madeT (fn : List Int → Int) : Nat → List Int → DT
  | 0, bits => .leaf (fn bits)
  | m + 1, bits => .fork (bits.length : Int) (madeT fn m (bits ++ [0])) (madeT fn m (bits ++ [1]))
def allvals (fn : List Int → Int) : Nat → List Int → List Int
  | 0, bits => [fn bits]
  | m + 1, bits => allvals fn m (bits ++ [0]) ++ allvals fn m (bits ++ [1])
theorem allvals_len (fn : List Int → Int) : ∀ (m : Nat) (bits : List Int), (allvals fn m bits).length = 2 ^ m := by
  intro m
  induction m with
  | zero => intro bits; rfl
  | succ m ih =>
    intro bits
    unfold allvals
    rw [List.length_append, ih, ih, Nat.pow_succ]
    omega
theorem rows_made (fn : List Int → Int) : ∀ (m : Nat) (bits : List Int), rowsT m (bits.length : Int) (allvals fn m bits) = madeT fn m bits := by
  intro m
  induction m with
  | zero => intro bits; rfl
  | succ m ih =>
    intro bits
    have h1 := allvals_len fn m (bits ++ [0])
    have h2 := allvals_len fn m (bits ++ [1])
    have hh : (allvals fn (m + 1) bits).length / 2 = (allvals fn m (bits ++ [0])).length := by
      rw [allvals_len, h1, Nat.pow_succ]
      omega
    have e1 := ih (bits ++ [0])
    have e2 := ih (bits ++ [1])
    rw [List.length_append, List.length_singleton] at e1 e2
    show DT.fork (bits.length : Int) (rowsT m ((bits.length : Int) + 1) ((allvals fn (m + 1) bits).take ((allvals fn (m + 1) bits).length / 2))) (rowsT m ((bits.length : Int) + 1) ((allvals fn (m + 1) bits).drop ((allvals fn (m + 1) bits).length / 2))) = _
    rw [hh]
    show DT.fork (bits.length : Int) (rowsT m ((bits.length : Int) + 1) ((allvals fn m (bits ++ [0]) ++ allvals fn m (bits ++ [1])).take (allvals fn m (bits ++ [0])).length)) (rowsT m ((bits.length : Int) + 1) ((allvals fn m (bits ++ [0]) ++ allvals fn m (bits ++ [1])).drop (allvals fn m (bits ++ [0])).length)) = _
    rw [List.take_left, List.drop_left]
    have c : ((bits.length + 1 : Nat) : Int) = (bits.length : Int) + 1 := by omega
    rw [c] at e1 e2
    rw [e1, e2]
    rfl
theorem bitsD_low (n : Nat) (m : Nat) : ∀ d, d ≤ m → bitsD ((2 ^ m + n : Nat) : Int) d = bitsD (n : Int) d := by
  intro d
  induction d with
  | zero => intro _; rfl
  | succ d ih =>
    intro hd
    unfold bitsD
    rw [ih (by omega)]
    congr 1
    have e : (2 : Int) ^ d = ((2 ^ d : Nat) : Int) := by simp
    rw [e, ← Int.natCast_ediv, ← Int.natCast_ediv]
    have h1 : 2 ^ m = 2 ^ (m - d - 1) * 2 * 2 ^ d := by
      rw [Nat.mul_assoc, ← Nat.pow_succ', ← Nat.pow_add]
      congr 1
      omega
    have h2 : (2 ^ m + n) / 2 ^ d = 2 ^ (m - d - 1) * 2 + n / 2 ^ d := by
      rw [h1, Nat.mul_comm (2 ^ (m - d - 1) * 2) (2 ^ d), Nat.mul_add_div (Nat.pow_pos (by decide))]
    rw [h2]
    omega
theorem allvals_rows (fn : List Int → Int) : ∀ (m : Nat) (bits : List Int), allvals fn m bits = (List.range (2 ^ m)).map (fun i => fn (bits ++ bitsD ((i : Nat) : Int) m)) := by
  intro m
  induction m with
  | zero =>
    intro bits
    show [fn bits] = [fn (bits ++ [])]
    rw [List.append_nil]
  | succ m ih =>
    intro bits
    have hp : 2 ^ (m + 1) = 2 ^ m + 2 ^ m := by rw [Nat.pow_succ]; omega
    rw [hp, List.range_add, List.map_append, List.map_map]
    unfold allvals
    rw [ih, ih]
    have hpos : 0 < 2 ^ m := Nat.pow_pos (by decide)
    have ei : (2 : Int) ^ m = ((2 ^ m : Nat) : Int) := by simp
    congr 1
    · apply List.map_congr_left
      intro i hi
      have hi := List.mem_range.mp hi
      have e : bitsD (i : Int) (m + 1) = 0 :: bitsD (i : Int) m := by
        show ((i : Int) / 2 ^ m % 2) :: _ = _
        rw [ei, ← Int.natCast_ediv, Nat.div_eq_of_lt hi]
        rfl
      rw [e, List.append_assoc]
      rfl
    · apply List.map_congr_left
      intro i hi
      have hi := List.mem_range.mp hi
      have e : bitsD ((2 ^ m + i : Nat) : Int) (m + 1) = 1 :: bitsD (i : Int) m := by
        show (((2 ^ m + i : Nat) : Int) / 2 ^ m % 2) :: bitsD ((2 ^ m + i : Nat) : Int) m = _
        rw [bitsD_low i m m (Nat.le_refl _), ei, ← Int.natCast_ediv, Nat.add_div_left _ hpos, Nat.div_eq_of_lt hi]
        rfl
      show fn (bits ++ [1] ++ bitsD (i : Int) m) = fn (bits ++ bitsD ((2 ^ m + i : Nat) : Int) (m + 1))
      rw [e, List.append_assoc]
      rfl
theorem madeT_ok {vars : Int} {L : List S56} (hL : DV vars L) (fn : List Int → Int) (hfn : ∀ bits, BitRow bits → (bits.length : Int) = vars → fn bits = 0 ∨ fn bits = 1) : ∀ (m : Nat) (bits : List Int), BitRow bits → (bits.length : Int) + m = vars → TOk vars L (bits.length : Int) (madeT fn m bits) := by
  intro m
  induction m with
  | zero =>
    intro bits hb hl
    have := hfn bits hb (by omega)
    unfold madeT
    refine ⟨⟨by omega, by omega⟩, ?_⟩
    unfold dvar
    rw [if_pos (by omega)]
    omega
  | succ m ih =>
    intro bits hb hl
    have k : ∀ c : Int, c = 0 ∨ c = 1 → TOk vars L ((bits.length : Int) + 1) (madeT fn m (bits ++ [c])) := fun c hc => by
      have := ih (bits ++ [c]) (fun x hx => by
        rcases List.mem_append.mp hx with h | h
        · exact hb x h
        · rw [List.mem_singleton.mp h]
          exact hc) (by simp; omega)
      rw [List.length_append, List.length_singleton] at this
      exact this
    unfold madeT
    exact ⟨Int.le_refl _, by omega, by omega, k 0 (.inl rfl), k 1 (.inr rfl)⟩
theorem dadd_bound {L : List S56} {v lo hi : Int} (hl : L.length ≤ 2000) (h2 : lo ≤ 2001) : (dadd L v lo hi).1.length ≤ 2000 ∧ (dadd L v lo hi).2 ≤ 2001 := by
  unfold dadd
  split
  · exact ⟨hl, show (-1 : Int) ≤ 2001 by decide⟩
  split
  · exact ⟨hl, h2⟩
  split
  · next i hf =>
    have := (List.getElem?_eq_some_iff.1 (dfind_some hf)).1
    exact ⟨hl, by show (i : Int) + 2 ≤ 2001; omega⟩
  split
  · exact ⟨hl, show (-1 : Int) ≤ 2001 by decide⟩
  · exact ⟨by simp; omega, by show (L.length : Int) + 2 ≤ 2001; omega⟩
structure WInv (vars : Int) (s : FS) : Prop where
  vs : s.vars = vars
  seen : s.seen = seenP s.forks
  len : s.forks.length ≤ 2000
theorem bit_val (b : Bool) : impl_bit.f b = some (if b = true then 1 else 0) := by
  unfold impl_bit.f
  cases b <;> rfl
theorem made_val {vars : Int} (h12 : vars ≤ 12) (is : Nat → List Int → Option Bool) (fn : List Int → Int) (hfn : ∀ bits, BitRow bits → (bits.length : Int) = vars → (fn bits = 0 ∨ fn bits = 1) ∧ Ev (fun k => is k bits) (fn bits == 1)) :
    ∀ (m : Nat) (s : FS) (bits : List Int), WInv vars s → (bits.length : Int) + m = vars → BitRow bits →
    ∃ s' r, (∃ K, ∀ k j, K ≤ k → K ≤ j → impl_forking_made.f k (is j) s bits = some (s', r)) ∧ WInv vars s' ∧ 0 ≤ r ∧ r ≤ 2001 ∧ (s.full = true → s'.full = true) ∧
      (s.full = false → DV vars s.forks → ((ins s.forks (madeT fn m bits)).2 < 0 → s'.full = true) ∧ (0 ≤ (ins s.forks (madeT fn m bits)).2 → s'.full = false ∧ s'.forks = (ins s.forks (madeT fn m bits)).1 ∧ r = (ins s.forks (madeT fn m bits)).2)) := by
  intro m
  induction m with
  | zero =>
    intro s bits hw hl hb
    cases hf : s.full with
    | true =>
      refine ⟨s, 0, ⟨1, fun k j hk _ => ?_⟩, hw, by decide, by decide, fun _ => hf, fun h => (by cases h)⟩
      obtain ⟨k, rfl⟩ : ∃ q, k = q + 1 := ⟨k - 1, by omega⟩
      rw [impl_forking_made.f, if_pos hf]
    | false =>
      obtain ⟨h01, K, hK⟩ := hfn bits hb (by omega)
      refine ⟨s, fn bits, ⟨K + 1, fun k j hk hj => ?_⟩, hw, by omega, by omega, fun h => (by cases h), fun _ _ => ⟨fun hn => ?_, fun _ => ⟨hf, rfl, rfl⟩⟩⟩
      · obtain ⟨k, rfl⟩ : ∃ q, k = q + 1 := ⟨k - 1, by omega⟩
        rw [impl_forking_made.f, if_neg (by rw [hf]; decide), if_pos (by rw [hw.vs]; omega), show is j bits = some (fn bits == 1) from hK j (by omega), Option.bind_some, bit_val, Option.bind_some]
        rcases h01 with h | h <;> rw [h] <;> rfl
      · have : fn bits < 0 := hn
        omega
  | succ m ih =>
    intro s bits hw hl hb
    cases hf : s.full with
    | true =>
      refine ⟨s, 0, ⟨1, fun k j hk _ => ?_⟩, hw, by decide, by decide, fun _ => hf, fun h => (by cases h)⟩
      obtain ⟨k, rfl⟩ : ∃ q, k = q + 1 := ⟨k - 1, by omega⟩
      rw [impl_forking_made.f, if_pos hf]
    | false =>
      have bsn : ∀ c : Int, c = 0 ∨ c = 1 → BitRow (bits ++ [c]) := fun c hc x hx => by
        rcases List.mem_append.mp hx with h | h
        · exact hb x h
        · rw [List.mem_singleton.mp h]
          exact hc
      obtain ⟨s1, r1, ⟨K1, e1⟩, w1, p1, q1, f1, g1⟩ := ih s (bits ++ [0]) hw (by simp; omega) (bsn 0 (.inl rfl))
      obtain ⟨s2, r2, ⟨K2, e2⟩, w2, p2, q2, f2, g2⟩ := ih s1 (bits ++ [1]) w1 (by simp; omega) (bsn 1 (.inr rfl))
      obtain ⟨s3, r3, ef, k1, k2, k3, k4, k5⟩ := fork_val s2 (bits.length : Int) r1 r2 (show KeyI (bits.length : Int) ∧ KeyI r1 ∧ KeyI r2 from ⟨keyI (by omega) (by omega), keyI p1 (by omega), keyI p2 (by omega)⟩) p1 p2 w2.seen
      have hbd := dadd_bound (L := s2.forks) (v := (bits.length : Int)) (lo := r1) (hi := r2) w2.len q1
      have hr3 : 0 ≤ r3 ∧ r3 ≤ 2001 := by
        by_cases c : (dadd s2.forks (bits.length : Int) r1 r2).2 < 0
        · rw [if_pos c] at k5
          omega
        · rw [if_neg c] at k5
          omega
      have full2 : s2.full = true → s3.full = true := fun h => by
        by_cases c : (dadd s2.forks (bits.length : Int) r1 r2).2 < 0
        · rw [if_pos c] at k5
          exact k5.1
        · rw [if_neg c] at k5
          rw [k5.1]
          exact h
      refine ⟨s3, r3, ⟨max K1 K2 + 1, fun k j hk hj => ?_⟩, ⟨by rw [k1]; exact w2.vs, k3, by rw [k4]; exact hbd.1⟩, hr3.1, hr3.2, fun h => (by cases h), fun _ hd => ?_⟩
      · obtain ⟨k, rfl⟩ : ∃ q, k = q + 1 := ⟨k - 1, by omega⟩
        rw [impl_forking_made.f, if_neg (by rw [hf]; decide), if_neg (by rw [hw.vs]; omega), if_pos (by omega), e1 k j (by omega) (by omega), Option.bind_some]
        simp only
        rw [e2 k j (by omega) (by omega), Option.bind_some]
        exact ef
      · have hT : ins s.forks (madeT fn (m + 1) bits) = if (ins s.forks (madeT fn m (bits ++ [0]))).2 < 0 then (s.forks, -1) else dadd (ins (ins s.forks (madeT fn m (bits ++ [0]))).1 (madeT fn m (bits ++ [1]))).1 (bits.length : Int) (ins s.forks (madeT fn m (bits ++ [0]))).2 (ins (ins s.forks (madeT fn m (bits ++ [0]))).1 (madeT fn m (bits ++ [1]))).2 := by
          show ins s.forks (.fork (bits.length : Int) (madeT fn m (bits ++ [0])) (madeT fn m (bits ++ [1]))) = _
          rw [ins_fork]
        rw [hT]
        obtain ⟨gn, gy⟩ := g1 hf hd
        by_cases cl : (ins s.forks (madeT fn m (bits ++ [0]))).2 < 0
        · rw [if_pos cl]
          exact ⟨fun _ => full2 (f2 (gn cl)), fun h => (neg1 h).elim⟩
        rw [if_neg cl]
        obtain ⟨z1, z2, z3⟩ := gy (by omega)
        have hok := madeT_ok hd fn (fun b hb hl => (hfn b hb hl).1) m (bits ++ [0]) (bsn 0 (.inl rfl)) (by simp; omega)
        have hd1 := (dv_ins hd hok).1
        rw [← z2, ← z3]
        rw [← z2] at hd1
        obtain ⟨gn2, gy2⟩ := g2 z1 hd1
        by_cases ch : (ins s1.forks (madeT fn m (bits ++ [1]))).2 < 0
        · have hneg : dadd (ins s1.forks (madeT fn m (bits ++ [1]))).1 (bits.length : Int) r1 (ins s1.forks (madeT fn m (bits ++ [1]))).2 = ((ins s1.forks (madeT fn m (bits ++ [1]))).1, -1) := by
            unfold dadd
            rw [if_pos (.inr ch)]
          rw [hneg]
          exact ⟨fun _ => full2 (gn2 ch), fun h => (neg1 h).elim⟩
        obtain ⟨z4, z5, z6⟩ := gy2 (by omega)
        rw [← z5, ← z6]
        refine ⟨fun h => ?_, fun h => ?_⟩
        · rw [if_pos h] at k5
          exact k5.1
        · rw [if_neg (by omega)] at k5
          exact ⟨k5.1.trans z4, k4, k5.2⟩
theorem shl_pow (m : Nat) (h : m ≤ 12) : shl .i64 1 (m : Int) = ((2 ^ m : Nat) : Int) := by
  have : m = 0 ∨ m = 1 ∨ m = 2 ∨ m = 3 ∨ m = 4 ∨ m = 5 ∨ m = 6 ∨ m = 7 ∨ m = 8 ∨ m = 9 ∨ m = 10 ∨ m = 11 ∨ m = 12 := by omega
  rcases this with rfl | rfl | rfl | rfl | rfl | rfl | rfl | rfl | rfl | rfl | rfl | rfl | rfl <;> rfl
/-! #### orders: a valid order, and a diagram read in another order -/
theorem nodup_le : ∀ (a b : List Int), a.Nodup → (∀ x ∈ a, x ∈ b) → a.length ≤ b.length
  | [], _, _, _ => Nat.zero_le _
  | x :: a, b, h, hs => by
    have hx : x ∈ b := hs x (by simp)
    have hn := List.nodup_cons.mp h
    have := nodup_le a (b.erase x) hn.2 (fun y hy => (List.mem_erase_of_ne (fun (e : y = x) => hn.1 (e ▸ hy))).mpr (hs y (by simp [hy])))
    rw [List.length_erase_of_mem hx] at this
    have := List.length_pos_of_mem hx
    simp only [List.length_cons]
    omega
def upto (n : Nat) : List Int := (List.range n).map (fun j => ((j : Nat) : Int))
theorem upto_len (n : Nat) : (upto n).length = n := by simp [upto]
theorem upto_mem {n : Nat} {x : Int} : x ∈ upto n ↔ 0 ≤ x ∧ x < (n : Int) := by
  unfold upto
  rw [List.mem_map]
  constructor
  · rintro ⟨j, hj, rfl⟩
    have := List.mem_range.mp hj
    omega
  · intro h
    exact ⟨x.toNat, List.mem_range.mpr (by omega), by omega⟩
theorem upto_nodup (n : Nat) : (upto n).Nodup := by
  unfold upto
  refine List.Pairwise.map _ (fun a b (h : a ≠ b) => by omega) List.nodup_range
/-- An order of n: a list of n places that names each of them. -/
def Ord (o : List Int) (n : Int) : Prop := (0 ≤ n ∧ n ≤ 12) ∧ (o.length : Int) = n ∧ ∀ j : Int, 0 ≤ j → j < n → j ∈ o
/-- What the program asks of each member. -/
def OrdAt (o : List Int) (n : Int) (i : Nat) : Prop := (0 ≤ rd o (i : Int) ∧ rd o (i : Int) ≤ n - 1) ∧ rd o (i : Int) ∉ o.take i
theorem ord_at {o : List Int} {n : Int} (h : Ord o n) {i : Nat} (hi : i < o.length) : OrdAt o n i := by
  obtain ⟨⟨n0, n12⟩, hl, hj⟩ := h
  have big : ∀ (x : List Int), (∀ j : Int, 0 ≤ j → j < n → j ∈ x) → o.length ≤ x.length := fun x hx => by
    have := nodup_le (upto o.length) x (upto_nodup _) (fun y hy => by have := upto_mem.mp hy; exact hx y this.1 (by omega))
    rwa [upto_len] at this
  have split : o = o.take i ++ rd o (i : Int) :: o.drop (i + 1) := by
    rw [rd_lt hi, List.getElem_cons_drop, List.take_append_drop]
  have less : (o.take i ++ o.drop (i + 1)).length < o.length := by
    simp only [List.length_append, List.length_take, List.length_drop]
    omega
  have mem : ∀ j, j ∈ o → j ≠ rd o (i : Int) → j ∈ o.take i ++ o.drop (i + 1) := fun j h1 h2 => by
    rw [split] at h1
    rcases List.mem_append.mp h1 with h | h
    · exact List.mem_append.mpr (Or.inl h)
    · rcases List.mem_cons.mp h with h | h
      · exact absurd h h2
      · exact List.mem_append.mpr (Or.inr h)
  constructor
  · refine Classical.byContradiction (fun hb => ?_)
    have := big (o.take i ++ o.drop (i + 1)) (fun j j0 j1 => mem j (hj j j0 j1) (fun e => hb ⟨by omega, by omega⟩))
    omega
  · intro hm
    have := big (o.take i ++ o.drop (i + 1)) (fun j j0 j1 => by
      by_cases e : j = rd o (i : Int)
      · exact List.mem_append.mpr (Or.inl (e ▸ hm))
      · exact mem j (hj j j0 j1) e)
    omega
theorem ord_of {o : List Int} {n : Int} (hn : 0 ≤ n ∧ n ≤ 12) (hl : (o.length : Int) = n) (h : ∀ i : Nat, i < o.length → OrdAt o n i) : Ord o n := by
  refine ⟨hn, hl, fun j j0 j1 => Classical.byContradiction (fun hj => ?_)⟩
  have nd : o.Nodup := by
    refine List.pairwise_iff_getElem.mpr (fun a b ha hb hab e => ?_)
    have := (h b hb).2
    rw [rd_lt hb] at this
    refine this ?_
    rw [← e]
    exact List.mem_take_iff_getElem.mpr ⟨a, by omega, rfl⟩
  have := nodup_le o ((upto o.length).erase j) nd (fun x hx => by
    obtain ⟨i, hi, hxi⟩ := List.mem_iff_getElem.mp hx
    have ha := (h i hi).1
    rw [rd_lt hi, hxi] at ha
    exact (List.mem_erase_of_ne (fun (e : x = j) => hj (e ▸ hx))).mpr (upto_mem.mpr ⟨ha.1, by omega⟩))
  rw [List.length_erase_of_mem (upto_mem.mpr ⟨j0, by omega⟩), upto_len] at this
  omega
theorem index_loop (l : List Int) (hl : l.length ≤ 1048576) (x : Int) : ∀ (d i : Nat), i + d = l.length → ∃ r, Ev (fun k => slices_Index_int_int.l0 k l x (l.length : Int) (i : Int)) r ∧ (0 ≤ r ↔ ∃ j : Nat, i ≤ j ∧ j < l.length ∧ rd l (j : Int) = x) := by
  intro d
  induction d with
  | zero =>
    intro i hi
    exact ⟨-1, Ev.step (Ev.neg (by omega) (Ev.val _)) (fun k => slices_Index_int_int.l0.eq_2 ..), ⟨fun h => by omega, fun ⟨j, h1, h2, _⟩ => by omega⟩⟩
  | succ d ih =>
    intro i hi
    by_cases h : x = rd l (i : Int)
    · exact ⟨(i : Int), Ev.step (Ev.pos (by omega) (Ev.pos (by omega) (Ev.pos (by omega) (Ev.pos h (Ev.val _))))) (fun k => slices_Index_int_int.l0.eq_2 ..), ⟨fun _ => ⟨i, Nat.le_refl _, by omega, h.symm⟩, fun _ => by omega⟩⟩
    · obtain ⟨r, h1, h2⟩ := ih (i + 1) (by omega)
      refine ⟨r, Ev.step (Ev.pos (by omega) (Ev.pos (by omega) (Ev.pos (by omega) (Ev.neg h ?_)))) (fun k => slices_Index_int_int.l0.eq_2 ..), h2.trans ⟨?_, ?_⟩⟩
      · rw [wsucc i (by omega)]
        exact h1
      · rintro ⟨j, h1, h2, h3⟩
        exact ⟨j, by omega, h2, h3⟩
      · rintro ⟨j, h1, h2, h3⟩
        rcases Nat.lt_or_eq_of_le h1 with h4 | rfl
        · exact ⟨j, h4, h2, h3⟩
        · exact absurd h3.symm h
theorem contains_val (l : List Int) (hl : l.length ≤ 1048576) (x : Int) : Ev (fun k => slices_Contains_int_int.f k l x) (decide (x ∈ l)) := by
  obtain ⟨r, h1, h2⟩ := index_loop l hl x l.length 0 (by omega)
  unfold slices_Contains_int_int.f slices_Index_int_int.f
  refine Ev.bind h1 (Ev.valEq ?_)
  rw [decide_eq_decide, ge_iff_le, h2, List.mem_iff_getElem]
  constructor
  · rintro ⟨j, _, h3, h4⟩
    exact ⟨j, h3, by rw [← rd_lt h3]; exact h4⟩
  · rintro ⟨j, h3, h4⟩
    exact ⟨j, Nat.zero_le _, h3, by rw [rd_lt h3]; exact h4⟩
theorem impl_ord_loop (o : List Int) (n : Int) (hn : 0 ≤ n ∧ n ≤ 12) (hl : o.length ≤ 12) : ∀ (d i : Nat), i + d = o.length → ∃ b, Ev (fun k => impl_OrderValid.l0 k o n o (o.length : Int) (i : Int)) b ∧ (b = true ↔ ∀ q : Nat, i ≤ q → q < o.length → OrdAt o n q) := by
  intro d
  induction d with
  | zero =>
    intro i hi
    exact ⟨true, Ev.step (Ev.neg (by omega) (Ev.val _)) (fun k => impl_OrderValid.l0.eq_2 ..), ⟨fun _ q h1 h2 => by omega, fun _ => rfl⟩⟩
  | succ d ih =>
    intro i hi
    by_cases c : OrdAt o n i
    · obtain ⟨b, h1, h2⟩ := ih (i + 1) (by omega)
      refine ⟨b, Ev.step (Ev.pos (by omega) (Ev.pos (by omega) (Ev.pos (by omega) (Ev.bind (Ev.const (in_val _ _ _)) ?_)))) (fun k => impl_OrderValid.l0.eq_2 ..), h2.trans ⟨?_, fun h q h3 h4 => h q (by omega) h4⟩⟩
      · rw [w_id (by omega) (by omega)]
        refine Ev.pos (decide_eq_true c.1) (Ev.pos (by omega) ?_)
        rw [Int.toNat_natCast]
        refine Ev.bind (contains_val (o.take i) (by rw [List.length_take]; omega) _) (Ev.neg (by simp only [decide_eq_true_eq]; exact c.2) ?_)
        rw [wsucc i (by omega)]
        exact h1
      · intro h q h3 h4
        rcases Nat.lt_or_eq_of_le h3 with h5 | rfl
        · exact h q h5 h4
        · exact c
    · refine ⟨false, Ev.step (Ev.pos (by omega) (Ev.pos (by omega) (Ev.pos (by omega) (Ev.bind (Ev.const (in_val _ _ _)) ?_)))) (fun k => impl_OrderValid.l0.eq_2 ..), ⟨fun h => by (cases h), fun h => absurd (h i (Nat.le_refl _) (by omega)) c⟩⟩
      rw [w_id (by omega) (by omega)]
      by_cases c1 : 0 ≤ rd o (i : Int) ∧ rd o (i : Int) ≤ n - 1
      · refine Ev.pos (decide_eq_true c1) (Ev.pos (by omega) ?_)
        rw [Int.toNat_natCast]
        exact Ev.bind (contains_val (o.take i) (by rw [List.length_take]; omega) _) (Ev.pos (decide_eq_true (Classical.byContradiction (fun h => c ⟨c1, h⟩))) (Ev.val _))
      · exact Ev.neg (by rw [decide_eq_false c1]; decide) (Ev.val _)
theorem impl_ord (o : List Int) (n : Int) (hlen : o.length ≤ 1048576) : ∃ b, Ev (fun k => impl_OrderValid.f k o n) b ∧ (b = true ↔ Ord o n) := by
  have bad : ∀ q : Bool, q = true → Ev (fun k => impl_OrderValid.j0 k o n q) false := fun q hq => Ev.step (Ev.pos hq (Ev.val _)) (fun k => impl_OrderValid.j0.eq_2 ..)
  unfold impl_OrderValid.f
  by_cases c : 0 ≤ n ∧ n ≤ 12
  · by_cases c2 : (o.length : Int) = n
    · obtain ⟨b, h1, h2⟩ := impl_ord_loop o n c (by omega) o.length 0 (by omega)
      refine ⟨b, Ev.bind (Ev.const (in_val _ _ _)) (Ev.pos (decide_eq_true c) (Ev.step (Ev.neg (by simp [c2]) h1) (fun k => impl_OrderValid.j0.eq_2 ..))), h2.trans ⟨fun h => ord_of c c2 (fun i hi => h i (Nat.zero_le _) hi), fun h q _ hq => ord_at h hq⟩⟩
    · exact ⟨false, Ev.bind (Ev.const (in_val _ _ _)) (Ev.pos (decide_eq_true c) (bad _ (by simp [c2]))), ⟨fun h => by (cases h), fun h => absurd h.2.1 c2⟩⟩
  · exact ⟨false, Ev.bind (Ev.const (in_val _ _ _)) (Ev.neg (by rw [decide_eq_false c]; decide) (bad _ rfl)), ⟨fun h => by (cases h), fun h => absurd h.1 c⟩⟩
theorem spec_ord_loop (o : List Int) (n : Nat) (hn : n ≤ 12) (hl : o.length ≤ 1048576) : ∀ (d i : Nat), i + d = n → ∃ b, Ev (fun k => spec_OrderValid.l0 k o (n : Int) (i : Int)) b ∧ (b = true ↔ ∀ j : Int, (i : Int) ≤ j → j < (n : Int) → j ∈ o) := by
  intro d
  induction d with
  | zero =>
    intro i hi
    exact ⟨true, Ev.step (Ev.neg (by omega) (Ev.val _)) (fun k => spec_OrderValid.l0.eq_2 ..), ⟨fun _ j h1 h2 => by omega, fun _ => rfl⟩⟩
  | succ d ih =>
    intro i hi
    obtain ⟨t, ht1, ht2⟩ := has_dec o hl (i : Int)
    have hm : (∃ j : Nat, j < o.length ∧ rd o (j : Int) = (i : Int)) ↔ (i : Int) ∈ o := by
      rw [List.mem_iff_getElem]
      exact ⟨fun ⟨j, h3, h4⟩ => ⟨j, h3, by rw [← rd_lt h3]; exact h4⟩, fun ⟨j, h3, h4⟩ => ⟨j, h3, by rw [rd_lt h3]; exact h4⟩⟩
    cases t with
    | true =>
      obtain ⟨b, h1, h2⟩ := ih (i + 1) (by omega)
      refine ⟨b, Ev.step (Ev.pos (by omega) (Ev.bind ht1 (Ev.pos rfl ?_))) (fun k => spec_OrderValid.l0.eq_2 ..), h2.trans ⟨?_, fun h j h3 h4 => h j (by omega) h4⟩⟩
      · rw [wsucc i (by omega)]
        exact h1
      · intro h j h3 h4
        by_cases e : j = (i : Int)
        · rw [e]
          exact hm.mp (ht2.mp rfl)
        · exact h j (by omega) h4
    | false =>
      exact ⟨false, Ev.step (Ev.pos (by omega) (Ev.bind ht1 (Ev.neg (by decide) (Ev.val _)))) (fun k => spec_OrderValid.l0.eq_2 ..), ⟨fun h => by (cases h), fun h => by have := ht2.mpr (hm.mpr (h i (Int.le_refl _) (by omega))); (cases this)⟩⟩
theorem spec_ord (o : List Int) (n : Int) (hlen : o.length ≤ 1048576) : ∃ b, Ev (fun k => spec_OrderValid.f k o n) b ∧ (b = true ↔ Ord o n) := by
  have bad : ∀ q : Bool, q = true → Ev (fun k => spec_OrderValid.j0 k o n q) false := fun q hq => Ev.step (Ev.pos hq (Ev.val _)) (fun k => spec_OrderValid.j0.eq_2 ..)
  unfold spec_OrderValid.f
  by_cases c : 0 ≤ n ∧ n ≤ 12
  · by_cases c2 : (o.length : Int) = n
    · obtain ⟨m, rfl⟩ := Int.eq_ofNat_of_zero_le c.1
      obtain ⟨b, h1, h2⟩ := spec_ord_loop o m (by omega) hlen m 0 (by omega)
      refine ⟨b, Ev.bind (Ev.const (l1In_val _ _ _)) (Ev.pos (decide_eq_true c) (Ev.step (Ev.neg (by simp [c2]) h1) (fun k => spec_OrderValid.j0.eq_2 ..))), h2.trans ⟨fun h => ⟨c, c2, fun j j0 j1 => h j j0 j1⟩, fun h j j0 j1 => h.2.2 j (by omega) j1⟩⟩
    · exact ⟨false, Ev.bind (Ev.const (l1In_val _ _ _)) (Ev.pos (decide_eq_true c) (bad _ (by simp [c2]))), ⟨fun h => by (cases h), fun h => absurd h.2.1 c2⟩⟩
  · exact ⟨false, Ev.bind (Ev.const (l1In_val _ _ _)) (Ev.neg (by rw [decide_eq_false c]; decide) (bad _ rfl)), ⟨fun h => by (cases h), fun h => absurd h.1 c⟩⟩
/-- The row of bits moved to the places that the order names. -/
def mvF (o b : List Int) : Nat → Nat → List Int → List Int
  | 0, _, x => x
  | d + 1, i, x => mvF o b d (i + 1) (x.set (rd o (i : Int)).toNat (rd b (i : Int)))
def mvd (o b : List Int) : List Int := mvF o b o.length 0 (List.replicate o.length 0)
theorem mvF_len (o b : List Int) : ∀ (d i : Nat) (x : List Int), (mvF o b d i x).length = x.length
  | 0, _, _ => rfl
  | d + 1, i, x => by
    unfold mvF
    rw [mvF_len o b d (i + 1), List.length_set]
theorem mvd_len (o b : List Int) : (mvd o b).length = o.length := by
  unfold mvd
  rw [mvF_len, List.length_replicate]
theorem ord_rd {o : List Int} {n : Int} (h : Ord o n) {i : Nat} (hi : i < o.length) : 0 ≤ rd o (i : Int) ∧ rd o (i : Int) < n := by
  have := (ord_at h hi).1
  omega
theorem impl_mv {o b : List Int} {n : Int} (h : Ord o n) (hb : (b.length : Int) = n) : ∀ (d i : Nat) (x : List Int), i + d = o.length → (x.length : Int) = n → Ev (fun k => impl_reordered.l0 k x o b (i : Int)) (mvF o b d i x) := by
  have h12 := h.1.2
  have hol := h.2.1
  intro d
  induction d with
  | zero =>
    intro i x hi hx
    exact Ev.step (Ev.neg (by omega) (Ev.val _)) (fun k => impl_reordered.l0.eq_2 ..)
  | succ d ih =>
    intro i x hi hx
    obtain ⟨r0, r1⟩ := ord_rd h (show i < o.length by omega)
    refine Ev.step (Ev.pos (by omega) (Ev.pos (by omega) (Ev.pos (by omega) (Ev.pos r0 (Ev.pos (by omega) ?_))))) (fun k => impl_reordered.l0.eq_2 ..)
    rw [wsucc i (by omega)]
    exact ih (i + 1) _ (by omega) (by rw [List.length_set]; exact hx)
theorem spec_l8value_l0 {vars : Int} {L : List S56} (h : DV vars L) (bits : List Int) (hb : (bits.length : Int) = vars) : ∀ (m : Nat) (n : Int), Pl L n → vars - dvar vars L n < m → Ev (fun k => spec_l8Value.l0 k n bits vars L) (dval vars L bits m n) := by
  intro m
  induction m with
  | zero =>
    intro n p h1
    have := (h.dvar_le p).2
    omega
  | succ m ih =>
    intro n p h1
    have p0 := p.1
    have p1 := p.2
    have hl := h.len
    unfold dval
    by_cases c : n < 2
    · rw [if_pos c]
      exact Ev.step (Ev.neg (by omega) (Ev.val _)) (fun k => spec_l8Value.l0.eq_2 ..)
    · rw [if_neg c]
      have hv := (dvar_two h p).2 c
      have hv0 := (h.dvar_le p).1
      have g0 : (rd_T56 L (n - 2)).f0 = dvar vars L n := (dvar_self c).symm
      have g1 : (rd_T56 L (n - 2)).f1 = gat L n (dvar vars L n) false := by rw [gat_self c]; rfl
      have g2 : (rd_T56 L (n - 2)).f2 = gat L n (dvar vars L n) true := by rw [gat_self c]; rfl
      refine Ev.step ?_ (fun k => spec_l8Value.l0.eq_2 ..)
      rw [w_id (by omega) (by omega), g0, g1, g2]
      refine Ev.pos (by omega) (Ev.pos (by omega) (Ev.pos (by omega) (Ev.pos hv0 (Ev.pos (by omega) ?_))))
      have f := fun hi => gat_ok h p (Int.le_refl _) hv hi
      by_cases cb : rd bits (dvar vars L n) = 1
      · rw [decide_eq_true cb]
        exact Ev.pos cb (ih _ (f true).1 (by have := (f true).2; omega))
      · rw [decide_eq_false cb]
        exact Ev.neg cb (ih _ (f false).1 (by have := (f false).2; omega))
/-! #### a diagram read in another order: the reference and the program -/
/-- The value of place n under the moved bits. -/
def moV (vars : Int) (L : List S56) (n : Int) (o bits : List Int) : Int := dvP vars L (mvd o bits) n
theorem moV_01 {vars n : Int} {L : List S56} {o : List Int} (h : DV vars L) (p : Pl L n) (bits : List Int) : moV vars L n o bits = 0 ∨ moV vars L n o bits = 1 := dvP_01 h _ p
theorem moved_is {vars n : Int} {L : List S56} {o : List Int} (h : DV vars L) (p : Pl L n) (ho : Ord o vars) {bits : List Int} (hl : (bits.length : Int) = vars) : Ev (fun k => impl_reordered.is k vars L n o bits) (moV vars L n o bits == 1) := by
  have h12 := ho.1
  have hol := ho.2.1
  unfold impl_reordered.is
  refine Ev.pos h12.1 (Ev.pos (by omega) ?_)
  have e : vars.toNat = o.length := by omega
  rw [e]
  refine Ev.bind (impl_mv ho hl o.length 0 (List.replicate o.length 0) (by omega) (by rw [List.length_replicate]; exact hol)) (Ev.bind (a := moV vars L n o bits) ?_ (Ev.val _))
  unfold impl_Diagram_value.f
  have hq : ((mvd o bits).length : Int) = vars := by rw [mvd_len]; exact hol
  have a0 := (h.dvar_le p).1
  exact value_l0 h (mvd o bits) hq 13 n p (by have := h.v12; omega)
def ReAsk (vars : Int) (L : List S56) (n : Int) (o : List Int) : Prop := DV vars L ∧ Pl L n ∧ Ord o vars
/-- The diagram of the values in the other order. -/
def reT (vars : Int) (L : List S56) (n : Int) (o : List Int) : DT := madeT (moV vars L n o) vars.toNat []
def ReIs (vars : Int) (L : List S56) (n : Int) (o : List Int) (r : Int × List S56 × Int) : Prop :=
  (ReAsk vars L n o → r = told vars (ins [] (reT vars L n o))) ∧ (¬ ReAsk vars L n o → r = (0, [], -1))
theorem told_len {vars n : Int} {L : List S56} {o : List Int} (h : DV vars L) (p : Pl L n) : (told vars (ins [] (reT vars L n o))).2.1.length ≤ 2000 := by
  have d0 := (h.dvar_le p).1
  have h0 := h.v0
  have this := (dv_ins (dv_nil h0 h.v12) (madeT_ok (dv_nil h0 h.v12) (moV vars L n o) (fun b hb hl => moV_01 h p b) vars.toNat [] (fun x hx => by simp at hx) (by simp; omega))).1.len
  unfold told
  split
  · exact Nat.zero_le _
  · exact this
theorem reIs_ex (vars : Int) (L : List S56) (n : Int) (o : List Int) : ∃ r, ReIs vars L n o r ∧ r.2.1.length ≤ 2000 := by
  by_cases c : ReAsk vars L n o
  · exact ⟨_, ⟨fun _ => rfl, fun h => absurd c h⟩, told_len c.1 c.2.1⟩
  · exact ⟨(0, [], -1), ⟨fun h => absurd h c, fun _ => rfl⟩, Nat.zero_le _⟩
theorem reord_v {vars n : Int} {L : List S56} {o : List Int} (h : DV vars L) (p : Pl L n) (ho : Ord o vars) : Ev (fun k => impl_reordered.f k vars L n o) (told vars (ins [] (reT vars L n o))) := by
  unfold impl_reordered.f
  have h0 := h.v0
  have h12 := h.v12
  obtain ⟨m, rfl⟩ := Int.eq_ofNat_of_zero_le h0
  have dn := dv_nil h0 h12
  have w0 : WInv (m : Int) (fs0 (m : Int) []) := ⟨rfl, rfl, Nat.zero_le _⟩
  obtain ⟨s', q, ⟨K, hK⟩, w1, _, _, _, g⟩ := made_val h12 (fun k => impl_reordered.is k (m : Int) L n o) (moV (m : Int) L n o) (fun b hb hl => ⟨moV_01 h p b, moved_is h p ho hl⟩) m (fs0 (m : Int) []) [] w0 (by simp) (fun x hx => by simp at hx)
  obtain ⟨gn, gy⟩ := g rfl dn
  have gn' : (ins [] (reT (m : Int) L n o)).2 < 0 → s'.full = true := gn
  have gy' : 0 ≤ (ins [] (reT (m : Int) L n o)).2 → s'.full = false ∧ s'.forks = (ins [] (reT (m : Int) L n o)).1 ∧ q = (ins [] (reT (m : Int) L n o)).2 := gy
  have ev : Ev (fun k => impl_forking_made.f k (impl_reordered.is k (m : Int) L n o) (fs0 (m : Int) []) []) (s', q) := ⟨K, fun k hk => hK k k hk hk⟩
  refine Ev.bind (Ev.const (forkingOf_val dn)) (Ev.bind ev (Ev.const ?_))
  show impl_forking_done.f s' q = told (m : Int) (ins [] (reT (m : Int) L n o))
  rw [done_val s' q w1.len]
  unfold told
  by_cases cn : (ins [] (reT (m : Int) L n o)).2 < 0
  · rw [if_pos cn, if_pos (gn' cn)]
  · obtain ⟨z1, z2, z3⟩ := gy' (by omega)
    rw [if_neg cn, if_neg (by rw [z1]; decide), w1.vs, z2, z3]
theorem spec_mv {o b : List Int} {m : Nat} {L : List S56} {n : Int} (h : DV (m : Int) L) (p : Pl L n) (ho : Ord o (m : Int)) (hb : b.length = m) (out : List Int) (hout : out.length < 1000000) (i : Int) (r : Int × List S56 × Int)
    (hr : ∀ t, t = dvP (m : Int) L (mvd o b) n → Ev (fun k => spec_l9Moved.l0 k n o (out ++ [t]) (wrap64 (i + 1)) (m : Int) L) r) : ∀ (d j : Nat) (x : List Int), j + d = m → x.length = m → mvF o b d j x = mvd o b → Ev (fun k => spec_l9Moved.l1 k n o out i b x (j : Int) (m : Int) L) r := by
  have h12 := ho.1.2
  have hol := ho.2.1
  intro d
  induction d with
  | zero =>
    intro j x hj hx e
    have e2 : x = mvd o b := e
    refine Ev.step (Ev.neg (by omega) (Ev.bind (a := dvP (m : Int) L (mvd o b) n) ?_ (Ev.pos (by omega) (hr _ rfl)))) (fun k => spec_l9Moved.l1.eq_2 ..)
    rw [e2]
    unfold spec_l8Value.f
    have a0 := (h.dvar_le p).1
    exact spec_l8value_l0 h (mvd o b) (by rw [mvd_len]; exact hol) 13 n p (by omega)
  | succ d ih =>
    intro j x hj hx e
    obtain ⟨r0, r1⟩ := ord_rd ho (show j < o.length by omega)
    refine Ev.step (Ev.pos (by omega) (Ev.pos (by omega) (Ev.pos (by omega) (Ev.pos (by omega) (Ev.pos r0 (Ev.pos (by omega) ?_)))))) (fun k => spec_l9Moved.l1.eq_2 ..)
    rw [wsucc j (by omega)]
    exact ih (j + 1) _ (by omega) (by rw [List.length_set]; exact hx) e
theorem spec_moved_loop {m : Nat} {L : List S56} {n : Int} {o : List Int} (h : DV (m : Int) L) (p : Pl L n) (ho : Ord o (m : Int)) : ∀ (d i : Nat), i + d = 2 ^ m →
    Ev (fun k => spec_l9Moved.l0 k n o ((List.range i).map (fun j => moV (m : Int) L n o (bitsD ((j : Nat) : Int) m))) (i : Int) (m : Int) L) ((m : Int), (ins [] (reT (m : Int) L n o)).1, (ins [] (reT (m : Int) L n o)).2) := by
  have h12 := h.v12
  have h0 := h.v0
  have hol := ho.2.1
  have hp : (2 : Nat) ^ m ≤ 4096 := Nat.le_trans (Nat.pow_le_pow_right (by decide) (show m ≤ 12 by omega)) (by decide)
  intro d
  induction d with
  | zero =>
    intro i hi
    have hi2 : i = 2 ^ m := by omega
    subst hi2
    refine Ev.step (Ev.pos h0 ?_) (fun k => spec_l9Moved.l0.eq_2 ..)
    rw [shl_pow m (by omega)]
    have ev : (List.range (2 ^ m)).map (fun j => moV (m : Int) L n o (bitsD ((j : Nat) : Int) m)) = allvals (moV (m : Int) L n o) m [] := (allvals_rows (moV (m : Int) L n o) m []).symm
    rw [ev]
    have hb : BitRow (allvals (moV (m : Int) L n o) m []) := by
      rw [← ev]
      intro x hx
      obtain ⟨j, _, rfl⟩ := List.mem_map.mp hx
      exact moV_01 h p _
    have hT := rows_made (moV (m : Int) L n o) m []
    have hr := spec_rows m [] 0 (allvals (moV (m : Int) L n o) m []) (dv_nil h0 h12) (Int.le_refl _) (by omega) (allvals_len _ _ _) hb
    rw [show rowsT m 0 (allvals (moV (m : Int) L n o) m []) = madeT (moV (m : Int) L n o) m [] from hT] at hr
    exact Ev.neg (by omega) (Ev.bind hr (Ev.val _))
  | succ d ih =>
    intro i hi
    refine Ev.step (Ev.pos h0 ?_) (fun k => spec_l9Moved.l0.eq_2 ..)
    rw [shl_pow m (by omega)]
    refine Ev.pos (by omega) (Ev.bind (spec_value (i : Int) (by omega) m (by omega)) (Ev.pos (by omega) ?_))
    have em : m = o.length := by omega
    have hmv : ∀ b, mvF o b m 0 (List.replicate (m : Int).toNat 0) = mvd o b := fun b => by
      rw [Int.toNat_natCast]
      unfold mvd
      rw [← em]
    refine spec_mv h p ho (by rw [bitsD_length]) _ (by simp; omega) _ _ ?_ m 0 _ (by omega) (by rw [List.length_replicate, Int.toNat_natCast]) (hmv _)
    intro t ht
    rw [wsucc i (by omega), ht]
    have e1 : (List.range i).map (fun j => moV (m : Int) L n o (bitsD ((j : Nat) : Int) m)) ++ [dvP (m : Int) L (mvd o (bitsD (i : Int) m)) n] = (List.range (i + 1)).map (fun j => moV (m : Int) L n o (bitsD ((j : Nat) : Int) m)) := by
      rw [List.range_succ, List.map_append]
      rfl
    rw [e1]
    exact ih (i + 1) (by omega)
theorem spec_moved {vars n : Int} {L : List S56} {o : List Int} (h : DV vars L) (p : Pl L n) (ho : Ord o vars) : Ev (fun k => (spec_l9Moved.f k vars L n o).bind fun bt => (spec_l8Told.f bt.1 bt.2.1 bt.2.2).bind fun bt2 => some (bt2.1, bt2.2.1, bt2.2.2)) (told vars (ins [] (reT vars L n o))) := by
  have h0 := h.v0
  obtain ⟨m, rfl⟩ := Int.eq_ofNat_of_zero_le h0
  unfold spec_l9Moved.f
  refine Ev.bind (spec_moved_loop h p ho (2 ^ m) 0 (by omega)) (Ev.bind (a := told (m : Int) (ins [] (reT (m : Int) L n o))) (Ev.const ?_) (Ev.val _))
  unfold spec_l8Told.f told
  by_cases c : (ins [] (reT (m : Int) L n o)).2 < 0
  · rw [if_pos c, if_pos c]
  · rw [if_neg c, if_neg c]
theorem spec_reord {vars n : Int} {L : List S56} {o : List Int} (hlen : o.length ≤ 1048576) {r : Int × List S56 × Int} (h : ReIs vars L n o r) : Ev (fun k => spec_Reordered.f k vars L n o) r := by
  obtain ⟨hy, hn⟩ := h
  unfold spec_Reordered.f
  have e0 : Ev (fun k => spec_Reordered.j0 k n o true vars L) (0, [], -1) := Ev.step (Ev.pos rfl (Ev.val _)) (fun k => spec_Reordered.j0.eq_2 ..)
  obtain ⟨q, hb, h1⟩ := spec_dv vars L
  cases q with
  | false =>
    rw [hn (fun h => by have := h1.2 h.1; (cases this))]
    exact Ev.bind hb (Ev.neg (by decide) e0)
  | true =>
    have hd := h1.1 rfl
    have hl := hd.len
    refine Ev.bind hb (Ev.pos rfl (Ev.bind (Ev.const (place_val L n (by omega))) ?_))
    by_cases c : Pl L n
    · rw [@decide_eq_true _ (decPl L n) c]
      obtain ⟨t, ht1, ht2⟩ := spec_ord o vars hlen
      refine Ev.pos rfl (Ev.bind ht1 ?_)
      cases t with
      | true =>
        rw [hy ⟨hd, c, ht2.1 rfl⟩]
        exact Ev.step (Ev.neg (by decide) (spec_moved hd c (ht2.1 rfl))) (fun k => spec_Reordered.j0.eq_2 ..)
      | false =>
        rw [hn (fun h => by have := ht2.2 h.2.2; (cases this))]
        exact e0
    · rw [@decide_eq_false _ (decPl L n) c, hn (fun h => c h.2.1)]
      exact Ev.neg (by decide) e0
theorem impl_reord {vars n : Int} {L : List S56} {o : List Int} (hlen : o.length ≤ 1048576) {r : Int × List S56 × Int} (h : ReIs vars L n o r) : Ev (fun k => impl_Reordered.f k vars L n o) r := by
  obtain ⟨hy, hn⟩ := h
  unfold impl_Reordered.f
  obtain ⟨q, hb, h1⟩ := impl_dv vars L
  refine Ev.bind (Ev.const hb) ?_
  cases q with
  | false =>
    rw [hn (fun h => by have := h1.2 h.1; (cases this))]
    exact Ev.neg (by decide) (Ev.val _)
  | true =>
    have hd := h1.1 rfl
    have hl := hd.len
    refine Ev.pos rfl (Ev.bind (Ev.const (isPlace_val vars n (by omega))) ?_)
    by_cases c : Pl L n
    · rw [@decide_eq_true _ (decPl L n) c]
      obtain ⟨t, ht1, ht2⟩ := impl_ord o vars hlen
      refine Ev.pos rfl (Ev.bind ht1 ?_)
      cases t with
      | true =>
        rw [hy ⟨hd, c, ht2.1 rfl⟩]
        exact Ev.pos rfl (Ev.bind (reord_v hd c (ht2.1 rfl)) (Ev.val _))
      | false =>
        rw [hn (fun h => by have := ht2.2 h.2.2; (cases this))]
        exact Ev.neg (by decide) (Ev.val _)
    · rw [@decide_eq_false _ (decPl L n) c, hn (fun h => c h.2.1)]
      exact Ev.neg (by decide) (Ev.val _)
/-! #### the law's own copies of diagrams -/
theorem sz_forks (l : List S138) (h : l.length ≤ maxLen) : ∃ z, laws_szForkS.f l 1048576 = some z ∧ (z < 0 ∨ l.length ≤ 1048576) := by
  unfold laws_szForkS.f
  simp only [maxLen] at h
  rw [w_id (by omega) (by omega)]
  by_cases c : 1048576 - (l.length : Int) < 0
  · rw [if_pos c]
    exact ⟨_, rfl, .inl (by decide)⟩
  · rw [if_neg c]
    exact ⟨_, rfl, .inr (by omega)⟩
theorem sz_diagram (a : Int) (l : List S138) (h : l.length ≤ maxLen) : ∃ z, laws_szDiagram.f a l 1048576 = some z ∧ (z < 0 ∨ l.length ≤ 1048576) := by
  obtain ⟨z, h1, h2⟩ := sz_forks l h
  unfold laws_szDiagram.f
  rw [h1, Option.bind_some]
  by_cases c : z < 0
  · rw [if_pos c]
    exact ⟨_, rfl, .inl (by decide)⟩
  · rw [if_neg c]
    exact ⟨_, rfl, h2⟩
theorem wnat (i : Nat) (h : i ≤ 1000000000000) : wrap64 ((i : Int) + 1) = ((i + 1 : Nat) : Int) := by rw [w_id (by omega) (by omega)]; omega
theorem to_forks_loop (l : List S138) (hl : l.length ≤ 1048576) : ∀ (d i : Nat) (ys : List S56), i + d = l.length → ys.length = l.length →
    ∃ r, Ev (fun k => laws_toForkS.l0 k l ys (i : Int)) r ∧ r.length = l.length := by
  intro d
  induction d with
  | zero =>
    intro i ys hi hy
    exact ⟨ys, Ev.step (Ev.neg (by omega) (Ev.val _)) (fun k => laws_toForkS.l0.eq_2 ..), hy⟩
  | succ d ih =>
    intro i ys hi hy
    have hwi := wnat i (by omega)
    obtain ⟨r, hr, hl2⟩ := ih (i + 1) (ys.set i (⟨(rd_T138 l (i : Int)).f0, (rd_T138 l (i : Int)).f1, (rd_T138 l (i : Int)).f2⟩ : S56)) (by omega) (by simpa using hy)
    refine ⟨r, Ev.step ?_ (fun k => laws_toForkS.l0.eq_2 ..), hl2⟩
    rw [hwi, Int.toNat_natCast]
    exact Ev.pos (by omega) (Ev.pos (by omega) (Ev.bind (Ev.const (by unfold laws_toFork.f; rfl)) (Ev.pos (by omega) hr)))
theorem to_diagram (a : Int) (l : List S138) (hl : l.length ≤ 1048576) : ∃ L, Ev (fun k => laws_toDiagram.f k a l) (a, L) ∧ L.length = l.length := by
  obtain ⟨r, hr, hl2⟩ := to_forks_loop l hl l.length 0 (List.replicate l.length z56) (by omega) (by simp)
  refine ⟨r, ?_, hl2⟩
  unfold laws_toDiagram.f
  refine Ev.bind (a := r) ?_ (Ev.val _)
  unfold laws_toForkS.f
  refine Ev.pos (by omega) (Ev.pos (by omega) ?_)
  rw [Int.toNat_natCast]
  exact hr
theorem eq_forks_loop (l : List S56) (hl : l.length ≤ 4611686018427387904) : ∀ (d i : Nat), i + d = l.length → Ev (fun k => laws_eqForkS.l0 k l l (i : Int)) true := by
  intro d
  induction d with
  | zero =>
    intro i hi
    exact Ev.step (Ev.neg (by omega) (Ev.val _)) (fun k => laws_eqForkS.l0.eq_2 ..)
  | succ d ih =>
    intro i hi
    have hwi : wrap64 ((i : Int) + 1) = ((i + 1 : Nat) : Int) := by rw [w_id (by omega) (by omega)]; omega
    refine Ev.step ?_ (fun k => laws_eqForkS.l0.eq_2 ..)
    rw [hwi]
    exact Ev.pos (by omega) (Ev.pos (by omega) (Ev.pos (by omega) (Ev.bind (Ev.const (by unfold laws_eqFork.f; simp)) (Ev.pos rfl (ih (i + 1) (by omega))))))
theorem eq_diagram (a : Int) (l : List S56) (hl : l.length ≤ 4611686018427387904) : Ev (fun k => laws_eqDiagram.f k a l a l) true := by
  unfold laws_eqDiagram.f
  refine Ev.pos rfl (Ev.bind (a := true) ?_ (Ev.pos rfl (Ev.val _)))
  unfold laws_eqForkS.f
  exact Ev.pos rfl (eq_forks_loop l hl l.length 0 (by omega))
theorem rdSetF {L : List S56} {i : Nat} (x : S56) (h : i < L.length) : rd_T56 (L.set i x) (i : Int) = x := by rw [rdF (by simpa using h), List.getElem_set_self]
/-- The numbers that the law writes into forks. -/
def markF (c : Nat) : S56 := ⟨1 + 3 * (c : Int), 2 + 3 * (c : Int), 3 + 3 * (c : Int)⟩
theorem mark_forks_loop (n : Nat) (hn : n ≤ 1048576) : ∀ (d i : Nat) (c : Int) (ys : List S56), i + d = n → ys.length = n → c = 1 + 3 * (i : Int) → (∀ q (h : q < ys.length), q < i → ys[q] = markF q) →
    ∃ zs, Ev (fun k => laws_markForkS.l0 k ys c (i : Int)) (1 + 3 * (n : Int), zs) ∧ zs.length = n ∧ ∀ q (h : q < zs.length), zs[q] = markF q := by
  intro d
  induction d with
  | zero =>
    intro i c ys hi hy hc hq
    have : i = n := by omega
    subst this
    subst hc
    exact ⟨ys, Ev.step (Ev.neg (by omega) (Ev.val _)) (fun k => laws_markForkS.l0.eq_2 ..), hy, fun q h => hq q h (by omega)⟩
  | succ d ih =>
    intro i c ys hi hy hc hq
    have hwi := wnat i (by omega)
    have w1 : wrap64 (c + 1) = c + 1 := w_id (by omega) (by omega)
    have w2 : wrap64 (c + 1 + 1) = c + 1 + 1 := w_id (by omega) (by omega)
    have w3 : wrap64 (c + 1 + 1 + 1) = c + 1 + 1 + 1 := w_id (by omega) (by omega)
    have hil : i < ys.length := by omega
    have key := ih (i + 1) (c + 1 + 1 + 1) (ys.set i (markF i)) (by omega) (by simpa using hy) (by omega) (fun q h hqi => by
      rw [List.length_set] at h
      by_cases e : q = i
      · subst e
        rw [List.getElem_set_self]
      · rw [List.getElem_set_ne (fun e2 => e e2.symm)]
        exact hq q h (by omega))
    obtain ⟨zs, e1, e2, e3⟩ := key
    refine ⟨zs, Ev.step ?_ (fun k => laws_markForkS.l0.eq_2 ..), e2, e3⟩
    simp only [w1, w2, w3, hwi, Int.toNat_natCast, Option.bind_some]
    refine Ev.pos (by omega) (Ev.pos (by omega) ?_)
    have e : ((ys.set i (⟨c, (rd_T56 ys (i : Int)).f1, (rd_T56 ys (i : Int)).f2⟩ : S56)).set i (⟨(rd_T56 (ys.set i (⟨c, (rd_T56 ys (i : Int)).f1, (rd_T56 ys (i : Int)).f2⟩ : S56)) (i : Int)).f0, c + 1, (rd_T56 (ys.set i (⟨c, (rd_T56 ys (i : Int)).f1, (rd_T56 ys (i : Int)).f2⟩ : S56)) (i : Int)).f2⟩ : S56)) = ys.set i ⟨c, c + 1, (rd_T56 ys (i : Int)).f2⟩ := by
      rw [rdSetF _ hil, List.set_set]
    rw [e, rdSetF _ hil, List.set_set]
    have e4 : (⟨c, c + 1, c + 1 + 1⟩ : S56) = markF i := by
      unfold markF
      rw [hc]
      congr 1 <;> omega
    rw [e4]
    exact e1
theorem mark_diagram (a : Int) (l : List S56) (hl : l.length ≤ 1048576) : ∃ zs, Ev (fun k => laws_markDiagram.f k a l 1) (1 + 3 * (l.length : Int), zs) ∧ zs.length = l.length ∧ ∀ q (h : q < zs.length), zs[q] = markF q := by
  obtain ⟨zs, h1, h2, h3⟩ := mark_forks_loop l.length hl l.length 0 1 l (by omega) rfl (by omega) (fun q h hq => absurd hq (by omega))
  refine ⟨zs, ?_, h2, h3⟩
  unfold laws_markDiagram.f
  refine Ev.bind (a := (1 + 3 * (l.length : Int), zs)) ?_ (Ev.val _)
  unfold laws_markForkS.f
  exact h1
theorem held_forks_loop (zs : List S56) (hn : zs.length ≤ 1048576) (hz : ∀ q (h : q < zs.length), zs[q] = markF q) : ∀ (d i : Nat) (c : Int), i + d = zs.length → c = 1 + 3 * (i : Int) → Ev (fun k => laws_heldForkS.l0 k zs c (i : Int)) (1 + 3 * (zs.length : Int)) := by
  intro d
  induction d with
  | zero =>
    intro i c hi hc
    subst hc
    exact Ev.step (Ev.neg (by omega) (Ev.valEq (by omega))) (fun k => laws_heldForkS.l0.eq_2 ..)
  | succ d ih =>
    intro i c hi hc
    have hwi := wnat i (by omega)
    have w1 : wrap64 (c + 1) = c + 1 := w_id (by omega) (by omega)
    have w2 : wrap64 (c + 1 + 1) = c + 1 + 1 := w_id (by omega) (by omega)
    have w3 : wrap64 (c + 1 + 1 + 1) = c + 1 + 1 + 1 := w_id (by omega) (by omega)
    have hil : i < zs.length := by omega
    refine Ev.step ?_ (fun k => laws_heldForkS.l0.eq_2 ..)
    simp only [w1, w2, w3, hwi]
    rw [rdF hil, hz i hil]
    exact Ev.pos (by omega) (Ev.pos (by omega) (Ev.pos (by unfold markF; simp only; omega) (Ev.pos (by unfold markF; simp only; omega) (Ev.pos (by unfold markF; simp only; omega) (ih (i + 1) _ (by omega) (by omega))))))
theorem held_diagram (a : Int) (zs : List S56) (hn : zs.length ≤ 1048576) (hz : ∀ q (h : q < zs.length), zs[q] = markF q) : Ev (fun k => laws_heldDiagram.f k a zs 1) (1 + 3 * (zs.length : Int)) := by
  unfold laws_heldDiagram.f
  refine Ev.bind (a := 1 + 3 * (zs.length : Int)) ?_ (Ev.neg (by omega) (Ev.val _))
  unfold laws_heldForkS.f
  exact held_forks_loop zs hn hz zs.length 0 1 (by omega) (by omega)
/-- The copy up to i. -/
theorem to_ints_loop (l : List Int) (hl : l.length ≤ 1048576) : ∀ (d i : Nat) (ys : List Int), i + d = l.length → ys.length = l.length → (∀ j : Nat, j < i → rd ys (j : Int) = rd l (j : Int)) →
    Ev (fun k => laws_toIntS.l0 k l ys (i : Int)) l := by
  intro d
  induction d with
  | zero =>
    intro i ys hi hy h
    refine Ev.step (Ev.neg (by omega) (Ev.valEq ?_)) (fun k => laws_toIntS.l0.eq_2 ..)
    exact list_eq_rd hy (fun j hj => h j (by omega))
  | succ d ih =>
    intro i ys hi hy h
    have hwi := wsucc i (by omega)
    refine Ev.step (Ev.pos (by omega) (Ev.pos (by omega) (Ev.pos (by omega) ?_))) (fun k => laws_toIntS.l0.eq_2 ..)
    rw [hwi, Int.toNat_natCast]
    refine ih (i + 1) _ (by omega) (by simpa using hy) ?_
    intro j hj
    by_cases e : j = i
    · subst e
      rw [rd_set_eq (by omega)]
    · rw [rd_set_ne (by omega)]
      exact h j (by omega)
theorem to_ints (l : List Int) (hl : l.length ≤ 1048576) : Ev (fun k => laws_toIntS.f k l) l := by
  unfold laws_toIntS.f
  rw [Int.toNat_natCast]
  exact Ev.pos (by omega) (Ev.pos (by omega) (to_ints_loop l hl l.length 0 _ (by omega) (by simp) (fun j hj => by omega)))
theorem eq_ints_loop (l : List Int) (hl : l.length ≤ 1048576) : ∀ (d i : Nat), i + d = l.length → Ev (fun k => laws_eqIntS.l0 k l l (i : Int)) true := by
  intro d
  induction d with
  | zero =>
    intro i hi
    exact Ev.step (Ev.neg (by omega) (Ev.val _)) (fun k => laws_eqIntS.l0.eq_2 ..)
  | succ d ih =>
    intro i hi
    have hwi := wsucc i (by omega)
    refine Ev.step ?_ (fun k => laws_eqIntS.l0.eq_2 ..)
    rw [hwi]
    exact Ev.pos (by omega) (Ev.pos (by omega) (Ev.pos (by omega) (Ev.pos rfl (ih (i + 1) (by omega)))))
theorem eq_ints (l : List Int) (hl : l.length ≤ 1048576) : Ev (fun k => laws_eqIntS.f k l l) true := by
  unfold laws_eqIntS.f
  exact Ev.pos rfl (eq_ints_loop l hl l.length 0 (by omega))
theorem mark_any_loop (n : Nat) (hn : n ≤ 1048576) (a : Int) (ha : 0 ≤ a) (ha2 : a ≤ 4611686018427387904) : ∀ (d i : Nat) (ys : List Int), i + d = n → ys.length = n →
    ∃ zs : List Int, zs.length = n ∧ Ev (fun k => laws_markIntS.l0 k ys (a + (i : Int)) (i : Int)) (a + (n : Int), zs) := by
  intro d
  induction d with
  | zero =>
    intro i ys hi hy
    have : i = n := by omega
    subst this
    exact ⟨ys, hy, Ev.step (Ev.neg (by omega) (Ev.val _)) (fun k => laws_markIntS.l0.eq_2 ..)⟩
  | succ d ih =>
    intro i ys hi hy
    have hwi := wsucc i (by omega)
    have hw : wrap64 (a + (i : Int) + 1) = a + ((i + 1 : Nat) : Int) := by
      rw [w_id (by omega) (by omega)]
      omega
    obtain ⟨zs, h1, h3⟩ := ih (i + 1) (ys.set i (a + (i : Int))) (by omega) (by simpa using hy)
    refine ⟨zs, h1, Ev.step ?_ (fun k => laws_markIntS.l0.eq_2 ..)⟩
    rw [hwi, hw, Int.toNat_natCast]
    exact Ev.pos (by omega) (Ev.pos (by omega) h3)
theorem mark_any (l : List Int) (hl : l.length ≤ 1048576) (a : Int) (ha : 0 ≤ a) (ha2 : a ≤ 4611686018427387904) : ∃ zs : List Int, zs.length = l.length ∧ Ev (fun k => laws_markIntS.f k l a) (a + (l.length : Int), zs) := by
  obtain ⟨zs, h1, h2⟩ := mark_any_loop l.length hl a ha ha2 l.length 0 l (by omega) rfl
  refine ⟨zs, h1, ?_⟩
  have e : a + ((0 : Nat) : Int) = a := by omega
  rw [e] at h2
  exact h2

theorem FnExactReordered : laws_FnExactReordered.Pure := by
  intro a0 l0 a1 o _ hl _ _
  apply Ev.get
  unfold laws_FnExactReordered.f
  by_cases co : (o.length : Int) > 1048576
  · exact Ev.pos co (Ev.val _)
  refine Ev.neg co ?_
  have ho : o.length ≤ 1048576 := by omega
  obtain ⟨z, hz1, hz2⟩ := sz_diagram a0 l0 hl.1
  refine Ev.bind (Ev.const hz1) ?_
  by_cases c : z < 0
  · exact Ev.pos c (Ev.val _)
  refine Ev.neg c ?_
  have hl0 : l0.length ≤ 1048576 := by omega
  obtain ⟨L, hL, hLl⟩ := to_diagram a0 l0 hl0
  have hO := to_ints o ho
  obtain ⟨⟨r1, R, r3⟩, ht, hR⟩ := reIs_ex a0 L a1 o
  have hs : Ev (fun k => spec_Reordered.f k a0 L a1 o) (r1, R, r3) := spec_reord ho ht
  have hi : Ev (fun k => impl_Reordered.f k a0 L a1 o) (r1, R, r3) := impl_reord ho ht
  have hR2 : R.length ≤ 2000 := hR
  obtain ⟨zs, hm, hml, _⟩ := mark_diagram a0 L (by omega)
  obtain ⟨os, _, hmo⟩ := mark_any o ho (1 + 3 * (L.length : Int)) (by omega) (by omega)
  obtain ⟨ys, hn, hnl, hny⟩ := mark_diagram r1 R (by omega)
  have hh := held_diagram r1 ys (by omega) hny
  rw [hnl] at hh
  have j2 : Ev (fun k => laws_FnExactReordered.j2 k (1 + 3 * (R.length : Int)) (r3 != r3) r1 ys) true := by
    refine Ev.step (Ev.neg (by simp) (Ev.bind hh (Ev.neg (by omega) (Ev.pos rfl (Ev.val _))))) (fun k => laws_FnExactReordered.j2.eq_2 ..)
  have j1 : Ev (fun k => laws_FnExactReordered.j1 k a1 o r3 (r3 != r3) a0 l0 r1 R r1 R) true :=
    Ev.step (Ev.neg (by simp) (Ev.bind hn (Ev.bind hh (Ev.neg (by omega) (Ev.pos rfl (Ev.bind hL (Ev.bind hO (Ev.bind hi (Ev.bind (eq_diagram r1 R (by omega)) (Ev.pos rfl j2)))))))))) (fun k => laws_FnExactReordered.j1.eq_2 ..)
  have j0 : Ev (fun k => laws_FnExactReordered.j0 k a1 o r3 o r3 (r3 != r3) a0 l0 r1 R a0 L r1 R) true :=
    Ev.step (Ev.neg (by simp) (Ev.bind hL (Ev.bind (eq_diagram a0 L (by omega)) (Ev.pos rfl (Ev.bind hO (Ev.bind (eq_ints o (by omega)) (Ev.pos rfl (Ev.bind hm (Ev.bind hmo (Ev.neg (by simp only; omega) (Ev.bind (eq_diagram r1 R (by omega)) (Ev.pos rfl j1)))))))))))) (fun k => laws_FnExactReordered.j0.eq_2 ..)
  exact Ev.bind hL (Ev.bind hO (Ev.bind hs (Ev.bind hL (Ev.bind hO (Ev.bind hi (Ev.bind (eq_diagram r1 R (by omega)) (Ev.pos rfl j0)))))))

end Go.Proofs.Ytpcckoljocpchaa.Pure
