/- FnExactDiagramOf: the program's diagram of an edge is the reference's, whatever is handed in, and keeps none of what was handed in. -/
import Derived.Test.YtpcompnmadpljaaQFnExactDiagramOfx9
namespace Go.Proofs.Ytpcompnmadpljaa.Pure
open Go.RowKit Go.Proofs.Ytpcompnmadpljaa.QFnExactDiagramOf Go.Proofs.YtpcompnmadpljaaW.PrintWords Go.Proofs.YtpcompnmadpljaaW.PrintLast Go.Proofs.YtpcompnmadpljaaW.PrintMore
set_option linter.unusedVariables false
set_option linter.unusedSimpArgs false

/-! #### rounds -/
/-- From some number of rounds on, g tells r. -/
def Ev {α : Type} (g : Nat → Option α) (r : α) : Prop := ∃ K, ∀ k, K ≤ k → g k = some r
theorem Ev.val {α : Type} (r : α) : Ev (fun _ => some r) r := ⟨0, fun _ _ => rfl⟩
theorem Ev.valEq {α : Type} {r r' : α} (h : r = r') : Ev (fun _ => some r) r' := ⟨0, fun _ _ => by rw [h]⟩
theorem Ev.const {α : Type} {g : Option α} {r : α} (h : g = some r) : Ev (fun _ => g) r := ⟨0, fun _ _ => h⟩
theorem Ev.bind {α β : Type} {g : Nat → Option α} {f : Nat → α → Option β} {a : α} {b : β} (h : Ev g a) (h2 : Ev (fun k => f k a) b) : Ev (fun k => (g k).bind (f k)) b := by
  obtain ⟨K, hK⟩ := h
  obtain ⟨L, hL⟩ := h2
  exact ⟨max K L, fun k hk => by show (g k).bind (f k) = _; rw [hK k (by omega)]; exact hL k (by omega)⟩
theorem Ev.step {α : Type} {g g' : Nat → Option α} {r : α} (h : Ev g' r) (e : ∀ k, g (k + 1) = g' k) : Ev g r := by
  obtain ⟨K, hK⟩ := h
  exact ⟨K + 1, fun k hk => by
    obtain ⟨m, rfl⟩ : ∃ m, k = m + 1 := ⟨k - 1, by omega⟩
    rw [e]
    exact hK m (by omega)⟩
theorem Ev.pos {α : Type} {c : Prop} [Decidable c] {g g' : Nat → Option α} {r : α} (hc : c) (h : Ev g r) : Ev (fun k => if c then g k else g' k) r := by
  obtain ⟨K, hK⟩ := h
  exact ⟨K, fun k hk => by simp only [if_pos hc]; exact hK k hk⟩
theorem Ev.neg {α : Type} {c : Prop} [Decidable c] {g g' : Nat → Option α} {r : α} (hc : ¬ c) (h : Ev g' r) : Ev (fun k => if c then g k else g' k) r := by
  obtain ⟨K, hK⟩ := h
  exact ⟨K, fun k hk => by simp only [if_neg hc]; exact hK k hk⟩
theorem Ev.get {α : Type} {g : Nat → Option α} {r : α} (h : Ev g r) : ∃ k, g k = some r := by
  obtain ⟨K, hK⟩ := h
  exact ⟨K, hK K (Nat.le_refl _)⟩
theorem Ev.to {α : Type} {g : Nat → Option α} {r r' : α} (h : Ev g r) (e : r = r') : Ev g r' := e ▸ h
/-! #### numbers -/
theorem w_id {x : Int} (h0 : -9223372036854775808 ≤ x) (h1 : x ≤ 9223372036854775807) : wrap64 x = x := by
  unfold wrap64
  omega
/-! #### lists -/
theorem rd_nat (l : List Int) (i : Nat) : rd l (i : Int) = l.getD i 0 := by
  unfold rd
  rw [Int.toNat_natCast]
theorem getD_lt {α : Type} {l : List α} {i : Nat} (h : i < l.length) (d : α) : l.getD i d = l[i] := by
  rw [List.getD_eq_getElem?_getD, List.getElem?_eq_getElem h]
  rfl
theorem rd_lt {l : List Int} {i : Nat} (h : i < l.length) : rd l (i : Int) = l[i] := by rw [rd_nat, getD_lt h]
theorem wsucc (i : Nat) (h : i ≤ 4611686018427387904) : wrap64 ((i : Int) + 1) = ((i + 1 : Nat) : Int) := by
  unfold wrap64
  omega
/-! #### diagrams, plainly: forks that are added once -/
/-- A tree of decisions over places. -/
inductive DT where
  | leaf (n : Int)
  | fork (v : Int) (lo hi : DT)
def dfind (L : List S71) (x : S71) : Option Nat := L.findIdx? (fun y => decide (y = x))
def dadd (L : List S71) (v lo hi : Int) : List S71 × Int :=
  if lo < 0 ∨ hi < 0 then (L, -1) else if lo = hi then (L, lo) else
  match dfind L ⟨v, lo, hi⟩ with
  | some i => (L, (i : Int) + 2)
  | none => if 2000 ≤ L.length then (L, -1) else (L ++ [⟨v, lo, hi⟩], (L.length : Int) + 2)
def ins (L : List S71) : DT → List S71 × Int
  | .leaf n => (L, n)
  | .fork v lo hi => if (ins L lo).2 < 0 then (L, -1) else dadd (ins (ins L lo).1 hi).1 v (ins L lo).2 (ins (ins L lo).1 hi).2
theorem dfind_some {L : List S71} {x : S71} {i : Nat} (h : dfind L x = some i) : L[i]? = some x := by
  unfold dfind at h
  rw [List.findIdx?_eq_some_iff_getElem] at h
  obtain ⟨hi, h1, _⟩ := h
  rw [List.getElem?_eq_getElem hi]
  exact congrArg some (of_decide_eq_true h1)
theorem dfind_none {L : List S71} {x : S71} (h : dfind L x = none) : x ∉ L := by
  unfold dfind at h
  rw [List.findIdx?_eq_none_iff] at h
  intro hx
  have := h x hx
  simp at this
theorem dfind_append {L : List S71} {x : S71} {i : Nat} (h : dfind L x = some i) (t : List S71) : dfind (L ++ t) x = some i := by
  unfold dfind at h ⊢
  rw [List.findIdx?_append, h]
  rfl
theorem dfind_new {L : List S71} {x : S71} (h : dfind L x = none) (t : List S71) : dfind (L ++ x :: t) x = some L.length := by
  unfold dfind at h ⊢
  rw [List.findIdx?_append, h, List.findIdx?_cons]
  simp
def NoDup (L : List S71) : Prop := ∀ (i : Nat) x, L[i]? = some x → x ∉ L.take i
theorem neg1 {a : List S71} (h : 0 ≤ (a, (-1 : Int)).2) : False := absurd (show (0 : Int) ≤ -1 from h) (by decide)
theorem dadd_ext (L : List S71) (v lo hi : Int) : L <+: (dadd L v lo hi).1 := by
  unfold dadd
  split
  · exact List.prefix_refl _
  split
  · exact List.prefix_refl _
  split
  · exact List.prefix_refl _
  split
  · exact List.prefix_refl _
  · exact List.prefix_append _ _
theorem ins_ext (L : List S71) (t : DT) : L <+: (ins L t).1 := by
  induction t generalizing L with
  | leaf n => exact List.prefix_refl _
  | fork v lo hi ihl ihh =>
    unfold ins
    split
    · exact List.prefix_refl _
    · exact (ihl L).trans ((ihh _).trans (dadd_ext _ _ _ _))
/-- The variable of a place; c at constants. -/
def dvar (c : Int) (L : List S71) (n : Int) : Int := if n < 2 then c else (L.getD (n - 2).toNat ⟨0, 0, 0⟩).f0
def Pl (L : List S71) (n : Int) : Prop := 0 ≤ n ∧ n ≤ (L.length : Int) + 1
structure DV (vars : Int) (L : List S71) : Prop where
  v0 : 0 ≤ vars
  v12 : vars ≤ 12
  len : L.length ≤ 2000
  nd : NoDup L
  ok : ∀ (i : Nat) x, L[i]? = some x → 0 ≤ x.f0 ∧ x.f0 < vars ∧ 0 ≤ x.f1 ∧ x.f1 ≤ (i : Int) + 1 ∧ 0 ≤ x.f2 ∧ x.f2 ≤ (i : Int) + 1 ∧ x.f1 ≠ x.f2 ∧ x.f0 < dvar vars L x.f1 ∧ x.f0 < dvar vars L x.f2
theorem Pl.ext {L L2 : List S71} {n : Int} (h : Pl L n) (he : L <+: L2) : Pl L2 n := ⟨h.1, by have := he.length_le; have := h.2; omega⟩
theorem getD_ext {L L2 : List S71} (he : L <+: L2) {i : Nat} (h : i < L.length) (z : S71) : L2.getD i z = L.getD i z := by
  obtain ⟨t, rfl⟩ := he
  rw [List.getD_eq_getElem?_getD, List.getD_eq_getElem?_getD, List.getElem?_append_left h]
theorem dvar_ext {c : Int} {L L2 : List S71} {n : Int} (h : Pl L n) (he : L <+: L2) : dvar c L2 n = dvar c L n := by
  unfold dvar
  by_cases h2 : n < 2
  · rw [if_pos h2, if_pos h2]
  · rw [if_neg h2, if_neg h2, getD_ext he (by have := h.2; omega)]
theorem dv_dadd {vars : Int} {L : List S71} (h : DV vars L) {v lo hi : Int} (hl : Pl L lo) (hh : Pl L hi) (v0 : 0 ≤ v) (v1 : v < vars) (hvl : v < dvar vars L lo) (hvh : v < dvar vars L hi) :
    DV vars (dadd L v lo hi).1 ∧ (0 ≤ (dadd L v lo hi).2 → Pl (dadd L v lo hi).1 (dadd L v lo hi).2 ∧ v ≤ dvar vars (dadd L v lo hi).1 (dadd L v lo hi).2) := by
  unfold dadd
  by_cases c1 : lo < 0 ∨ hi < 0
  · rw [if_pos c1]
    exact ⟨h, fun hn => (neg1 hn).elim⟩
  rw [if_neg c1]
  by_cases c2 : lo = hi
  · rw [if_pos c2]
    exact ⟨h, fun _ => ⟨hl, Int.le_of_lt hvl⟩⟩
  rw [if_neg c2]
  cases hf : dfind L ⟨v, lo, hi⟩ with
  | some i =>
    have hx := dfind_some hf
    obtain ⟨hi, _⟩ := List.getElem?_eq_some_iff.1 hx
    have hp : Pl L ((i : Int) + 2) := ⟨by omega, by omega⟩
    refine ⟨h, fun _ => ⟨hp, ?_⟩⟩
    show v ≤ dvar vars L ((i : Int) + 2)
    unfold dvar
    rw [if_neg (by omega), show ((i : Int) + 2 - 2).toNat = i by omega, List.getD_eq_getElem?_getD, hx]
    exact Int.le_refl _
  | none =>
    simp only
    by_cases c3 : 2000 ≤ L.length
    · rw [if_pos c3]
      exact ⟨h, fun hn => (neg1 hn).elim⟩
    rw [if_neg c3]
    have he : L <+: L ++ [⟨v, lo, hi⟩] := List.prefix_append _ _
    refine ⟨⟨h.v0, h.v12, by simp; omega, ?_, ?_⟩, fun _ => ⟨⟨by simp; omega, by simp; omega⟩, ?_⟩⟩
    · intro i x hx hm
      by_cases hil : i < L.length
      · rw [List.getElem?_append_left hil] at hx
        rw [List.take_append_of_le_length (by omega)] at hm
        exact h.nd i x hx hm
      · have hil : i = L.length := by
          have := (List.getElem?_eq_some_iff.1 hx).1
          simp at this
          omega
        subst hil
        have ex : x = ⟨v, lo, hi⟩ := by simpa using hx.symm
        subst ex
        rw [List.take_append_of_le_length (Nat.le_refl _), List.take_length] at hm
        exact dfind_none hf hm
    · intro i x hx
      by_cases hil : i < L.length
      · rw [List.getElem?_append_left hil] at hx
        obtain ⟨a1, a2, a3, a4, a5, a6, a7, a8, a9⟩ := h.ok _ _ hx
        have p1 : Pl L x.f1 := ⟨a3, by omega⟩
        have p2 : Pl L x.f2 := ⟨a5, by omega⟩
        rw [dvar_ext p1 he, dvar_ext p2 he]
        exact ⟨a1, a2, a3, a4, a5, a6, a7, a8, a9⟩
      · have hil : i = L.length := by
          have := (List.getElem?_eq_some_iff.1 hx).1
          simp at this
          omega
        subst hil
        have ex : x = ⟨v, lo, hi⟩ := by simpa using hx.symm
        subst ex
        refine ⟨v0, v1, hl.1, hl.2, hh.1, hh.2, c2, ?_, ?_⟩
        · rw [dvar_ext hl he]
          exact hvl
        · rw [dvar_ext hh he]
          exact hvh
    · show v ≤ dvar vars _ ((L.length : Int) + 2)
      unfold dvar
      rw [if_neg (by omega), show ((L.length : Int) + 2 - 2).toNat = L.length by omega, List.getD_eq_getElem?_getD]
      simp
/-- A tree whose leaves are places, its variables from m on, ascending. -/
def TOk (vars : Int) (L : List S71) : Int → DT → Prop
  | m, .leaf n => Pl L n ∧ m ≤ dvar vars L n
  | m, .fork v lo hi => m ≤ v ∧ 0 ≤ v ∧ v < vars ∧ TOk vars L (v + 1) lo ∧ TOk vars L (v + 1) hi
theorem TOk.ext {vars : Int} {L L2 : List S71} (he : L <+: L2) {t : DT} : ∀ {m : Int}, TOk vars L m t → TOk vars L2 m t := by
  induction t with
  | leaf n =>
    intro m h
    exact ⟨h.1.ext he, by rw [dvar_ext h.1 he]; exact h.2⟩
  | fork v lo hi ihl ihh =>
    intro m h
    exact ⟨h.1, h.2.1, h.2.2.1, ihl h.2.2.2.1, ihh h.2.2.2.2⟩
theorem dv_ins {vars : Int} {t : DT} : ∀ {L : List S71} {m : Int}, DV vars L → TOk vars L m t → DV vars (ins L t).1 ∧ (0 ≤ (ins L t).2 → Pl (ins L t).1 (ins L t).2 ∧ m ≤ dvar vars (ins L t).1 (ins L t).2) := by
  induction t with
  | leaf n =>
    intro L m h ht
    exact ⟨h, fun _ => ht⟩
  | fork v lo hi ihl ihh =>
    intro L m h ht
    obtain ⟨t1, t2, t3, t4, t5⟩ := ht
    unfold ins
    by_cases c : (ins L lo).2 < 0
    · rw [if_pos c]
      exact ⟨h, fun hn => (neg1 hn).elim⟩
    rw [if_neg c]
    obtain ⟨d1, p1⟩ := ihl h t4
    obtain ⟨p1, q1⟩ := p1 (by omega)
    obtain ⟨d2, p2⟩ := ihh d1 (t5.ext (ins_ext _ _))
    by_cases c2 : (ins (ins L lo).1 hi).2 < 0
    · have : dadd (ins (ins L lo).1 hi).1 v (ins L lo).2 (ins (ins L lo).1 hi).2 = ((ins (ins L lo).1 hi).1, -1) := by
        unfold dadd
        rw [if_pos (.inr c2)]
      rw [this]
      exact ⟨d2, fun hn => (neg1 hn).elim⟩
    obtain ⟨p2, q2⟩ := p2 (by omega)
    have he := ins_ext (ins L lo).1 hi
    obtain ⟨r1, r2⟩ := dv_dadd d2 (p1.ext he) p2 t2 t3 (by rw [dvar_ext p1 he]; omega) (by omega)
    exact ⟨r1, fun hn => ⟨(r2 hn).1, Int.le_trans t1 (r2 hn).2⟩⟩
/-! #### the reference's diagrams -/
theorem l1In_val (a b c : Int) : spec_l1In.f a b c = some (decide (b ≤ a ∧ a ≤ c)) := by
  unfold spec_l1In.f
  by_cases h : a ≥ b
  · rw [if_pos h]
    congr 1
    rw [decide_eq_decide]
    constructor
    · intro h2; exact ⟨h, h2⟩
    · intro h2; exact h2.2
  · rw [if_neg h]
    congr 1
    symm
    rw [decide_eq_false_iff_not]
    intro h2
    exact h h2.1
theorem rdF {L : List S71} {i : Nat} (h : i < L.length) : rd_T71 L (i : Int) = L[i] := by
  unfold rd_T71
  rw [Int.toNat_natCast, List.getD_eq_getElem?_getD, List.getElem?_eq_getElem h]
  rfl
theorem dfind_no {L : List S71} {x : S71} (hn : ∀ q (hq : q < L.length), L[q] ≠ x) : dfind L x = none := by
  unfold dfind
  rw [List.findIdx?_eq_none_iff]
  intro y hy
  obtain ⟨q, hq, rfl⟩ := List.mem_iff_getElem.1 hy
  simpa using hn q hq
/-! #### the program's diagrams -/
theorem in_val (a b c : Int) : impl_in.f a b c = some (decide (b ≤ a ∧ a ≤ c)) := by
  unfold impl_in.f
  by_cases h : a ≥ b
  · rw [if_pos h]
    congr 1
    rw [decide_eq_decide]
    constructor
    · intro h2; exact ⟨h, h2⟩
    · intro h2; exact h2.2
  · rw [if_neg h]
    congr 1
    symm
    rw [decide_eq_false_iff_not]
    intro h2
    exact h h2.1
theorem keyI {n : Int} (h : 0 ≤ n) (h2 : n ≤ 1000000000) : KeyI n := ⟨h, by omega⟩
/-- Where each fork stands. -/
def seenP (L : List S71) (x : S71) : Option Int := (dfind L x).map (fun i => (i : Int) + 2)
theorem seen_take {L : List S71} (hn : NoDup L) : ∀ i, i ≤ L.length → impl_forkingOf.seen L i = seenP (L.take i) := by
  intro i
  induction i with
  | zero =>
    intro _
    funext x
    rfl
  | succ i ih =>
    intro hi
    have hil : i < L.length := by omega
    funext x
    show (if x = rd_T71 L (i : Int) then some ((i : Int) + 2) else impl_forkingOf.seen L i x) = _
    rw [rdF hil, ih (by omega)]
    have e : L.take (i + 1) = L.take i ++ [L[i]] := by
      rw [List.take_add_one, List.getElem?_eq_getElem hil]
      rfl
    have hlen : (L.take i).length = i := by rw [List.length_take]; omega
    have hno : dfind (L.take i) L[i] = none := by
      cases hd : dfind (L.take i) L[i] with
      | none => rfl
      | some j =>
        have := dfind_some hd
        exact absurd (List.mem_of_getElem? this) (hn i _ (List.getElem?_eq_getElem hil))
    unfold seenP
    rw [e]
    by_cases c : x = L[i]
    · rw [if_pos c, c, dfind_new hno []]
      simp [hlen]
    · rw [if_neg c]
      cases hd : dfind (L.take i) x with
      | some j => rw [dfind_append hd]
      | none =>
        have : dfind (L.take i ++ [L[i]]) x = none := dfind_no (fun q hq e2 => by
          by_cases hqi : q < (L.take i).length
          · rw [List.getElem_append_left hqi] at e2
            exact dfind_none hd (e2 ▸ List.getElem_mem hqi)
          · have hq' : q = (L.take i).length := by
              have := hq
              rw [List.length_append, List.length_singleton] at this
              omega
            subst hq'
            rw [List.getElem_append_right (Nat.le_refl _)] at e2
            simp at e2
            exact c e2.symm)
        rw [this]
theorem okF_of {vars : Int} {L : List S71} (h : DV vars L) {x : S71} (hx : x ∈ L) : okF x := by
  obtain ⟨i, hi⟩ := List.mem_iff_getElem?.1 hx
  obtain ⟨a1, a2, a3, a4, a5, a6, _⟩ := h.ok i x hi
  have := h.v12
  have := (List.getElem?_eq_some_iff.1 hi).1
  have := h.len
  exact ⟨keyI a1 (by omega), keyI a3 (by omega), keyI a5 (by omega)⟩
/-- A diagram that grows, as the program holds it: nothing is done with it yet that is not so. -/
def fs0 (vars : Int) (L : List S71) : FS := ⟨vars, L, seenP L, false, fun _ => none⟩
theorem clone_val (L : List S71) (h : L.length ≤ 1000000000) : impl_Fork_97.f L = some L := by
  unfold impl_Fork_97.f
  simp only [Option.bind_some, List.length_nil, List.nil_append]
  rw [if_pos (by omega)]
theorem clone2_val (L : List S71) (h : L.length ≤ 1000000000) : impl_Fork_98.f L = some L := by
  unfold impl_Fork_98.f
  rw [if_pos (by omega)]
theorem forkingOf_val {vars : Int} {L : List S71} (h : DV vars L) : impl_forkingOf.f vars L = some (fs0 vars L) := by
  unfold impl_forkingOf.f
  rw [clone_val L (by have := h.len; omega), Option.bind_some, if_pos (fun x hx => okF_of h hx), seen_take h.nd _ (Nat.le_refl _), List.take_length]
  rfl
theorem fork_val (s : FS) (v lo hi : Int) (hk : okF ⟨v, lo, hi⟩) (hlo : 0 ≤ lo) (hhi : 0 ≤ hi) (hs : s.seen = seenP s.forks) :
    ∃ s' r, impl_forking_fork.f s v lo hi = some (s', r) ∧ s'.vars = s.vars ∧ s'.memo = s.memo ∧ s'.seen = seenP s'.forks ∧ s'.forks = (dadd s.forks v lo hi).1 ∧ (if (dadd s.forks v lo hi).2 < 0 then s'.full = true ∧ r = 0 else s'.full = s.full ∧ r = (dadd s.forks v lo hi).2) := by
  unfold impl_forking_fork.f dadd
  rw [if_neg (show ¬ (lo < 0 ∨ hi < 0) by omega)]
  by_cases c1 : lo = hi
  · rw [if_pos c1, if_pos c1]
    exact ⟨s, lo, rfl, rfl, rfl, hs, rfl, by rw [if_neg (by omega)]; exact ⟨rfl, rfl⟩⟩
  rw [if_neg c1, if_neg c1, if_pos hk, hs]
  cases hd : dfind s.forks ⟨v, lo, hi⟩ with
  | some i =>
    have e : seenP s.forks ⟨v, lo, hi⟩ = some ((i : Int) + 2) := by unfold seenP; rw [hd]; rfl
    rw [e]
    exact ⟨s, _, rfl, rfl, rfl, hs, rfl, by rw [if_neg (by show ¬ ((_ : Nat) : Int) + 2 < 0; omega)]; exact ⟨rfl, rfl⟩⟩
  | none =>
    have e : seenP s.forks ⟨v, lo, hi⟩ = none := by unfold seenP; rw [hd]; rfl
    rw [e]
    by_cases c2 : 2000 ≤ s.forks.length
    · simp only
      rw [if_pos (by omega), if_pos c2]
      exact ⟨_, _, rfl, rfl, rfl, rfl, rfl, by rw [if_pos (show (-1 : Int) < 0 by decide)]; exact ⟨rfl, rfl⟩⟩
    · simp only
      rw [if_neg (by omega), if_neg c2]
      refine ⟨_, _, rfl, rfl, rfl, ?_, rfl, by rw [if_neg (by show ¬ ((_ : Nat) : Int) + 2 < 0; omega)]; exact ⟨rfl, rfl⟩⟩
      funext y
      show (if y = ⟨v, lo, hi⟩ then some ((s.forks.length : Int) + 2) else seenP s.forks y) = seenP (s.forks ++ [⟨v, lo, hi⟩]) y
      unfold seenP
      by_cases c : y = ⟨v, lo, hi⟩
      · rw [if_pos c, c, dfind_new hd []]
        rfl
      · rw [if_neg c]
        cases hy : dfind s.forks y with
        | some j => rw [dfind_append hy]
        | none =>
          have : dfind (s.forks ++ [⟨v, lo, hi⟩]) y = none := dfind_no (fun q hq e2 => by
            by_cases hqi : q < s.forks.length
            · rw [List.getElem_append_left hqi] at e2
              exact dfind_none hy (e2 ▸ List.getElem_mem hqi)
            · have hq' : q = s.forks.length := by
                have := hq
                rw [List.length_append, List.length_singleton] at this
                omega
              subst hq'
              rw [List.getElem_append_right (Nat.le_refl _)] at e2
              simp at e2
              exact c e2.symm)
          rw [this]
theorem done_val (s : FS) (n : Int) (hl : s.forks.length ≤ 2000) : impl_forking_done.f s n = some (if s.full = true then (0, [], -1) else (s.vars, s.forks, n)) := by
  unfold impl_forking_done.f
  by_cases c : s.full = true
  · rw [if_pos c, if_pos c]
  · rw [if_neg c, if_neg c, clone2_val _ (by omega)]
    rfl
/-- A diagram and a place, or nothing and -1. -/
def told (vars : Int) (p : List S71 × Int) : Int × List S71 × Int := if p.2 < 0 then (0, [], -1) else (vars, p.1, p.2)
/-! #### what is done with two places: the reference and the program -/
theorem add_val (vars v lo hi : Int) (L : List S71) (hl : L.length ≤ 2000) : spec_l8Add.f vars L v lo hi = some (vars, (dadd L v lo hi).1, (dadd L v lo hi).2) := by
  unfold spec_l8Add.f dadd
  by_cases c1 : lo < 0 ∨ hi < 0
  · rw [if_pos c1, if_pos c1]
  rw [if_neg c1, if_neg c1]
  by_cases c2 : lo = hi
  · rw [if_pos c2, if_pos c2]
  rw [if_neg c2, if_neg c2, if_pos (show L.length ≤ 1000000000000 by omega)]
  show (match dfind L ⟨v, lo, hi⟩ with | some i => _ | none => _) = _
  cases dfind L ⟨v, lo, hi⟩ with
  | some i => rfl
  | none =>
    simp only
    by_cases c3 : 2000 ≤ L.length
    · rw [if_pos c3, if_pos c3]
    · rw [if_neg c3, if_neg c3]
theorem ins_fork (L : List S71) (v : Int) (lo hi : DT) : ins L (.fork v lo hi) = if (ins L lo).2 < 0 then (L, -1) else dadd (ins (ins L lo).1 hi).1 v (ins L lo).2 (ins (ins L lo).1 hi).2 := by rw [ins]
/-! #### rows of values as a tree -/
def rowsT : Nat → Int → List Int → DT
  | 0, _, vs => .leaf (rd vs 0)
  | m + 1, v, vs => .fork v (rowsT m (v + 1) (vs.take (vs.length / 2))) (rowsT m (v + 1) (vs.drop (vs.length / 2)))
def BitRow (vs : List Int) : Prop := ∀ x ∈ vs, x = 0 ∨ x = 1
theorem BitRow.take {vs : List Int} (h : BitRow vs) (n : Nat) : BitRow (vs.take n) := fun x hx => h x (List.mem_of_mem_take hx)
theorem BitRow.drop {vs : List Int} (h : BitRow vs) (n : Nat) : BitRow (vs.drop n) := fun x hx => h x (List.mem_of_mem_drop hx)
theorem half_len {vs : List Int} {m : Nat} (h : vs.length = 2 ^ (m + 1)) : (vs.take (vs.length / 2)).length = 2 ^ m ∧ (vs.drop (vs.length / 2)).length = 2 ^ m := by
  rw [List.length_take, List.length_drop, h, Nat.pow_succ]
  omega
theorem rowsT_ok {vars : Int} {L : List S71} (hL : DV vars L) : ∀ (m : Nat) (v : Int) (vs : List Int), 0 ≤ v → v + m = vars → vs.length = 2 ^ m → BitRow vs → TOk vars L v (rowsT m v vs) := by
  intro m
  induction m with
  | zero =>
    intro v vs h0 hv hl hb
    unfold rowsT
    have hm : rd vs 0 ∈ vs := by
      have : 0 < vs.length := by rw [hl]; decide
      rw [show rd vs 0 = vs[0] from rd_lt this]
      exact List.getElem_mem _
    have hx := hb _ hm
    have hd : dvar vars L (rd vs 0) = vars := by
      unfold dvar
      rw [if_pos (by omega)]
    refine ⟨⟨by omega, by omega⟩, ?_⟩
    rw [hd]
    omega
  | succ m ih =>
    intro v vs h0 hv hl hb
    obtain ⟨h1, h2⟩ := half_len hl
    unfold rowsT
    exact ⟨Int.le_refl _, h0, by omega, ih (v + 1) _ (by omega) (by omega) h1 (hb.take _), ih (v + 1) _ (by omega) (by omega) h2 (hb.drop _)⟩
theorem spec_rows {vars : Int} : ∀ (m : Nat) (L : List S71) (v : Int) (vs : List Int), DV vars L → 0 ≤ v → v + m = vars → vs.length = 2 ^ m → BitRow vs →
    Ev (fun k => spec_l8Rows.f k vars L vs v) (vars, (ins L (rowsT m v vs)).1, (ins L (rowsT m v vs)).2) := by
  intro m
  induction m with
  | zero =>
    intro L v vs h h0 hv hl hb
    refine Ev.step (Ev.pos (by omega) (Ev.pos (by rw [hl]; decide) (Ev.val _))) (fun k => spec_l8Rows.f.eq_2 ..)
  | succ m ih =>
    intro L v vs h h0 hv hl hb
    have h12 := h.v12
    obtain ⟨h1, h2⟩ := half_len hl
    have hp : (2 : Nat) ^ (m + 1) ≤ 1000000000000 := Nat.le_trans (Nat.pow_le_pow_right (by decide) (show m + 1 ≤ 12 by omega)) (by decide)
    refine Ev.step (Ev.neg (by omega) (Ev.pos (by omega) ?_)) (fun k => spec_l8Rows.f.eq_2 ..)
    rw [w_id (by omega) (by omega)]
    refine Ev.bind (ih L (v + 1) _ h (by omega) (by omega) h1 (hb.take _)) ?_
    obtain ⟨d1, _⟩ := dv_ins h (rowsT_ok h m (v + 1) _ (by omega) (by omega) h1 (hb.take _))
    rw [show rowsT (m + 1) v vs = .fork v (rowsT m (v + 1) (vs.take (vs.length / 2))) (rowsT m (v + 1) (vs.drop (vs.length / 2))) from rfl]
    rw [ins_fork]
    by_cases c4 : (ins L (rowsT m (v + 1) (vs.take (vs.length / 2)))).2 < 0
    · rw [if_pos c4]
      exact Ev.pos c4 (Ev.val _)
    rw [if_neg c4]
    obtain ⟨d2, _⟩ := dv_ins d1 (rowsT_ok d1 m (v + 1) _ (by omega) (by omega) h2 (hb.drop _))
    exact Ev.neg c4 (Ev.bind (ih _ (v + 1) _ d1 (by omega) (by omega) h2 (hb.drop _)) (Ev.const (add_val vars v _ _ _ d2.len)))
/-! #### drawn diagrams -/
theorem dv_nil {vars : Int} (h0 : 0 ≤ vars) (h12 : vars ≤ 12) : DV vars [] := ⟨h0, h12, Nat.zero_le _, fun i x hx => by simp at hx, fun i x hx => by simp at hx⟩
/-- A number's lower bits, the highest one first. -/
def bitsD (n : Int) : Nat → List Int
  | 0 => []
  | d + 1 => (n / 2 ^ d % 2) :: bitsD n d
theorem bitsD_length (n : Int) : ∀ d, (bitsD n d).length = d := by
  intro d
  induction d with
  | zero => rfl
  | succ d ih => simp [bitsD, ih]
theorem shr_eq (n : Int) (d : Nat) (h : d ≤ 64) : shr .i64 n (d : Int) = n / 2 ^ d := by
  unfold shr
  rw [Int.toNat_natCast, Nat.min_eq_left (by simpa [IntKind.bits] using h)]
theorem spec_value_loop (n : Int) (hn : 0 ≤ n) : ∀ (d : Nat) (acc : List Int), d ≤ 60 → acc.length ≤ 1000 - d →
    Ev (fun k => spec_l6Value.l0 k n acc ((d : Int) - 1)) (acc ++ bitsD n d) := by
  intro d
  induction d with
  | zero =>
    intro acc _ _
    refine Ev.step (Ev.neg (by omega) (Ev.valEq (by simp [bitsD]))) (fun k => spec_l6Value.l0.eq_2 ..)
  | succ d ih =>
    intro acc hd ha
    refine Ev.step ?_ (fun k => spec_l6Value.l0.eq_2 ..)
    rw [show ((d + 1 : Nat) : Int) - 1 = (d : Int) by omega, shr_eq n d (by omega), w_id (by omega) (by omega)]
    refine Ev.pos (by omega) (Ev.pos (by omega) (Ev.pos (by omega) ?_))
    have := ih (acc ++ [n / 2 ^ d % 2]) (by omega) (by simp; omega)
    have e : Int.tmod (n / 2 ^ d) 2 = n / 2 ^ d % 2 := by
      rw [Int.tmod_eq_emod_of_nonneg]
      exact Int.ediv_nonneg hn (by exact_mod_cast Nat.zero_le _)
    rw [e]
    refine this.to ?_
    simp [bitsD]
theorem spec_value (n : Int) (hn : 0 ≤ n) (m : Nat) (hm : m ≤ 60) : Ev (fun k => spec_l6Value.f k n (m : Int)) (bitsD n m) := by
  unfold spec_l6Value.f
  rw [w_id (by omega) (by omega)]
  exact (spec_value_loop n hn m [] hm (by simp)).to (by simp)
theorem and_one (x : Int) (h0 : 0 ≤ x) (h1 : x < 9223372036854775808) : Go.bits .and .i64 x 1 = x % 2 := by
  have := bits_mask .i64 63 (by decide) (fun n a b => by rw [IntKind.wrap_i64]; omega) 1 (by decide) x h0 (by omega)
  simpa using this
/-! #### circuits: which are valid, and what their nodes are -/
def GOk (inputs : Int) (i : Nat) (g : S121) : Prop := (0 ≤ g.f0 ∧ g.f0 ≤ 2 * (1 + inputs + i) - 1) ∧ (0 ≤ g.f1 ∧ g.f1 ≤ 2 * (1 + inputs + i) - 1)
structure CV (inputs : Int) (L : List S121) : Prop where
  i0 : 0 ≤ inputs
  i12 : inputs ≤ 12
  len : L.length ≤ 600
  ok : ∀ (i : Nat) (h : i < L.length), GOk inputs i L[i]
theorem rdG {L : List S121} {i : Nat} (h : i < L.length) : rd_T121 L (i : Int) = L[i] := by
  unfold rd_T121
  rw [Int.toNat_natCast, List.getD_eq_getElem?_getD, List.getElem?_eq_getElem h]
  rfl
theorem gate_split {inputs : Int} {L : List S121} {i : Nat} (hi : i < L.length) : (∀ q (h : q < L.length), i ≤ q → GOk inputs q L[q]) ↔ GOk inputs i L[i] ∧ ∀ q (h : q < L.length), i + 1 ≤ q → GOk inputs q L[q] := by
  constructor
  · intro h
    exact ⟨h i hi (Nat.le_refl _), fun q hq hq2 => h q hq (by omega)⟩
  · rintro ⟨ha, hb⟩ q hq hq2
    by_cases c : i = q
    · subst c
      exact ha
    · exact hb q hq (by omega)
theorem most_w {inputs : Int} (h0 : 0 ≤ inputs) (h1 : inputs ≤ 12) (i : Nat) (hi : i ≤ 600) : wrap64 (wrap64 (2 * wrap64 (wrap64 (1 + inputs) + (i : Int))) - 1) = 2 * (1 + inputs + i) - 1 := by
  rw [w_id (x := 1 + inputs) (by omega) (by omega), w_id (x := 1 + inputs + (i : Int)) (by omega) (by omega), w_id (x := 2 * (1 + inputs + (i : Int))) (by omega) (by omega), w_id (by omega) (by omega)]
theorem impl_cv_loop {inputs : Int} (h0 : 0 ≤ inputs) (h1 : inputs ≤ 12) (L : List S121) (hl : L.length ≤ 600) : ∀ (d i : Nat), i + d = L.length → ∃ b, Ev (fun k => impl_CircuitValid.l0 k L (L.length : Int) (i : Int) inputs L) b ∧ (b = true ↔ ∀ q (h : q < L.length), i ≤ q → GOk inputs q L[q]) := by
  intro d
  induction d with
  | zero =>
    intro i hi
    exact ⟨true, Ev.step (Ev.neg (by omega) (Ev.val _)) (fun k => impl_CircuitValid.l0.eq_2 ..), fun _ q h hq => absurd h (by omega), fun _ => rfl⟩
  | succ d ih =>
    intro i hi
    have hil : i < L.length := by omega
    obtain ⟨rest, er, hr⟩ := ih (i + 1) (by omega)
    rw [gate_split hil]
    unfold GOk at hr ⊢
    have st : ∀ b, Ev (fun k => (impl_in.f L[i].f0 0 (2 * (1 + inputs + (i : Int)) - 1)).bind fun t => if t = true then (impl_in.f L[i].f1 0 (2 * (1 + inputs + (i : Int)) - 1)).bind fun t => if t = true then impl_CircuitValid.l0 k L (L.length : Int) (wrap64 ((i : Int) + 1)) inputs L else some false else some false) b → Ev (fun k => impl_CircuitValid.l0 k L (L.length : Int) (i : Int) inputs L) b := fun b hb => by
      refine Ev.step (Ev.pos (by omega) (Ev.pos (by omega) (Ev.pos (by omega) ?_))) (fun k => impl_CircuitValid.l0.eq_2 ..)
      rw [rdG hil, most_w h0 h1 i (by omega)]
      exact hb
    by_cases c1 : 0 ≤ L[i].f0 ∧ L[i].f0 ≤ 2 * (1 + inputs + (i : Int)) - 1
    · by_cases c2 : 0 ≤ L[i].f1 ∧ L[i].f1 ≤ 2 * (1 + inputs + (i : Int)) - 1
      · refine ⟨rest, st _ ?_, ?_⟩
        · simp only [in_val, Option.bind_some, decide_eq_true_eq]
          refine Ev.pos c1 (Ev.pos c2 ?_)
          rw [wsucc i (by omega)]
          exact er
        · rw [hr]
          exact ⟨fun h => ⟨⟨c1, c2⟩, h⟩, fun h => h.2⟩
      · refine ⟨false, st _ ?_, fun h => (by cases h), fun h => absurd h.1.2 c2⟩
        simp only [in_val, Option.bind_some, decide_eq_true_eq]
        exact Ev.pos c1 (Ev.neg c2 (Ev.val _))
    · refine ⟨false, st _ ?_, fun h => (by cases h), fun h => absurd h.1.1 c1⟩
      simp only [in_val, Option.bind_some, decide_eq_true_eq]
      exact Ev.neg c1 (Ev.val _)
theorem impl_cv (inputs : Int) (L : List S121) : ∃ b, Ev (fun k => impl_CircuitValid.f k inputs L) b ∧ (b = true ↔ CV inputs L) := by
  unfold impl_CircuitValid.f
  simp only [in_val, Option.bind_some]
  have e0 : Ev (fun k => impl_CircuitValid.j0 k true inputs L) false := Ev.step (Ev.pos rfl (Ev.val _)) (fun k => impl_CircuitValid.j0.eq_2 ..)
  by_cases c1 : 0 ≤ inputs ∧ inputs ≤ 12
  · rw [decide_eq_true c1]
    by_cases c2 : (L.length : Int) > 600
    · rw [decide_eq_true c2]
      exact ⟨false, Ev.pos rfl e0, fun h => (by cases h), fun h => by have := h.len; omega⟩
    · rw [decide_eq_false c2]
      obtain ⟨b, hb, h2⟩ := impl_cv_loop c1.1 c1.2 L (by omega) L.length 0 (by omega)
      refine ⟨b, Ev.pos rfl (Ev.step (Ev.neg (by decide) hb) (fun k => impl_CircuitValid.j0.eq_2 ..)), ?_⟩
      rw [h2]
      exact ⟨fun h => ⟨c1.1, c1.2, by omega, fun i hi => h i hi (Nat.zero_le _)⟩, fun h q hq _ => h.ok q hq⟩
  · rw [decide_eq_false c1]
    exact ⟨false, Ev.neg (by decide) e0, fun h => (by cases h), fun h => absurd ⟨h.i0, h.i12⟩ c1⟩
theorem spec_cv_loop {inputs : Int} (h0 : 0 ≤ inputs) (h1 : inputs ≤ 12) (L : List S121) (hl : L.length ≤ 600) : ∀ (d i : Nat), i + d = L.length → ∃ b, Ev (fun k => spec_CircuitValid.l0 k (i : Int) inputs L) b ∧ (b = true ↔ ∀ q (h : q < L.length), i ≤ q → GOk inputs q L[q]) := by
  intro d
  induction d with
  | zero =>
    intro i hi
    exact ⟨true, Ev.step (Ev.neg (by omega) (Ev.val _)) (fun k => spec_CircuitValid.l0.eq_2 ..), fun _ q h hq => absurd h (by omega), fun _ => rfl⟩
  | succ d ih =>
    intro i hi
    have hil : i < L.length := by omega
    obtain ⟨rest, er, hr⟩ := ih (i + 1) (by omega)
    rw [gate_split hil]
    unfold GOk at hr ⊢
    have st : ∀ b, Ev (fun k => (spec_l1In.f L[i].f0 0 (2 * (1 + inputs + (i : Int)) - 1)).bind fun t => if t = true then (spec_l1In.f L[i].f1 0 (2 * (1 + inputs + (i : Int)) - 1)).bind fun t => if t = true then spec_CircuitValid.l0 k (wrap64 ((i : Int) + 1)) inputs L else some false else some false) b → Ev (fun k => spec_CircuitValid.l0 k (i : Int) inputs L) b := fun b hb => by
      refine Ev.step (Ev.pos (by omega) (Ev.pos (by omega) ?_)) (fun k => spec_CircuitValid.l0.eq_2 ..)
      rw [rdG hil, most_w h0 h1 i (by omega)]
      exact hb
    by_cases c1 : 0 ≤ L[i].f0 ∧ L[i].f0 ≤ 2 * (1 + inputs + (i : Int)) - 1
    · by_cases c2 : 0 ≤ L[i].f1 ∧ L[i].f1 ≤ 2 * (1 + inputs + (i : Int)) - 1
      · refine ⟨rest, st _ ?_, ?_⟩
        · simp only [l1In_val, Option.bind_some, decide_eq_true_eq]
          refine Ev.pos c1 (Ev.pos c2 ?_)
          rw [wsucc i (by omega)]
          exact er
        · rw [hr]
          exact ⟨fun h => ⟨⟨c1, c2⟩, h⟩, fun h => h.2⟩
      · refine ⟨false, st _ ?_, fun h => (by cases h), fun h => absurd h.1.2 c2⟩
        simp only [l1In_val, Option.bind_some, decide_eq_true_eq]
        exact Ev.pos c1 (Ev.neg c2 (Ev.val _))
    · refine ⟨false, st _ ?_, fun h => (by cases h), fun h => absurd h.1.1 c1⟩
      simp only [l1In_val, Option.bind_some, decide_eq_true_eq]
      exact Ev.neg c1 (Ev.val _)
theorem spec_cv (inputs : Int) (L : List S121) : ∃ b, Ev (fun k => spec_CircuitValid.f k inputs L) b ∧ (b = true ↔ CV inputs L) := by
  unfold spec_CircuitValid.f
  simp only [l1In_val, Option.bind_some]
  have e0 : Ev (fun k => spec_CircuitValid.j0 k true inputs L) false := Ev.step (Ev.pos rfl (Ev.val _)) (fun k => spec_CircuitValid.j0.eq_2 ..)
  by_cases c1 : 0 ≤ inputs ∧ inputs ≤ 12
  · rw [decide_eq_true c1]
    by_cases c2 : (L.length : Int) > 600
    · rw [decide_eq_true c2]
      exact ⟨false, Ev.pos rfl e0, fun h => (by cases h), fun h => by have := h.len; omega⟩
    · rw [decide_eq_false c2]
      obtain ⟨b, hb, h2⟩ := spec_cv_loop c1.1 c1.2 L (by omega) L.length 0 (by omega)
      refine ⟨b, Ev.pos rfl (Ev.step (Ev.neg (by decide) hb) (fun k => spec_CircuitValid.j0.eq_2 ..)), ?_⟩
      rw [h2]
      exact ⟨fun h => ⟨c1.1, c1.2, by omega, fun i hi => h i hi (Nat.zero_le _)⟩, fun h q hq _ => h.ok q hq⟩
  · rw [decide_eq_false c1]
    exact ⟨false, Ev.neg (by decide) e0, fun h => (by cases h), fun h => absurd ⟨h.i0, h.i12⟩ c1⟩
theorem impl_edge {inputs : Int} {L : List S121} (h : CV inputs L) (e : Int) : impl_Circuit_isEdge.f inputs L e = some (decide (0 ≤ e ∧ e ≤ 2 * (1 + inputs + (L.length : Int)) - 1)) := by
  unfold impl_Circuit_isEdge.f
  rw [most_w h.i0 h.i12 L.length h.len, in_val]
  rfl
theorem spec_edge {inputs : Int} {L : List S121} (h : CV inputs L) (e : Int) : spec_l7Edge.f inputs L e = some (decide (0 ≤ e ∧ e ≤ 2 * (1 + inputs + (L.length : Int)) - 1)) := by
  unfold spec_l7Edge.f spec_l7Nodes.f
  simp only [Option.bind_some]
  rw [most_w h.i0 h.i12 L.length h.len, l1In_val]
  rfl
/-- The value of an edge by the values of nodes. -/
def edv (vs : List Int) (e : Int) : Int := if e % 2 = 1 then 1 - rd vs (e / 2) else rd vs (e / 2)
/-- The values of the nodes behind some. -/
def nodesV : List S121 → List Int → List Int
  | [], vs => vs
  | g :: gs, vs => nodesV gs (vs ++ [edv vs g.f0 * edv vs g.f1])
theorem bits_rd {vs : List Int} (h : BitRow vs) {z : Int} (h0 : 0 ≤ z) (h1 : z < (vs.length : Int)) : rd vs z = 0 ∨ rd vs z = 1 := by
  obtain ⟨m, rfl⟩ := Int.eq_ofNat_of_zero_le h0
  have hm : m < vs.length := by omega
  rw [rd_lt hm]
  exact h _ (List.getElem_mem hm)
theorem edv_01 {vs : List Int} (h : BitRow vs) {e : Int} (h0 : 0 ≤ e) (h1 : e ≤ 2 * (vs.length : Int) - 1) : edv vs e = 0 ∨ edv vs e = 1 := by
  have := bits_rd h (z := e / 2) (by omega) (by omega)
  unfold edv
  split <;> omega
theorem BitRow.snoc {vs : List Int} (h : BitRow vs) {x : Int} (hx : x = 0 ∨ x = 1) : BitRow (vs ++ [x]) := fun y hy => by
  rcases List.mem_append.mp hy with h2 | h2
  · exact h y h2
  · rw [List.mem_singleton.mp h2]
    exact hx
theorem impl_edgeOf_val {vs : List Int} (h : BitRow vs) (hl : vs.length ≤ 1000000) {e : Int} (h0 : 0 ≤ e) (h1 : e ≤ 2 * (vs.length : Int) - 1) : impl_edgeOf.f vs e = some (edv vs e) := by
  have ht : Int.tdiv e 2 = e / 2 := Int.tdiv_eq_ediv_of_nonneg h0
  have hb := bits_rd h (z := e / 2) (by omega) (by omega)
  unfold impl_edgeOf.f edv
  rw [ht, w_id (by omega) (by omega), if_pos (by omega), if_pos (by omega), and_one e h0 (by omega)]
  congr 1
  generalize rd vs (e / 2) = x at hb ⊢
  have he : e % 2 = 0 ∨ e % 2 = 1 := by omega
  rcases he with he | he <;> rcases hb with rfl | rfl <;> rw [he] <;> decide +kernel
theorem spec_l7Of_val {vs : List Int} (h : BitRow vs) (hl : vs.length ≤ 1000000) {e : Int} (h0 : 0 ≤ e) (h1 : e ≤ 2 * (vs.length : Int) - 1) : spec_l7Of.f vs e = some (edv vs e) := by
  have ht : Int.tdiv e 2 = e / 2 := Int.tdiv_eq_ediv_of_nonneg h0
  have hm : Int.tmod e 2 = e % 2 := Int.tmod_eq_emod_of_nonneg h0
  have hb := bits_rd h (z := e / 2) (by omega) (by omega)
  unfold spec_l7Of.f edv
  rw [ht, hm, w_id (x := e / 2) (by omega) (by omega)]
  by_cases c : e % 2 = 1
  · rw [if_pos c, if_pos c, if_pos (by omega), if_pos (by omega), w_id (by omega) (by omega)]
  · rw [if_neg c, if_neg c, if_pos (by omega), if_pos (by omega)]
theorem bits_mul {a b : Int} (ha : a = 0 ∨ a = 1) (hb : b = 0 ∨ b = 1) : (a * b = 0 ∨ a * b = 1) ∧ Go.bits .and .i64 a b = a * b ∧ wrap64 (a * b) = a * b := by
  rcases ha with rfl | rfl <;> rcases hb with rfl | rfl <;> decide +kernel
theorem impl_values_loop {inputs : Int} (h0 : 0 ≤ inputs) (h1 : inputs ≤ 12) (L : List S121) (hl : L.length ≤ 600) (hok : ∀ (i : Nat) (h : i < L.length), GOk inputs i L[i]) : ∀ (d i : Nat) (vs : List Int), i + d = L.length → (vs.length : Int) = 1 + inputs + i → BitRow vs →
    Ev (fun k => impl_Circuit_values.l0 k vs L (L.length : Int) (i : Int)) (nodesV (L.drop i) vs) ∧ BitRow (nodesV (L.drop i) vs) ∧ ((nodesV (L.drop i) vs).length : Int) = 1 + inputs + L.length := by
  intro d
  induction d with
  | zero =>
    intro i vs hi hv hb
    have e : L.drop i = [] := List.drop_of_length_le (by omega)
    rw [e]
    exact ⟨Ev.step (Ev.neg (by omega) (Ev.val _)) (fun k => impl_Circuit_values.l0.eq_2 ..), hb, by show (vs.length : Int) = _; omega⟩
  | succ d ih =>
    intro i vs hi hv hb
    have hil : i < L.length := by omega
    obtain ⟨⟨g1, g2⟩, g3, g4⟩ := hok i hil
    have x1 := edv_01 hb (e := L[i].f0) g1 (by omega)
    have x2 := edv_01 hb (e := L[i].f1) g3 (by omega)
    obtain ⟨m1, m2, m3⟩ := bits_mul x1 x2
    obtain ⟨k1, k2, k3⟩ := ih (i + 1) (vs ++ [edv vs L[i].f0 * edv vs L[i].f1]) (by omega) (by simp; omega) (hb.snoc m1)
    have e : nodesV (L.drop i) vs = nodesV (L.drop (i + 1)) (vs ++ [edv vs L[i].f0 * edv vs L[i].f1]) := by
      rw [List.drop_eq_getElem_cons hil]
      rfl
    rw [e]
    refine ⟨Ev.step (Ev.pos (by omega) (Ev.pos (by omega) (Ev.pos (by omega) ?_))) (fun k => impl_Circuit_values.l0.eq_2 ..), k2, k3⟩
    rw [rdG hil, wsucc i (by omega)]
    refine Ev.bind (Ev.const (impl_edgeOf_val hb (by omega) g1 (by omega))) (Ev.bind (Ev.const (impl_edgeOf_val hb (by omega) g3 (by omega))) (Ev.pos (by omega) ?_))
    rw [m2]
    exact k1
/-- The values of all nodes. -/
def allNodes (L : List S121) (bits : List Int) : List Int := nodesV L ([0] ++ bits)
theorem impl_values_val {inputs : Int} {L : List S121} (h : CV inputs L) {bits : List Int} (hl : (bits.length : Int) = inputs) (hb : BitRow bits) : Ev (fun k => impl_Circuit_values.f k inputs L bits) (allNodes L bits) ∧ BitRow (allNodes L bits) ∧ ((allNodes L bits).length : Int) = 1 + inputs + L.length := by
  have hb0 : BitRow ([0] ++ bits) := fun x hx => by
    rcases List.mem_append.mp hx with h2 | h2
    · rw [List.mem_singleton.mp h2]
      exact .inl rfl
    · exact hb x h2
  have h12 := h.i12
  obtain ⟨k1, k2, k3⟩ := impl_values_loop h.i0 h.i12 L h.len h.ok L.length 0 ([0] ++ bits) (by omega) (by simp; omega) hb0
  refine ⟨?_, k2, k3⟩
  unfold impl_Circuit_values.f
  simp only [Option.bind_some]
  exact Ev.pos (by simp; omega) k1
theorem spec_run_loop {inputs : Int} (h0 : 0 ≤ inputs) (h1 : inputs ≤ 12) (L : List S121) (hl : L.length ≤ 600) (hok : ∀ (i : Nat) (h : i < L.length), GOk inputs i L[i]) : ∀ (d i : Nat) (vs : List Int), i + d = L.length → (vs.length : Int) = 1 + inputs + i → BitRow vs →
    Ev (fun k => spec_l7Run.l1 k vs (i : Int) inputs L) (nodesV (L.drop i) vs) := by
  intro d
  induction d with
  | zero =>
    intro i vs hi hv hb
    have e : L.drop i = [] := List.drop_of_length_le (by omega)
    rw [e]
    exact Ev.step (Ev.neg (by omega) (Ev.val _)) (fun k => spec_l7Run.l1.eq_2 ..)
  | succ d ih =>
    intro i vs hi hv hb
    have hil : i < L.length := by omega
    obtain ⟨⟨g1, g2⟩, g3, g4⟩ := hok i hil
    have x1 := edv_01 hb (e := L[i].f0) g1 (by omega)
    have x2 := edv_01 hb (e := L[i].f1) g3 (by omega)
    obtain ⟨m1, m2, m3⟩ := bits_mul x1 x2
    have k1 := ih (i + 1) (vs ++ [edv vs L[i].f0 * edv vs L[i].f1]) (by omega) (by simp; omega) (hb.snoc m1)
    have e : nodesV (L.drop i) vs = nodesV (L.drop (i + 1)) (vs ++ [edv vs L[i].f0 * edv vs L[i].f1]) := by
      rw [List.drop_eq_getElem_cons hil]
      rfl
    rw [e]
    refine Ev.step (Ev.pos (by omega) (Ev.pos (by omega) ?_)) (fun k => spec_l7Run.l1.eq_2 ..)
    rw [rdG hil, wsucc i (by omega)]
    refine Ev.bind (Ev.const (spec_l7Of_val hb (by omega) g1 (by omega))) (Ev.bind (Ev.const (spec_l7Of_val hb (by omega) g3 (by omega))) (Ev.pos (by omega) ?_))
    rw [m3]
    exact k1
theorem spec_run_in {inputs : Int} (h12 : inputs ≤ 12) (L : List S121) (bits : List Int) (hl : (bits.length : Int) = inputs) (r : List Int) (hr : Ev (fun k => spec_l7Run.l1 k ([0] ++ bits) 0 inputs L) r) : ∀ (d i : Nat), i + d = bits.length → Ev (fun k => spec_l7Run.l0 k bits ([0] ++ bits.take i) (i : Int) inputs L) r := by
  intro d
  induction d with
  | zero =>
    intro i hi
    rw [List.take_of_length_le (by omega)]
    exact Ev.step (Ev.neg (by omega) hr) (fun k => spec_l7Run.l0.eq_2 ..)
  | succ d ih =>
    intro i hi
    have hil : i < bits.length := by omega
    refine Ev.step (Ev.pos (by omega) (Ev.pos (by omega) (Ev.pos (by omega) (Ev.pos (by simp; omega) ?_)))) (fun k => spec_l7Run.l0.eq_2 ..)
    rw [wsucc i (by omega), rd_lt hil]
    have e : [0] ++ bits.take i ++ [bits[i]] = [0] ++ bits.take (i + 1) := by
      rw [List.append_assoc, List.take_add_one, List.getElem?_eq_getElem hil]
      rfl
    rw [e]
    exact ih (i + 1) (by omega)
theorem spec_run_val {inputs : Int} {L : List S121} (h : CV inputs L) {bits : List Int} (hl : (bits.length : Int) = inputs) (hb : BitRow bits) : Ev (fun k => spec_l7Run.f k inputs L bits) (allNodes L bits) := by
  have hb0 : BitRow ([0] ++ bits) := fun x hx => by
    rcases List.mem_append.mp hx with h2 | h2
    · rw [List.mem_singleton.mp h2]
      exact .inl rfl
    · exact hb x h2
  unfold spec_l7Run.f
  have := spec_run_loop h.i0 h.i12 L h.len h.ok L.length 0 ([0] ++ bits) (by omega) (by simp; omega) hb0
  exact spec_run_in h.i12 L bits hl _ this bits.length 0 (by omega)
/-- The value of an edge for a row of bits. -/
def edgeV (L : List S121) (e : Int) (bits : List Int) : Int := edv (allNodes L bits) e
theorem bitsD_bits (n : Int) : ∀ m, BitRow (bitsD n m) := by
  intro m
  induction m with
  | zero => intro x hx; simp [bitsD] at hx
  | succ m ih =>
    intro x hx
    rcases List.mem_cons.mp hx with h | h
    · rw [h]
      omega
    · exact ih x h
/-! #### a diagram that is made value by value -/
def madeT (fn : List Int → Int) : Nat → List Int → DT
  | 0, bits => .leaf (fn bits)
  | m + 1, bits => .fork (bits.length : Int) (madeT fn m (bits ++ [0])) (madeT fn m (bits ++ [1]))
def allvals (fn : List Int → Int) : Nat → List Int → List Int
  | 0, bits => [fn bits]
  | m + 1, bits => allvals fn m (bits ++ [0]) ++ allvals fn m (bits ++ [1])
theorem allvals_len (fn : List Int → Int) : ∀ (m : Nat) (bits : List Int), (allvals fn m bits).length = 2 ^ m := by
  intro m
  induction m with
  | zero => intro bits; rfl
  | succ m ih =>
    intro bits
    unfold allvals
    rw [List.length_append, ih, ih, Nat.pow_succ]
    omega
theorem rows_made (fn : List Int → Int) : ∀ (m : Nat) (bits : List Int), rowsT m (bits.length : Int) (allvals fn m bits) = madeT fn m bits := by
  intro m
  induction m with
  | zero => intro bits; rfl
  | succ m ih =>
    intro bits
    have h1 := allvals_len fn m (bits ++ [0])
    have h2 := allvals_len fn m (bits ++ [1])
    have hh : (allvals fn (m + 1) bits).length / 2 = (allvals fn m (bits ++ [0])).length := by
      rw [allvals_len, h1, Nat.pow_succ]
      omega
    have e1 := ih (bits ++ [0])
    have e2 := ih (bits ++ [1])
    rw [List.length_append, List.length_singleton] at e1 e2
    show DT.fork (bits.length : Int) (rowsT m ((bits.length : Int) + 1) ((allvals fn (m + 1) bits).take ((allvals fn (m + 1) bits).length / 2))) (rowsT m ((bits.length : Int) + 1) ((allvals fn (m + 1) bits).drop ((allvals fn (m + 1) bits).length / 2))) = _
    rw [hh]
    show DT.fork (bits.length : Int) (rowsT m ((bits.length : Int) + 1) ((allvals fn m (bits ++ [0]) ++ allvals fn m (bits ++ [1])).take (allvals fn m (bits ++ [0])).length)) (rowsT m ((bits.length : Int) + 1) ((allvals fn m (bits ++ [0]) ++ allvals fn m (bits ++ [1])).drop (allvals fn m (bits ++ [0])).length)) = _
    rw [List.take_left, List.drop_left]
    have c : ((bits.length + 1 : Nat) : Int) = (bits.length : Int) + 1 := by omega
    rw [c] at e1 e2
    rw [e1, e2]
    rfl
theorem bitsD_low (n : Nat) (m : Nat) : ∀ d, d ≤ m → bitsD ((2 ^ m + n : Nat) : Int) d = bitsD (n : Int) d := by
  intro d
  induction d with
  | zero => intro _; rfl
  | succ d ih =>
    intro hd
    unfold bitsD
    rw [ih (by omega)]
    congr 1
    have e : (2 : Int) ^ d = ((2 ^ d : Nat) : Int) := by simp
    rw [e, ← Int.natCast_ediv, ← Int.natCast_ediv]
    have h1 : 2 ^ m = 2 ^ (m - d - 1) * 2 * 2 ^ d := by
      rw [Nat.mul_assoc, ← Nat.pow_succ', ← Nat.pow_add]
      congr 1
      omega
    have h2 : (2 ^ m + n) / 2 ^ d = 2 ^ (m - d - 1) * 2 + n / 2 ^ d := by
      rw [h1, Nat.mul_comm (2 ^ (m - d - 1) * 2) (2 ^ d), Nat.mul_add_div (Nat.pow_pos (by decide))]
    rw [h2]
    omega
theorem allvals_rows (fn : List Int → Int) : ∀ (m : Nat) (bits : List Int), allvals fn m bits = (List.range (2 ^ m)).map (fun i => fn (bits ++ bitsD ((i : Nat) : Int) m)) := by
  intro m
  induction m with
  | zero =>
    intro bits
    show [fn bits] = [fn (bits ++ [])]
    rw [List.append_nil]
  | succ m ih =>
    intro bits
    have hp : 2 ^ (m + 1) = 2 ^ m + 2 ^ m := by rw [Nat.pow_succ]; omega
    rw [hp, List.range_add, List.map_append, List.map_map]
    unfold allvals
    rw [ih, ih]
    have hpos : 0 < 2 ^ m := Nat.pow_pos (by decide)
    have ei : (2 : Int) ^ m = ((2 ^ m : Nat) : Int) := by simp
    congr 1
    · apply List.map_congr_left
      intro i hi
      have hi := List.mem_range.mp hi
      have e : bitsD (i : Int) (m + 1) = 0 :: bitsD (i : Int) m := by
        show ((i : Int) / 2 ^ m % 2) :: _ = _
        rw [ei, ← Int.natCast_ediv, Nat.div_eq_of_lt hi]
        rfl
      rw [e, List.append_assoc]
      rfl
    · apply List.map_congr_left
      intro i hi
      have hi := List.mem_range.mp hi
      have e : bitsD ((2 ^ m + i : Nat) : Int) (m + 1) = 1 :: bitsD (i : Int) m := by
        show (((2 ^ m + i : Nat) : Int) / 2 ^ m % 2) :: bitsD ((2 ^ m + i : Nat) : Int) m = _
        rw [bitsD_low i m m (Nat.le_refl _), ei, ← Int.natCast_ediv, Nat.add_div_left _ hpos, Nat.div_eq_of_lt hi]
        rfl
      show fn (bits ++ [1] ++ bitsD (i : Int) m) = fn (bits ++ bitsD ((2 ^ m + i : Nat) : Int) (m + 1))
      rw [e, List.append_assoc]
      rfl
theorem madeT_ok {vars : Int} {L : List S71} (hL : DV vars L) (fn : List Int → Int) (hfn : ∀ bits, BitRow bits → (bits.length : Int) = vars → fn bits = 0 ∨ fn bits = 1) : ∀ (m : Nat) (bits : List Int), BitRow bits → (bits.length : Int) + m = vars → TOk vars L (bits.length : Int) (madeT fn m bits) := by
  intro m
  induction m with
  | zero =>
    intro bits hb hl
    have := hfn bits hb (by omega)
    unfold madeT
    refine ⟨⟨by omega, by omega⟩, ?_⟩
    unfold dvar
    rw [if_pos (by omega)]
    omega
  | succ m ih =>
    intro bits hb hl
    have k : ∀ c : Int, c = 0 ∨ c = 1 → TOk vars L ((bits.length : Int) + 1) (madeT fn m (bits ++ [c])) := fun c hc => by
      have := ih (bits ++ [c]) (fun x hx => by
        rcases List.mem_append.mp hx with h | h
        · exact hb x h
        · rw [List.mem_singleton.mp h]
          exact hc) (by simp; omega)
      rw [List.length_append, List.length_singleton] at this
      exact this
    unfold madeT
    exact ⟨Int.le_refl _, by omega, by omega, k 0 (.inl rfl), k 1 (.inr rfl)⟩
theorem dadd_bound {L : List S71} {v lo hi : Int} (hl : L.length ≤ 2000) (h2 : lo ≤ 2001) : (dadd L v lo hi).1.length ≤ 2000 ∧ (dadd L v lo hi).2 ≤ 2001 := by
  unfold dadd
  split
  · exact ⟨hl, show (-1 : Int) ≤ 2001 by decide⟩
  split
  · exact ⟨hl, h2⟩
  split
  · next i hf =>
    have := (List.getElem?_eq_some_iff.1 (dfind_some hf)).1
    exact ⟨hl, by show (i : Int) + 2 ≤ 2001; omega⟩
  split
  · exact ⟨hl, show (-1 : Int) ≤ 2001 by decide⟩
  · exact ⟨by simp; omega, by show (L.length : Int) + 2 ≤ 2001; omega⟩
structure WInv (vars : Int) (s : FS) : Prop where
  vs : s.vars = vars
  seen : s.seen = seenP s.forks
  len : s.forks.length ≤ 2000
theorem bit_val (b : Bool) : impl_bit.f b = some (if b = true then 1 else 0) := by
  unfold impl_bit.f
  cases b <;> rfl
theorem made_val {vars : Int} (h12 : vars ≤ 12) (is : Nat → List Int → Option Bool) (fn : List Int → Int) (hfn : ∀ bits, BitRow bits → (bits.length : Int) = vars → (fn bits = 0 ∨ fn bits = 1) ∧ Ev (fun k => is k bits) (fn bits == 1)) :
    ∀ (m : Nat) (s : FS) (bits : List Int), WInv vars s → (bits.length : Int) + m = vars → BitRow bits →
    ∃ s' r, (∃ K, ∀ k j, K ≤ k → K ≤ j → impl_forking_made.f k (is j) s bits = some (s', r)) ∧ WInv vars s' ∧ 0 ≤ r ∧ r ≤ 2001 ∧ (s.full = true → s'.full = true) ∧
      (s.full = false → DV vars s.forks → ((ins s.forks (madeT fn m bits)).2 < 0 → s'.full = true) ∧ (0 ≤ (ins s.forks (madeT fn m bits)).2 → s'.full = false ∧ s'.forks = (ins s.forks (madeT fn m bits)).1 ∧ r = (ins s.forks (madeT fn m bits)).2)) := by
  intro m
  induction m with
  | zero =>
    intro s bits hw hl hb
    cases hf : s.full with
    | true =>
      refine ⟨s, 0, ⟨1, fun k j hk _ => ?_⟩, hw, by decide, by decide, fun _ => hf, fun h => (by cases h)⟩
      obtain ⟨k, rfl⟩ : ∃ q, k = q + 1 := ⟨k - 1, by omega⟩
      rw [impl_forking_made.f, if_pos hf]
    | false =>
      obtain ⟨h01, K, hK⟩ := hfn bits hb (by omega)
      refine ⟨s, fn bits, ⟨K + 1, fun k j hk hj => ?_⟩, hw, by omega, by omega, fun h => (by cases h), fun _ _ => ⟨fun hn => ?_, fun _ => ⟨hf, rfl, rfl⟩⟩⟩
      · obtain ⟨k, rfl⟩ : ∃ q, k = q + 1 := ⟨k - 1, by omega⟩
        rw [impl_forking_made.f, if_neg (by rw [hf]; decide), if_pos (by rw [hw.vs]; omega), show is j bits = some (fn bits == 1) from hK j (by omega), Option.bind_some, bit_val, Option.bind_some]
        rcases h01 with h | h <;> rw [h] <;> rfl
      · have : fn bits < 0 := hn
        omega
  | succ m ih =>
    intro s bits hw hl hb
    cases hf : s.full with
    | true =>
      refine ⟨s, 0, ⟨1, fun k j hk _ => ?_⟩, hw, by decide, by decide, fun _ => hf, fun h => (by cases h)⟩
      obtain ⟨k, rfl⟩ : ∃ q, k = q + 1 := ⟨k - 1, by omega⟩
      rw [impl_forking_made.f, if_pos hf]
    | false =>
      have bsn : ∀ c : Int, c = 0 ∨ c = 1 → BitRow (bits ++ [c]) := fun c hc x hx => by
        rcases List.mem_append.mp hx with h | h
        · exact hb x h
        · rw [List.mem_singleton.mp h]
          exact hc
      obtain ⟨s1, r1, ⟨K1, e1⟩, w1, p1, q1, f1, g1⟩ := ih s (bits ++ [0]) hw (by simp; omega) (bsn 0 (.inl rfl))
      obtain ⟨s2, r2, ⟨K2, e2⟩, w2, p2, q2, f2, g2⟩ := ih s1 (bits ++ [1]) w1 (by simp; omega) (bsn 1 (.inr rfl))
      obtain ⟨s3, r3, ef, k1, k2, k3, k4, k5⟩ := fork_val s2 (bits.length : Int) r1 r2 (show KeyI (bits.length : Int) ∧ KeyI r1 ∧ KeyI r2 from ⟨keyI (by omega) (by omega), keyI p1 (by omega), keyI p2 (by omega)⟩) p1 p2 w2.seen
      have hbd := dadd_bound (L := s2.forks) (v := (bits.length : Int)) (lo := r1) (hi := r2) w2.len q1
      have hr3 : 0 ≤ r3 ∧ r3 ≤ 2001 := by
        by_cases c : (dadd s2.forks (bits.length : Int) r1 r2).2 < 0
        · rw [if_pos c] at k5
          omega
        · rw [if_neg c] at k5
          omega
      have full2 : s2.full = true → s3.full = true := fun h => by
        by_cases c : (dadd s2.forks (bits.length : Int) r1 r2).2 < 0
        · rw [if_pos c] at k5
          exact k5.1
        · rw [if_neg c] at k5
          rw [k5.1]
          exact h
      refine ⟨s3, r3, ⟨max K1 K2 + 1, fun k j hk hj => ?_⟩, ⟨by rw [k1]; exact w2.vs, k3, by rw [k4]; exact hbd.1⟩, hr3.1, hr3.2, fun h => (by cases h), fun _ hd => ?_⟩
      · obtain ⟨k, rfl⟩ : ∃ q, k = q + 1 := ⟨k - 1, by omega⟩
        rw [impl_forking_made.f, if_neg (by rw [hf]; decide), if_neg (by rw [hw.vs]; omega), if_pos (by omega), e1 k j (by omega) (by omega), Option.bind_some]
        simp only
        rw [e2 k j (by omega) (by omega), Option.bind_some]
        exact ef
      · have hT : ins s.forks (madeT fn (m + 1) bits) = if (ins s.forks (madeT fn m (bits ++ [0]))).2 < 0 then (s.forks, -1) else dadd (ins (ins s.forks (madeT fn m (bits ++ [0]))).1 (madeT fn m (bits ++ [1]))).1 (bits.length : Int) (ins s.forks (madeT fn m (bits ++ [0]))).2 (ins (ins s.forks (madeT fn m (bits ++ [0]))).1 (madeT fn m (bits ++ [1]))).2 := by
          show ins s.forks (.fork (bits.length : Int) (madeT fn m (bits ++ [0])) (madeT fn m (bits ++ [1]))) = _
          rw [ins_fork]
        rw [hT]
        obtain ⟨gn, gy⟩ := g1 hf hd
        by_cases cl : (ins s.forks (madeT fn m (bits ++ [0]))).2 < 0
        · rw [if_pos cl]
          exact ⟨fun _ => full2 (f2 (gn cl)), fun h => (neg1 h).elim⟩
        rw [if_neg cl]
        obtain ⟨z1, z2, z3⟩ := gy (by omega)
        have hok := madeT_ok hd fn (fun b hb hl => (hfn b hb hl).1) m (bits ++ [0]) (bsn 0 (.inl rfl)) (by simp; omega)
        have hd1 := (dv_ins hd hok).1
        rw [← z2, ← z3]
        rw [← z2] at hd1
        obtain ⟨gn2, gy2⟩ := g2 z1 hd1
        by_cases ch : (ins s1.forks (madeT fn m (bits ++ [1]))).2 < 0
        · have hneg : dadd (ins s1.forks (madeT fn m (bits ++ [1]))).1 (bits.length : Int) r1 (ins s1.forks (madeT fn m (bits ++ [1]))).2 = ((ins s1.forks (madeT fn m (bits ++ [1]))).1, -1) := by
            unfold dadd
            rw [if_pos (.inr ch)]
          rw [hneg]
          exact ⟨fun _ => full2 (gn2 ch), fun h => (neg1 h).elim⟩
        obtain ⟨z4, z5, z6⟩ := gy2 (by omega)
        rw [← z5, ← z6]
        refine ⟨fun h => ?_, fun h => ?_⟩
        · rw [if_pos h] at k5
          exact k5.1
        · rw [if_neg (by omega)] at k5
          exact ⟨k5.1.trans z4, k4, k5.2⟩
/-! #### the diagram of an edge: the reference and the program -/
def OfAsk (inputs : Int) (L : List S121) (e : Int) : Prop := CV inputs L ∧ (0 ≤ e ∧ e ≤ 2 * (1 + inputs + (L.length : Int)) - 1)
def OfIs (inputs : Int) (L : List S121) (e : Int) (r : Int × List S71 × Int) : Prop :=
  (OfAsk inputs L e → r = told inputs (ins [] (madeT (edgeV L e) inputs.toNat []))) ∧ (¬ OfAsk inputs L e → r = (0, [], -1))
theorem edgeV_01 {inputs : Int} {L : List S121} (h : CV inputs L) {e : Int} (he : 0 ≤ e ∧ e ≤ 2 * (1 + inputs + (L.length : Int)) - 1) {bits : List Int} (hb : BitRow bits) (hl : (bits.length : Int) = inputs) : edgeV L e bits = 0 ∨ edgeV L e bits = 1 := by
  obtain ⟨_, k2, k3⟩ := impl_values_val h hl hb
  exact edv_01 k2 he.1 (by rw [k3]; omega)
theorem ofIs_ex (inputs : Int) (L : List S121) (e : Int) : ∃ r, OfIs inputs L e r ∧ r.2.1.length ≤ 2000 := by
  by_cases c : OfAsk inputs L e
  · refine ⟨_, ⟨fun _ => rfl, fun h => absurd c h⟩, ?_⟩
    have h0 := c.1.i0
    have := (dv_ins (dv_nil c.1.i0 c.1.i12) (madeT_ok (dv_nil c.1.i0 c.1.i12) (edgeV L e) (fun b hb hl => edgeV_01 c.1 c.2 hb hl) inputs.toNat [] (fun x hx => by simp at hx) (by simp; omega))).1.len
    unfold told
    split
    · exact Nat.zero_le _
    · exact this
  · exact ⟨(0, [], -1), ⟨fun h => absurd h c, fun _ => rfl⟩, Nat.zero_le _⟩
theorem shl_pow (m : Nat) (h : m ≤ 12) : shl .i64 1 (m : Int) = ((2 ^ m : Nat) : Int) := by
  have : m = 0 ∨ m = 1 ∨ m = 2 ∨ m = 3 ∨ m = 4 ∨ m = 5 ∨ m = 6 ∨ m = 7 ∨ m = 8 ∨ m = 9 ∨ m = 10 ∨ m = 11 ∨ m = 12 := by omega
  rcases this with rfl | rfl | rfl | rfl | rfl | rfl | rfl | rfl | rfl | rfl | rfl | rfl | rfl <;> rfl
theorem spec_of_loop {m : Nat} {L : List S121} (h : CV (m : Int) L) {e : Int} (he : 0 ≤ e ∧ e ≤ 2 * (1 + (m : Int) + (L.length : Int)) - 1) : ∀ (d i : Nat), i + d = 2 ^ m →
    Ev (fun k => spec_DiagramOf.l0 k e ((List.range i).map (fun j => edgeV L e (bitsD ((j : Nat) : Int) m))) (i : Int) (m : Int) L) (told (m : Int) (ins [] (madeT (edgeV L e) m []))) := by
  have h12 := h.i12
  have hp : (2 : Nat) ^ m ≤ 4096 := Nat.le_trans (Nat.pow_le_pow_right (by decide) (show m ≤ 12 by omega)) (by decide)
  intro d
  induction d with
  | zero =>
    intro i hi
    have hi2 : i = 2 ^ m := by omega
    subst hi2
    refine Ev.step (Ev.pos (by omega) ?_) (fun k => spec_DiagramOf.l0.eq_2 ..)
    rw [shl_pow m (by omega)]
    have ev : (List.range (2 ^ m)).map (fun j => edgeV L e (bitsD ((j : Nat) : Int) m)) = allvals (edgeV L e) m [] := (allvals_rows (edgeV L e) m []).symm
    rw [ev]
    have hb : BitRow (allvals (edgeV L e) m []) := by
      rw [← ev]
      intro x hx
      obtain ⟨j, _, rfl⟩ := List.mem_map.mp hx
      exact edgeV_01 h he (bitsD_bits _ _) (by rw [bitsD_length])
    have hT := rows_made (edgeV L e) m []
    have hr := spec_rows m [] 0 (allvals (edgeV L e) m []) (dv_nil h.i0 h.i12) (Int.le_refl _) (by omega) (allvals_len _ _ _) hb
    rw [show rowsT m 0 (allvals (edgeV L e) m []) = madeT (edgeV L e) m [] from hT] at hr
    refine Ev.neg (by omega) (Ev.bind hr (Ev.bind (a := told (m : Int) (ins [] (madeT (edgeV L e) m []))) (Ev.const ?_) (Ev.val _)))
    unfold spec_l8Told.f told
    by_cases c : (ins [] (madeT (edgeV L e) m [])).2 < 0
    · rw [if_pos c, if_pos c]
    · rw [if_neg c, if_neg c]
  | succ d ih =>
    intro i hi
    refine Ev.step (Ev.pos (by omega) ?_) (fun k => spec_DiagramOf.l0.eq_2 ..)
    rw [shl_pow m (by omega)]
    have hbl : ((bitsD (i : Int) m).length : Int) = (m : Int) := by rw [bitsD_length]
    obtain ⟨_, k2, k3⟩ := impl_values_val h hbl (bitsD_bits _ _)
    refine Ev.pos (by omega) (Ev.bind (spec_value (i : Int) (by omega) m (by omega)) (Ev.bind (spec_run_val h hbl (bitsD_bits _ _)) (Ev.bind (Ev.const (spec_l7Of_val k2 (by have := h.len; omega) he.1 (by rw [k3]; omega))) (Ev.pos (by simp; omega) ?_))))
    rw [wsucc i (by omega)]
    have e1 : (List.range i).map (fun j => edgeV L e (bitsD ((j : Nat) : Int) m)) ++ [edv (allNodes L (bitsD (i : Int) m)) e] = (List.range (i + 1)).map (fun j => edgeV L e (bitsD ((j : Nat) : Int) m)) := by
      rw [List.range_succ, List.map_append]
      rfl
    rw [e1]
    exact ih (i + 1) (by omega)
theorem spec_of {inputs e : Int} {L : List S121} {r : Int × List S71 × Int} (h : OfIs inputs L e r) : Ev (fun k => spec_DiagramOf.f k inputs L e) r := by
  obtain ⟨hy, hn⟩ := h
  unfold spec_DiagramOf.f
  have e0 : Ev (fun k => spec_DiagramOf.j0 k e true inputs L) (0, [], -1) := Ev.step (Ev.pos rfl (Ev.val _)) (fun k => spec_DiagramOf.j0.eq_2 ..)
  obtain ⟨q, hb, h1⟩ := spec_cv inputs L
  cases q with
  | false =>
    rw [hn (fun h => by have := h1.2 h.1; cases this)]
    exact Ev.bind hb (Ev.neg (by decide) e0)
  | true =>
    have hd := h1.1 rfl
    refine Ev.bind hb (Ev.pos rfl (Ev.bind (Ev.const (spec_edge hd e)) ?_))
    by_cases c : 0 ≤ e ∧ e ≤ 2 * (1 + inputs + (L.length : Int)) - 1
    · rw [decide_eq_true c, hy ⟨hd, c⟩]
      obtain ⟨m, rfl⟩ := Int.eq_ofNat_of_zero_le hd.i0
      exact Ev.step (Ev.neg (by decide) (spec_of_loop hd c (2 ^ m) 0 (by omega))) (fun k => spec_DiagramOf.j0.eq_2 ..)
    · rw [decide_eq_false c, hn (fun h => c h.2)]
      exact e0
theorem is_val {inputs e : Int} {L : List S121} (h : OfAsk inputs L e) {bits : List Int} (hb : BitRow bits) (hl : (bits.length : Int) = inputs) : Ev (fun k => impl_DiagramOf.is k inputs L e bits) (edgeV L e bits == 1) := by
  obtain ⟨k1, k2, k3⟩ := impl_values_val h.1 hl hb
  have h12 := h.1.i12
  unfold impl_DiagramOf.is
  exact Ev.bind k1 (Ev.bind (Ev.const (impl_edgeOf_val k2 (by have := h.1.len; omega) h.2.1 (by rw [k3]; have := h.2.2; omega))) (Ev.val _))
theorem of_v {inputs e : Int} {L : List S121} {r : Int × List S71 × Int} (h : OfIs inputs L e r) : Ev (fun k => impl_DiagramOf.f k inputs L e) r := by
  obtain ⟨hy, hn⟩ := h
  unfold impl_DiagramOf.f
  obtain ⟨q, hb, h1⟩ := impl_cv inputs L
  refine Ev.bind hb ?_
  cases q with
  | false =>
    rw [hn (fun h => by have := h1.2 h.1; cases this)]
    exact Ev.pos rfl (Ev.val _)
  | true =>
    have hd := h1.1 rfl
    refine Ev.neg (by decide) (Ev.bind (Ev.const (impl_edge hd e)) ?_)
    by_cases c : 0 ≤ e ∧ e ≤ 2 * (1 + inputs + (L.length : Int)) - 1
    · have ask : OfAsk inputs L e := ⟨hd, c⟩
      rw [decide_eq_true c, hy ask]
      obtain ⟨m, rfl⟩ := Int.eq_ofNat_of_zero_le hd.i0
      have dn := dv_nil hd.i0 hd.i12
      have w0 : WInv (m : Int) (fs0 (m : Int) []) := ⟨rfl, rfl, Nat.zero_le _⟩
      obtain ⟨s', n, ⟨K, hK⟩, w1, _, _, _, g⟩ := made_val hd.i12 (fun k => impl_DiagramOf.is k (m : Int) L e) (edgeV L e) (fun b hb hl => ⟨edgeV_01 hd c hb hl, is_val ask hb hl⟩) m (fs0 (m : Int) []) [] w0 (by simp) (fun x hx => by simp at hx)
      obtain ⟨gn, gy⟩ := g rfl dn
      have gn' : (ins [] (madeT (edgeV L e) m [])).2 < 0 → s'.full = true := gn
      have gy' : 0 ≤ (ins [] (madeT (edgeV L e) m [])).2 → s'.full = false ∧ s'.forks = (ins [] (madeT (edgeV L e) m [])).1 ∧ n = (ins [] (madeT (edgeV L e) m [])).2 := gy
      have ev : Ev (fun k => impl_forking_made.f k (impl_DiagramOf.is k (m : Int) L e) (fs0 (m : Int) []) []) (s', n) := ⟨K, fun k hk => hK k k hk hk⟩
      refine Ev.neg (by decide) (Ev.bind (Ev.const (forkingOf_val dn)) (Ev.bind ev (Ev.const ?_)))
      show impl_forking_done.f s' n = told (m : Int) (ins [] (madeT (edgeV L e) m []))
      rw [done_val s' n w1.len]
      unfold told
      by_cases cn : (ins [] (madeT (edgeV L e) m [])).2 < 0
      · rw [if_pos cn, if_pos (gn' cn)]
      · obtain ⟨z1, z2, z3⟩ := gy' (by omega)
        rw [if_neg cn, if_neg (by rw [z1]; decide), w1.vs, z2, z3]
    · rw [decide_eq_false c, hn (fun h => c h.2)]
      exact Ev.pos rfl (Ev.val _)
theorem wnat (i : Nat) (h : i ≤ 1000000000000) : wrap64 ((i : Int) + 1) = ((i + 1 : Nat) : Int) := by rw [w_id (by omega) (by omega)]; omega
theorem eq_forks_loop (l : List S71) (hl : l.length ≤ 4611686018427387904) : ∀ (d i : Nat), i + d = l.length → Ev (fun k => laws_eqForkS.l0 k l l (i : Int)) true := by
  intro d
  induction d with
  | zero =>
    intro i hi
    exact Ev.step (Ev.neg (by omega) (Ev.val _)) (fun k => laws_eqForkS.l0.eq_2 ..)
  | succ d ih =>
    intro i hi
    have hwi : wrap64 ((i : Int) + 1) = ((i + 1 : Nat) : Int) := by rw [w_id (by omega) (by omega)]; omega
    refine Ev.step ?_ (fun k => laws_eqForkS.l0.eq_2 ..)
    rw [hwi]
    exact Ev.pos (by omega) (Ev.pos (by omega) (Ev.pos (by omega) (Ev.bind (Ev.const (by unfold laws_eqFork.f; simp)) (Ev.pos rfl (ih (i + 1) (by omega))))))
theorem eq_diagram (a : Int) (l : List S71) (hl : l.length ≤ 4611686018427387904) : Ev (fun k => laws_eqDiagram.f k a l a l) true := by
  unfold laws_eqDiagram.f
  refine Ev.pos rfl (Ev.bind (a := true) ?_ (Ev.pos rfl (Ev.val _)))
  unfold laws_eqForkS.f
  exact Ev.pos rfl (eq_forks_loop l hl l.length 0 (by omega))
theorem rdSetF {L : List S71} {i : Nat} (x : S71) (h : i < L.length) : rd_T71 (L.set i x) (i : Int) = x := by rw [rdF (by simpa using h), List.getElem_set_self]
/-- The numbers that the law writes into forks. -/
def markF (c : Nat) : S71 := ⟨1 + 3 * (c : Int), 2 + 3 * (c : Int), 3 + 3 * (c : Int)⟩
theorem mark_forks_loop (n : Nat) (hn : n ≤ 1048576) : ∀ (d i : Nat) (c : Int) (ys : List S71), i + d = n → ys.length = n → c = 1 + 3 * (i : Int) → (∀ q (h : q < ys.length), q < i → ys[q] = markF q) →
    ∃ zs, Ev (fun k => laws_markForkS.l0 k ys c (i : Int)) (1 + 3 * (n : Int), zs) ∧ zs.length = n ∧ ∀ q (h : q < zs.length), zs[q] = markF q := by
  intro d
  induction d with
  | zero =>
    intro i c ys hi hy hc hq
    have : i = n := by omega
    subst this
    subst hc
    exact ⟨ys, Ev.step (Ev.neg (by omega) (Ev.val _)) (fun k => laws_markForkS.l0.eq_2 ..), hy, fun q h => hq q h (by omega)⟩
  | succ d ih =>
    intro i c ys hi hy hc hq
    have hwi := wnat i (by omega)
    have w1 : wrap64 (c + 1) = c + 1 := w_id (by omega) (by omega)
    have w2 : wrap64 (c + 1 + 1) = c + 1 + 1 := w_id (by omega) (by omega)
    have w3 : wrap64 (c + 1 + 1 + 1) = c + 1 + 1 + 1 := w_id (by omega) (by omega)
    have hil : i < ys.length := by omega
    have key := ih (i + 1) (c + 1 + 1 + 1) (ys.set i (markF i)) (by omega) (by simpa using hy) (by omega) (fun q h hqi => by
      rw [List.length_set] at h
      by_cases e : q = i
      · subst e
        rw [List.getElem_set_self]
      · rw [List.getElem_set_ne (fun e2 => e e2.symm)]
        exact hq q h (by omega))
    obtain ⟨zs, e1, e2, e3⟩ := key
    refine ⟨zs, Ev.step ?_ (fun k => laws_markForkS.l0.eq_2 ..), e2, e3⟩
    simp only [w1, w2, w3, hwi, Int.toNat_natCast, Option.bind_some]
    refine Ev.pos (by omega) (Ev.pos (by omega) ?_)
    have e : ((ys.set i (⟨c, (rd_T71 ys (i : Int)).f1, (rd_T71 ys (i : Int)).f2⟩ : S71)).set i (⟨(rd_T71 (ys.set i (⟨c, (rd_T71 ys (i : Int)).f1, (rd_T71 ys (i : Int)).f2⟩ : S71)) (i : Int)).f0, c + 1, (rd_T71 (ys.set i (⟨c, (rd_T71 ys (i : Int)).f1, (rd_T71 ys (i : Int)).f2⟩ : S71)) (i : Int)).f2⟩ : S71)) = ys.set i ⟨c, c + 1, (rd_T71 ys (i : Int)).f2⟩ := by
      rw [rdSetF _ hil, List.set_set]
    rw [e, rdSetF _ hil, List.set_set]
    have e4 : (⟨c, c + 1, c + 1 + 1⟩ : S71) = markF i := by
      unfold markF
      rw [hc]
      congr 1 <;> omega
    rw [e4]
    exact e1
theorem mark_diagram (a : Int) (l : List S71) (hl : l.length ≤ 1048576) : ∃ zs, Ev (fun k => laws_markDiagram.f k a l 1) (1 + 3 * (l.length : Int), zs) ∧ zs.length = l.length ∧ ∀ q (h : q < zs.length), zs[q] = markF q := by
  obtain ⟨zs, h1, h2, h3⟩ := mark_forks_loop l.length hl l.length 0 1 l (by omega) rfl (by omega) (fun q h hq => absurd hq (by omega))
  refine ⟨zs, ?_, h2, h3⟩
  unfold laws_markDiagram.f
  refine Ev.bind (a := (1 + 3 * (l.length : Int), zs)) ?_ (Ev.val _)
  unfold laws_markForkS.f
  exact h1
theorem held_forks_loop (zs : List S71) (hn : zs.length ≤ 1048576) (hz : ∀ q (h : q < zs.length), zs[q] = markF q) : ∀ (d i : Nat) (c : Int), i + d = zs.length → c = 1 + 3 * (i : Int) → Ev (fun k => laws_heldForkS.l0 k zs c (i : Int)) (1 + 3 * (zs.length : Int)) := by
  intro d
  induction d with
  | zero =>
    intro i c hi hc
    subst hc
    exact Ev.step (Ev.neg (by omega) (Ev.valEq (by omega))) (fun k => laws_heldForkS.l0.eq_2 ..)
  | succ d ih =>
    intro i c hi hc
    have hwi := wnat i (by omega)
    have w1 : wrap64 (c + 1) = c + 1 := w_id (by omega) (by omega)
    have w2 : wrap64 (c + 1 + 1) = c + 1 + 1 := w_id (by omega) (by omega)
    have w3 : wrap64 (c + 1 + 1 + 1) = c + 1 + 1 + 1 := w_id (by omega) (by omega)
    have hil : i < zs.length := by omega
    refine Ev.step ?_ (fun k => laws_heldForkS.l0.eq_2 ..)
    simp only [w1, w2, w3, hwi]
    rw [rdF hil, hz i hil]
    exact Ev.pos (by omega) (Ev.pos (by omega) (Ev.pos (by unfold markF; simp only; omega) (Ev.pos (by unfold markF; simp only; omega) (Ev.pos (by unfold markF; simp only; omega) (ih (i + 1) _ (by omega) (by omega))))))
theorem held_diagram (a : Int) (zs : List S71) (hn : zs.length ≤ 1048576) (hz : ∀ q (h : q < zs.length), zs[q] = markF q) : Ev (fun k => laws_heldDiagram.f k a zs 1) (1 + 3 * (zs.length : Int)) := by
  unfold laws_heldDiagram.f
  refine Ev.bind (a := 1 + 3 * (zs.length : Int)) ?_ (Ev.neg (by omega) (Ev.val _))
  unfold laws_heldForkS.f
  exact held_forks_loop zs hn hz zs.length 0 1 (by omega) (by omega)
/-! #### the law's own copies of circuits -/
theorem sz_gates (l : List S126) (h : l.length ≤ maxLen) : ∃ z, laws_szAndS.f l 1048576 = some z ∧ (z < 0 ∨ l.length ≤ 1048576) := by
  unfold laws_szAndS.f
  simp only [maxLen] at h
  rw [w_id (by omega) (by omega)]
  by_cases c : 1048576 - (l.length : Int) < 0
  · rw [if_pos c]
    exact ⟨_, rfl, .inl (by decide)⟩
  · rw [if_neg c]
    exact ⟨_, rfl, .inr (by omega)⟩
theorem sz_circuit (a : Int) (l : List S126) (h : l.length ≤ maxLen) : ∃ z, laws_szCircuit.f a l 1048576 = some z ∧ (z < 0 ∨ l.length ≤ 1048576) := by
  obtain ⟨z, h1, h2⟩ := sz_gates l h
  unfold laws_szCircuit.f
  rw [h1, Option.bind_some]
  by_cases c : z < 0
  · rw [if_pos c]
    exact ⟨_, rfl, .inl (by decide)⟩
  · rw [if_neg c]
    exact ⟨_, rfl, h2⟩
theorem to_gates_loop (l : List S126) (hl : l.length ≤ 1048576) : ∀ (d i : Nat) (ys : List S121), i + d = l.length → ys.length = l.length →
    ∃ r, Ev (fun k => laws_toAndS.l0 k l ys (i : Int)) r ∧ r.length = l.length := by
  intro d
  induction d with
  | zero =>
    intro i ys hi hy
    exact ⟨ys, Ev.step (Ev.neg (by omega) (Ev.val _)) (fun k => laws_toAndS.l0.eq_2 ..), hy⟩
  | succ d ih =>
    intro i ys hi hy
    have hwi := wnat i (by omega)
    obtain ⟨r, hr, hl2⟩ := ih (i + 1) (ys.set i (⟨(rd_T126 l (i : Int)).f0, (rd_T126 l (i : Int)).f1⟩ : S121)) (by omega) (by simpa using hy)
    refine ⟨r, Ev.step ?_ (fun k => laws_toAndS.l0.eq_2 ..), hl2⟩
    rw [hwi, Int.toNat_natCast]
    exact Ev.pos (by omega) (Ev.pos (by omega) (Ev.bind (Ev.const (by unfold laws_toAnd.f; rfl)) (Ev.pos (by omega) hr)))
theorem to_circuit (a : Int) (l : List S126) (hl : l.length ≤ 1048576) : ∃ L, Ev (fun k => laws_toCircuit.f k a l) (a, L) ∧ L.length = l.length := by
  obtain ⟨r, hr, hl2⟩ := to_gates_loop l hl l.length 0 (List.replicate l.length z121) (by omega) (by simp)
  refine ⟨r, ?_, hl2⟩
  unfold laws_toCircuit.f
  refine Ev.bind (a := r) ?_ (Ev.val _)
  unfold laws_toAndS.f
  refine Ev.pos (by omega) (Ev.pos (by omega) ?_)
  rw [Int.toNat_natCast]
  exact hr
theorem eq_gates_loop (l : List S121) (hl : l.length ≤ 4611686018427387904) : ∀ (d i : Nat), i + d = l.length → Ev (fun k => laws_eqAndS.l0 k l l (i : Int)) true := by
  intro d
  induction d with
  | zero =>
    intro i hi
    exact Ev.step (Ev.neg (by omega) (Ev.val _)) (fun k => laws_eqAndS.l0.eq_2 ..)
  | succ d ih =>
    intro i hi
    have hwi : wrap64 ((i : Int) + 1) = ((i + 1 : Nat) : Int) := by rw [w_id (by omega) (by omega)]; omega
    refine Ev.step ?_ (fun k => laws_eqAndS.l0.eq_2 ..)
    rw [hwi]
    exact Ev.pos (by omega) (Ev.pos (by omega) (Ev.pos (by omega) (Ev.bind (Ev.const (by unfold laws_eqAnd.f; simp)) (Ev.pos rfl (ih (i + 1) (by omega))))))
theorem eq_circuit (a : Int) (l : List S121) (hl : l.length ≤ 4611686018427387904) : Ev (fun k => laws_eqCircuit.f k a l a l) true := by
  unfold laws_eqCircuit.f
  refine Ev.pos rfl (Ev.bind (a := true) ?_ (Ev.pos rfl (Ev.val _)))
  unfold laws_eqAndS.f
  exact Ev.pos rfl (eq_gates_loop l hl l.length 0 (by omega))
theorem rdSetG {L : List S121} {i : Nat} (x : S121) (h : i < L.length) : rd_T121 (L.set i x) (i : Int) = x := by rw [rdG (by simpa using h), List.getElem_set_self]
/-- The numbers that the law writes into gates. -/
def markG (c : Nat) : S121 := ⟨1 + 2 * (c : Int), 2 + 2 * (c : Int)⟩
theorem mark_gates_loop (n : Nat) (hn : n ≤ 1048576) : ∀ (d i : Nat) (c : Int) (ys : List S121), i + d = n → ys.length = n → c = 1 + 2 * (i : Int) → (∀ q (h : q < ys.length), q < i → ys[q] = markG q) →
    ∃ zs, Ev (fun k => laws_markAndS.l0 k ys c (i : Int)) (1 + 2 * (n : Int), zs) ∧ zs.length = n ∧ ∀ q (h : q < zs.length), zs[q] = markG q := by
  intro d
  induction d with
  | zero =>
    intro i c ys hi hy hc hq
    have : i = n := by omega
    subst this
    subst hc
    exact ⟨ys, Ev.step (Ev.neg (by omega) (Ev.val _)) (fun k => laws_markAndS.l0.eq_2 ..), hy, fun q h => hq q h (by omega)⟩
  | succ d ih =>
    intro i c ys hi hy hc hq
    have hwi := wnat i (by omega)
    have w1 : wrap64 (c + 1) = c + 1 := w_id (by omega) (by omega)
    have w2 : wrap64 (c + 1 + 1) = c + 1 + 1 := w_id (by omega) (by omega)
    have hil : i < ys.length := by omega
    have key := ih (i + 1) (c + 1 + 1) (ys.set i (markG i)) (by omega) (by simpa using hy) (by omega) (fun q h hqi => by
      rw [List.length_set] at h
      by_cases e : q = i
      · subst e
        rw [List.getElem_set_self]
      · rw [List.getElem_set_ne (fun e2 => e e2.symm)]
        exact hq q h (by omega))
    obtain ⟨zs, e1, e2, e3⟩ := key
    refine ⟨zs, Ev.step ?_ (fun k => laws_markAndS.l0.eq_2 ..), e2, e3⟩
    simp only [w1, w2, hwi, Int.toNat_natCast, Option.bind_some]
    refine Ev.pos (by omega) (Ev.pos (by omega) ?_)
    rw [rdSetG _ hil, List.set_set]
    have e4 : (⟨c, c + 1⟩ : S121) = markG i := by
      unfold markG
      rw [hc]
      congr 1
      omega
    rw [e4]
    exact e1
theorem mark_circuit (a : Int) (l : List S121) (hl : l.length ≤ 1048576) : ∃ zs, Ev (fun k => laws_markCircuit.f k a l 1) (1 + 2 * (l.length : Int), zs) ∧ zs.length = l.length ∧ ∀ q (h : q < zs.length), zs[q] = markG q := by
  obtain ⟨zs, h1, h2, h3⟩ := mark_gates_loop l.length hl l.length 0 1 l (by omega) rfl (by omega) (fun q h hq => absurd hq (by omega))
  refine ⟨zs, ?_, h2, h3⟩
  unfold laws_markCircuit.f
  refine Ev.bind (a := (1 + 2 * (l.length : Int), zs)) ?_ (Ev.val _)
  unfold laws_markAndS.f
  exact h1

theorem FnExactDiagramOf : laws_FnExactDiagramOf.Pure := by
  intro a0 l0 a1 _ hl _
  apply Ev.get
  unfold laws_FnExactDiagramOf.f
  obtain ⟨z, hz1, hz2⟩ := sz_circuit a0 l0 hl.1
  refine Ev.bind (Ev.const hz1) ?_
  by_cases c : z < 0
  · exact Ev.pos c (Ev.val _)
  refine Ev.neg c ?_
  have hl0 : l0.length ≤ 1048576 := by omega
  obtain ⟨L, hL, hLl⟩ := to_circuit a0 l0 hl0
  obtain ⟨⟨r1, R, r3⟩, ht, hR⟩ := ofIs_ex a0 L a1
  have hs : Ev (fun k => spec_DiagramOf.f k a0 L a1) (r1, R, r3) := spec_of ht
  have hi : Ev (fun k => impl_DiagramOf.f k a0 L a1) (r1, R, r3) := of_v ht
  have hR2 : R.length ≤ 2000 := hR
  obtain ⟨zs, hm, hml, _⟩ := mark_circuit a0 L (by omega)
  obtain ⟨ys, hn, hnl, hny⟩ := mark_diagram r1 R (by omega)
  have hh := held_diagram r1 ys (by omega) hny
  rw [hnl] at hh
  have j2 : Ev (fun k => laws_FnExactDiagramOf.j2 k (1 + 3 * (R.length : Int)) (r3 != r3) r1 ys) true := by
    refine Ev.step (Ev.neg (by simp) (Ev.bind hh (Ev.neg (by omega) (Ev.pos rfl (Ev.val _))))) (fun k => laws_FnExactDiagramOf.j2.eq_2 ..)
  have j1 : Ev (fun k => laws_FnExactDiagramOf.j1 k a1 r3 (r3 != r3) a0 l0 r1 R r1 R) true :=
    Ev.step (Ev.neg (by simp) (Ev.bind hn (Ev.bind hh (Ev.neg (by omega) (Ev.pos rfl (Ev.bind hL (Ev.bind hi (Ev.bind (eq_diagram r1 R (by omega)) (Ev.pos rfl j2))))))))) (fun k => laws_FnExactDiagramOf.j1.eq_2 ..)
  have j0 : Ev (fun k => laws_FnExactDiagramOf.j0 k a1 r3 r3 (r3 != r3) a0 l0 r1 R a0 L r1 R) true :=
    Ev.step (Ev.neg (by simp) (Ev.bind hL (Ev.bind (eq_circuit a0 L (by omega)) (Ev.pos rfl (Ev.bind hm (Ev.neg (by simp only; omega) (Ev.bind (eq_diagram r1 R (by omega)) (Ev.pos rfl j1)))))))) (fun k => laws_FnExactDiagramOf.j0.eq_2 ..)
  exact Ev.bind hL (Ev.bind hs (Ev.bind hL (Ev.bind hi (Ev.bind (eq_diagram r1 R (by omega)) (Ev.pos rfl j0)))))

end Go.Proofs.Ytpcompnmadpljaa.Pure
