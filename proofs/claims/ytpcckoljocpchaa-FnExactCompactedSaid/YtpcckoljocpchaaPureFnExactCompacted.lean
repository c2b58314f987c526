/- FnExactCompacted: the program's Compacted tells what the reference's tells, whatever is handed in, and keeps none of what was handed in. -/
import Derived.Test.YtpcckoljocpchaaQFnExactCompactedx9
namespace Go.Proofs.Ytpcckoljocpchaa.Pure
open Go.RowKit Go.Proofs.Ytpcckoljocpchaa.QFnExactCompacted Go.Proofs.YtpcckoljocpchaaW.PrintWords Go.Proofs.YtpcckoljocpchaaW.PrintLast Go.Proofs.YtpcckoljocpchaaW.PrintMore
set_option linter.unusedVariables false
set_option linter.unusedSimpArgs false

/-! #### rounds -/
/-- From some number of rounds on, g tells r. -/
def Ev {α : Type} (g : Nat → Option α) (r : α) : Prop := ∃ K, ∀ k, K ≤ k → g k = some r
theorem Ev.val {α : Type} (r : α) : Ev (fun _ => some r) r := ⟨0, fun _ _ => rfl⟩
theorem Ev.valEq {α : Type} {r r' : α} (h : r = r') : Ev (fun _ => some r) r' := ⟨0, fun _ _ => by rw [h]⟩
theorem Ev.const {α : Type} {g : Option α} {r : α} (h : g = some r) : Ev (fun _ => g) r := ⟨0, fun _ _ => h⟩
theorem Ev.bind {α β : Type} {g : Nat → Option α} {f : Nat → α → Option β} {a : α} {b : β} (h : Ev g a) (h2 : Ev (fun k => f k a) b) : Ev (fun k => (g k).bind (f k)) b := by
  obtain ⟨K, hK⟩ := h
  obtain ⟨L, hL⟩ := h2
  exact ⟨max K L, fun k hk => by show (g k).bind (f k) = _; rw [hK k (by omega)]; exact hL k (by omega)⟩
theorem Ev.step {α : Type} {g g' : Nat → Option α} {r : α} (h : Ev g' r) (e : ∀ k, g (k + 1) = g' k) : Ev g r := by
  obtain ⟨K, hK⟩ := h
  exact ⟨K + 1, fun k hk => by
    obtain ⟨m, rfl⟩ : ∃ m, k = m + 1 := ⟨k - 1, by omega⟩
    rw [e]
    exact hK m (by omega)⟩
theorem Ev.pos {α : Type} {c : Prop} [Decidable c] {g g' : Nat → Option α} {r : α} (hc : c) (h : Ev g r) : Ev (fun k => if c then g k else g' k) r := by
  obtain ⟨K, hK⟩ := h
  exact ⟨K, fun k hk => by simp only [if_pos hc]; exact hK k hk⟩
theorem Ev.neg {α : Type} {c : Prop} [Decidable c] {g g' : Nat → Option α} {r : α} (hc : ¬ c) (h : Ev g' r) : Ev (fun k => if c then g k else g' k) r := by
  obtain ⟨K, hK⟩ := h
  exact ⟨K, fun k hk => by simp only [if_neg hc]; exact hK k hk⟩
theorem Ev.get {α : Type} {g : Nat → Option α} {r : α} (h : Ev g r) : ∃ k, g k = some r := by
  obtain ⟨K, hK⟩ := h
  exact ⟨K, hK K (Nat.le_refl _)⟩
/-! #### numbers -/
theorem w_id {x : Int} (h0 : -9223372036854775808 ≤ x) (h1 : x ≤ 9223372036854775807) : wrap64 x = x := by
  unfold wrap64
  omega
/-! #### lists -/
theorem rd_nat (l : List Int) (i : Nat) : rd l (i : Int) = l.getD i 0 := by
  unfold rd
  rw [Int.toNat_natCast]
theorem getD_lt {α : Type} {l : List α} {i : Nat} (h : i < l.length) (d : α) : l.getD i d = l[i] := by
  rw [List.getD_eq_getElem?_getD, List.getElem?_eq_getElem h]
  rfl
theorem rd_lt {l : List Int} {i : Nat} (h : i < l.length) : rd l (i : Int) = l[i] := by rw [rd_nat, getD_lt h]
theorem rd_set_eq {l : List Int} {i : Nat} {v : Int} (h : i < l.length) : rd (l.set i v) (i : Int) = v := by
  rw [rd_lt (by simpa using h)]
  simp
theorem rd_set_ne {l : List Int} {i j : Nat} {v : Int} (h : i ≠ j) : rd (l.set i v) (j : Int) = rd l (j : Int) := by
  rw [rd_nat, rd_nat, List.getD_eq_getElem?_getD, List.getD_eq_getElem?_getD, List.getElem?_set_ne h]
/-! #### diagrams, plainly: forks that are added once -/
/-- A tree of decisions over places. -/
inductive DT where
  | leaf (n : Int)
  | fork (v : Int) (lo hi : DT)
def dfind (L : List S56) (x : S56) : Option Nat := L.findIdx? (fun y => decide (y = x))
def dadd (L : List S56) (v lo hi : Int) : List S56 × Int :=
  if lo < 0 ∨ hi < 0 then (L, -1) else if lo = hi then (L, lo) else
  match dfind L ⟨v, lo, hi⟩ with
  | some i => (L, (i : Int) + 2)
  | none => if 2000 ≤ L.length then (L, -1) else (L ++ [⟨v, lo, hi⟩], (L.length : Int) + 2)
def ins (L : List S56) : DT → List S56 × Int
  | .leaf n => (L, n)
  | .fork v lo hi => if (ins L lo).2 < 0 then (L, -1) else dadd (ins (ins L lo).1 hi).1 v (ins L lo).2 (ins (ins L lo).1 hi).2
theorem dfind_some {L : List S56} {x : S56} {i : Nat} (h : dfind L x = some i) : L[i]? = some x := by
  unfold dfind at h
  rw [List.findIdx?_eq_some_iff_getElem] at h
  obtain ⟨hi, h1, _⟩ := h
  rw [List.getElem?_eq_getElem hi]
  exact congrArg some (of_decide_eq_true h1)
theorem dfind_none {L : List S56} {x : S56} (h : dfind L x = none) : x ∉ L := by
  unfold dfind at h
  rw [List.findIdx?_eq_none_iff] at h
  intro hx
  have := h x hx
  simp at this
theorem dfind_mem {L : List S56} {x : S56} (h : x ∈ L) : ∃ i, dfind L x = some i := by
  cases hd : dfind L x with
  | some i => exact ⟨i, rfl⟩
  | none => exact absurd h (dfind_none hd)
theorem dfind_append {L : List S56} {x : S56} {i : Nat} (h : dfind L x = some i) (t : List S56) : dfind (L ++ t) x = some i := by
  unfold dfind at h ⊢
  rw [List.findIdx?_append, h]
  rfl
theorem dfind_new {L : List S56} {x : S56} (h : dfind L x = none) (t : List S56) : dfind (L ++ x :: t) x = some L.length := by
  unfold dfind at h ⊢
  rw [List.findIdx?_append, h, List.findIdx?_cons]
  simp
def NoDup (L : List S56) : Prop := ∀ (i : Nat) x, L[i]? = some x → x ∉ L.take i
theorem nodup_inj {L : List S56} (hn : NoDup L) {i j : Nat} (hi : i < L.length) (hj : j < L.length) (h : L[i] = L[j]) : i = j := by
  have key : ∀ a b : Nat, ∀ (ha : a < L.length) (hb : b < L.length), L[a] = L[b] → ¬ a < b := by
    intro a b ha hb he hab
    refine hn b _ (List.getElem?_eq_getElem hb) ?_
    rw [← he]
    refine List.mem_iff_getElem?.2 ⟨a, ?_⟩
    rw [List.getElem?_take, if_pos hab, List.getElem?_eq_getElem ha]
  rcases Nat.lt_trichotomy i j with h1 | h1 | h1
  · exact absurd h1 (key i j hi hj h)
  · exact h1
  · exact absurd h1 (key j i hj hi h.symm)
theorem neg1 {a : List S56} (h : 0 ≤ (a, (-1 : Int)).2) : False := absurd (show (0 : Int) ≤ -1 from h) (by decide)
theorem dfind_at {L : List S56} (hn : NoDup L) {x : S56} {i : Nat} (h : L[i]? = some x) : dfind L x = some i := by
  obtain ⟨j, hj⟩ := dfind_mem (List.mem_of_getElem? h)
  have h2 := dfind_some hj
  obtain ⟨h1, e1⟩ := List.getElem?_eq_some_iff.1 h
  obtain ⟨h3, e3⟩ := List.getElem?_eq_some_iff.1 h2
  have : j = i := nodup_inj hn h3 h1 (e3.trans e1.symm)
  rw [hj, this]
theorem dadd_ext (L : List S56) (v lo hi : Int) : L <+: (dadd L v lo hi).1 := by
  unfold dadd
  split
  · exact List.prefix_refl _
  split
  · exact List.prefix_refl _
  split
  · exact List.prefix_refl _
  split
  · exact List.prefix_refl _
  · exact List.prefix_append _ _
theorem ins_ext (L : List S56) (t : DT) : L <+: (ins L t).1 := by
  induction t generalizing L with
  | leaf n => exact List.prefix_refl _
  | fork v lo hi ihl ihh =>
    unfold ins
    split
    · exact List.prefix_refl _
    · exact (ihl L).trans ((ihh _).trans (dadd_ext _ _ _ _))
theorem dadd_stays {L : List S56} {v lo hi : Int} (h : 0 ≤ (dadd L v lo hi).2) {L2 : List S56} (he : (dadd L v lo hi).1 <+: L2) : dadd L2 v lo hi = (L2, (dadd L v lo hi).2) := by
  unfold dadd at h he ⊢
  by_cases c1 : lo < 0 ∨ hi < 0
  · rw [if_pos c1] at h
    exact (neg1 h).elim
  rw [if_neg c1] at h he ⊢
  by_cases c2 : lo = hi
  · rw [if_neg c1, if_pos c2, if_pos c2]
  rw [if_neg c2] at h he ⊢
  rw [if_neg c1, if_neg c2]
  cases hf : dfind L ⟨v, lo, hi⟩ with
  | some i =>
    simp only [hf] at h he ⊢
    obtain ⟨t, rfl⟩ := he
    rw [dfind_append hf t]
  | none =>
    simp only [hf] at h he ⊢
    by_cases c3 : 2000 ≤ L.length
    · rw [if_pos c3] at h
      exact (neg1 h).elim
    rw [if_neg c3] at h he ⊢
    obtain ⟨t, rfl⟩ := he
    rw [List.append_assoc, List.singleton_append, dfind_new hf t]
theorem dadd_nn {L : List S56} {v lo hi : Int} (h : 0 ≤ (dadd L v lo hi).2) : 0 ≤ lo ∧ 0 ≤ hi := by
  unfold dadd at h
  by_cases c1 : lo < 0 ∨ hi < 0
  · rw [if_pos c1] at h
    exact (neg1 h).elim
  · omega
/-- What is there stays: once told, told again of whatever comes behind. -/
theorem ins_stays {L : List S56} {t : DT} (h : 0 ≤ (ins L t).2) {L2 : List S56} (he : (ins L t).1 <+: L2) : ins L2 t = (L2, (ins L t).2) := by
  induction t generalizing L L2 with
  | leaf n => rfl
  | fork v lo hi ihl ihh =>
    unfold ins at h he
    by_cases c : (ins L lo).2 < 0
    · rw [if_pos c] at h
      exact (neg1 h).elim
    rw [if_neg c] at h he
    have e1 : (ins (ins L lo).1 hi).1 <+: L2 := (dadd_ext _ _ _ _).trans he
    have e0 : (ins L lo).1 <+: L2 := (ins_ext _ _).trans e1
    have h2 := (dadd_nn h).2
    have k1 := ihl (by omega) e0
    have k2 := ihh h2 e1
    have k3 := dadd_stays h he
    unfold ins
    rw [if_neg c, k1]
    simp only
    rw [if_neg c, k2]
    simp only
    rw [k3]
/-- The variable of a place; c at constants. -/
def dvar (c : Int) (L : List S56) (n : Int) : Int := if n < 2 then c else (L.getD (n - 2).toNat ⟨0, 0, 0⟩).f0
def Pl (L : List S56) (n : Int) : Prop := 0 ≤ n ∧ n ≤ (L.length : Int) + 1
structure DV (vars : Int) (L : List S56) : Prop where
  v0 : 0 ≤ vars
  v12 : vars ≤ 12
  len : L.length ≤ 2000
  nd : NoDup L
  ok : ∀ (i : Nat) x, L[i]? = some x → 0 ≤ x.f0 ∧ x.f0 < vars ∧ 0 ≤ x.f1 ∧ x.f1 ≤ (i : Int) + 1 ∧ 0 ≤ x.f2 ∧ x.f2 ≤ (i : Int) + 1 ∧ x.f1 ≠ x.f2 ∧ x.f0 < dvar vars L x.f1 ∧ x.f0 < dvar vars L x.f2
theorem Pl.ext {L L2 : List S56} {n : Int} (h : Pl L n) (he : L <+: L2) : Pl L2 n := ⟨h.1, by have := he.length_le; have := h.2; omega⟩
theorem getD_ext {L L2 : List S56} (he : L <+: L2) {i : Nat} (h : i < L.length) (z : S56) : L2.getD i z = L.getD i z := by
  obtain ⟨t, rfl⟩ := he
  rw [List.getD_eq_getElem?_getD, List.getD_eq_getElem?_getD, List.getElem?_append_left h]
theorem dvar_ext {c : Int} {L L2 : List S56} {n : Int} (h : Pl L n) (he : L <+: L2) : dvar c L2 n = dvar c L n := by
  unfold dvar
  by_cases h2 : n < 2
  · rw [if_pos h2, if_pos h2]
  · rw [if_neg h2, if_neg h2, getD_ext he (by have := h.2; omega)]
/-- The fork at a place that is none of the constants. -/
theorem DV.at_ {vars : Int} {L : List S56} (h : DV vars L) {n : Int} (hp : Pl L n) (h2 : ¬ n < 2) : ∃ x, L[(n - 2).toNat]? = some x ∧ L.getD (n - 2).toNat ⟨0, 0, 0⟩ = x ∧ dvar vars L n = x.f0 ∧ 0 ≤ x.f0 ∧ x.f0 < vars ∧ Pl L x.f1 ∧ Pl L x.f2 ∧ x.f1 < n ∧ x.f2 < n ∧ x.f1 ≠ x.f2 ∧ x.f0 < dvar vars L x.f1 ∧ x.f0 < dvar vars L x.f2 := by
  have hl : (n - 2).toNat < L.length := by have := hp.2; omega
  have hx : L[(n - 2).toNat]? = some L[(n - 2).toNat] := List.getElem?_eq_getElem hl
  obtain ⟨a1, a2, a3, a4, a5, a6, a7, a8, a9⟩ := h.ok _ _ hx
  have hd : L.getD (n - 2).toNat ⟨0, 0, 0⟩ = L[(n - 2).toNat] := by rw [List.getD_eq_getElem?_getD, hx]; rfl
  refine ⟨_, hx, hd, ?_, a1, a2, ⟨a3, ?_⟩, ⟨a5, ?_⟩, ?_, ?_, a7, a8, a9⟩
  · unfold dvar
    rw [if_neg h2, hd]
  all_goals (have := hp.2; omega)
theorem DV.dvar_le {vars : Int} {L : List S56} (h : DV vars L) {n : Int} (hp : Pl L n) : 0 ≤ dvar vars L n ∧ dvar vars L n ≤ vars := by
  by_cases h2 : n < 2
  · unfold dvar
    rw [if_pos h2]
    exact ⟨h.v0, Int.le_refl _⟩
  · obtain ⟨x, _, _, e, a, b, _⟩ := h.at_ hp h2
    omega
theorem dv_dadd {vars : Int} {L : List S56} (h : DV vars L) {v lo hi : Int} (hl : Pl L lo) (hh : Pl L hi) (v0 : 0 ≤ v) (v1 : v < vars) (hvl : v < dvar vars L lo) (hvh : v < dvar vars L hi) :
    DV vars (dadd L v lo hi).1 ∧ (0 ≤ (dadd L v lo hi).2 → Pl (dadd L v lo hi).1 (dadd L v lo hi).2 ∧ v ≤ dvar vars (dadd L v lo hi).1 (dadd L v lo hi).2) := by
  unfold dadd
  by_cases c1 : lo < 0 ∨ hi < 0
  · rw [if_pos c1]
    exact ⟨h, fun hn => (neg1 hn).elim⟩
  rw [if_neg c1]
  by_cases c2 : lo = hi
  · rw [if_pos c2]
    exact ⟨h, fun _ => ⟨hl, Int.le_of_lt hvl⟩⟩
  rw [if_neg c2]
  cases hf : dfind L ⟨v, lo, hi⟩ with
  | some i =>
    have hx := dfind_some hf
    obtain ⟨hi, _⟩ := List.getElem?_eq_some_iff.1 hx
    have hp : Pl L ((i : Int) + 2) := ⟨by omega, by omega⟩
    refine ⟨h, fun _ => ⟨hp, ?_⟩⟩
    show v ≤ dvar vars L ((i : Int) + 2)
    unfold dvar
    rw [if_neg (by omega), show ((i : Int) + 2 - 2).toNat = i by omega, List.getD_eq_getElem?_getD, hx]
    exact Int.le_refl _
  | none =>
    simp only
    by_cases c3 : 2000 ≤ L.length
    · rw [if_pos c3]
      exact ⟨h, fun hn => (neg1 hn).elim⟩
    rw [if_neg c3]
    have he : L <+: L ++ [⟨v, lo, hi⟩] := List.prefix_append _ _
    refine ⟨⟨h.v0, h.v12, by simp; omega, ?_, ?_⟩, fun _ => ⟨⟨by simp; omega, by simp; omega⟩, ?_⟩⟩
    · intro i x hx hm
      by_cases hil : i < L.length
      · rw [List.getElem?_append_left hil] at hx
        rw [List.take_append_of_le_length (by omega)] at hm
        exact h.nd i x hx hm
      · have hil : i = L.length := by
          have := (List.getElem?_eq_some_iff.1 hx).1
          simp at this
          omega
        subst hil
        have ex : x = ⟨v, lo, hi⟩ := by simpa using hx.symm
        subst ex
        rw [List.take_append_of_le_length (Nat.le_refl _), List.take_length] at hm
        exact dfind_none hf hm
    · intro i x hx
      by_cases hil : i < L.length
      · rw [List.getElem?_append_left hil] at hx
        obtain ⟨a1, a2, a3, a4, a5, a6, a7, a8, a9⟩ := h.ok _ _ hx
        have p1 : Pl L x.f1 := ⟨a3, by omega⟩
        have p2 : Pl L x.f2 := ⟨a5, by omega⟩
        rw [dvar_ext p1 he, dvar_ext p2 he]
        exact ⟨a1, a2, a3, a4, a5, a6, a7, a8, a9⟩
      · have hil : i = L.length := by
          have := (List.getElem?_eq_some_iff.1 hx).1
          simp at this
          omega
        subst hil
        have ex : x = ⟨v, lo, hi⟩ := by simpa using hx.symm
        subst ex
        refine ⟨v0, v1, hl.1, hl.2, hh.1, hh.2, c2, ?_, ?_⟩
        · rw [dvar_ext hl he]
          exact hvl
        · rw [dvar_ext hh he]
          exact hvh
    · show v ≤ dvar vars _ ((L.length : Int) + 2)
      unfold dvar
      rw [if_neg (by omega), show ((L.length : Int) + 2 - 2).toNat = L.length by omega, List.getD_eq_getElem?_getD]
      simp
/-- A tree whose leaves are places, its variables from m on, ascending. -/
def TOk (vars : Int) (L : List S56) : Int → DT → Prop
  | m, .leaf n => Pl L n ∧ m ≤ dvar vars L n
  | m, .fork v lo hi => m ≤ v ∧ 0 ≤ v ∧ v < vars ∧ TOk vars L (v + 1) lo ∧ TOk vars L (v + 1) hi
theorem TOk.ext {vars : Int} {L L2 : List S56} (he : L <+: L2) {t : DT} : ∀ {m : Int}, TOk vars L m t → TOk vars L2 m t := by
  induction t with
  | leaf n =>
    intro m h
    exact ⟨h.1.ext he, by rw [dvar_ext h.1 he]; exact h.2⟩
  | fork v lo hi ihl ihh =>
    intro m h
    exact ⟨h.1, h.2.1, h.2.2.1, ihl h.2.2.2.1, ihh h.2.2.2.2⟩
theorem dv_ins {vars : Int} {t : DT} : ∀ {L : List S56} {m : Int}, DV vars L → TOk vars L m t → DV vars (ins L t).1 ∧ (0 ≤ (ins L t).2 → Pl (ins L t).1 (ins L t).2 ∧ m ≤ dvar vars (ins L t).1 (ins L t).2) := by
  induction t with
  | leaf n =>
    intro L m h ht
    exact ⟨h, fun _ => ht⟩
  | fork v lo hi ihl ihh =>
    intro L m h ht
    obtain ⟨t1, t2, t3, t4, t5⟩ := ht
    unfold ins
    by_cases c : (ins L lo).2 < 0
    · rw [if_pos c]
      exact ⟨h, fun hn => (neg1 hn).elim⟩
    rw [if_neg c]
    obtain ⟨d1, p1⟩ := ihl h t4
    obtain ⟨p1, q1⟩ := p1 (by omega)
    obtain ⟨d2, p2⟩ := ihh d1 (t5.ext (ins_ext _ _))
    by_cases c2 : (ins (ins L lo).1 hi).2 < 0
    · have : dadd (ins (ins L lo).1 hi).1 v (ins L lo).2 (ins (ins L lo).1 hi).2 = ((ins (ins L lo).1 hi).1, -1) := by
        unfold dadd
        rw [if_pos (.inr c2)]
      rw [this]
      exact ⟨d2, fun hn => (neg1 hn).elim⟩
    obtain ⟨p2, q2⟩ := p2 (by omega)
    have he := ins_ext (ins L lo).1 hi
    obtain ⟨r1, r2⟩ := dv_dadd d2 (p1.ext he) p2 t2 t3 (by rw [dvar_ext p1 he]; omega) (by omega)
    exact ⟨r1, fun hn => ⟨(r2 hn).1, Int.le_trans t1 (r2 hn).2⟩⟩
/-! #### the reference's diagrams -/
theorem l1In_val (a b c : Int) : spec_l1In.f a b c = some (decide (b ≤ a ∧ a ≤ c)) := by
  unfold spec_l1In.f
  by_cases h : a ≥ b
  · rw [if_pos h]
    congr 1
    rw [decide_eq_decide]
    constructor
    · intro h2; exact ⟨h, h2⟩
    · intro h2; exact h2.2
  · rw [if_neg h]
    congr 1
    symm
    rw [decide_eq_false_iff_not]
    intro h2
    exact h h2.1
theorem rdF {L : List S56} {i : Nat} (h : i < L.length) : rd_T56 L (i : Int) = L[i] := by
  unfold rd_T56
  rw [Int.toNat_natCast, List.getD_eq_getElem?_getD, List.getElem?_eq_getElem h]
  rfl
theorem rdP {L : List S56} (n : Int) : rd_T56 L (n - 2) = L.getD (n - 2).toNat ⟨0, 0, 0⟩ := rfl
theorem l8Var_val (c : Int) {L : List S56} {n : Int} (hp : Pl L n) (hl : L.length ≤ 1000000000) : spec_l8Var.f c L n = some (dvar c L n) := by
  unfold spec_l8Var.f dvar
  have h1 := hp.1
  have h2 := hp.2
  by_cases h : n < 2
  · rw [if_pos h, if_pos h]
  · rw [if_neg h, if_neg h, w_id (by omega) (by omega), if_pos (by omega), if_pos (by omega), rdP]
/-- What the reference asks of a fork, the places of which are ahead of it. -/
def FOk (vars : Int) (L : List S56) (x : S56) (most : Int) : Prop := (0 ≤ x.f0 ∧ x.f0 ≤ vars - 1) ∧ (0 ≤ x.f1 ∧ x.f1 ≤ most) ∧ (0 ≤ x.f2 ∧ x.f2 ≤ most) ∧ x.f0 < dvar vars L x.f1 ∧ x.f0 < dvar vars L x.f2
theorem l8Fork_dec (vars : Int) (L : List S56) (x : S56) (most : Int) (hv : -9223372036854775807 ≤ vars ∧ vars ≤ 9223372036854775807) (hm : most ≤ (L.length : Int) + 1) (hl : L.length ≤ 1000000000) :
    ∃ b, Ev (fun k => spec_l8Fork.f k vars L x.f0 x.f1 x.f2 most) b ∧ (b = true ↔ FOk vars L x most) := by
  have hj : ∃ b, Ev (fun k => spec_l8Fork.j0 k true vars L x.f0 x.f1 x.f2) b ∧ b = false := ⟨false, Ev.step (Ev.pos rfl (Ev.val _)) (fun k => spec_l8Fork.j0.eq_2 ..), rfl⟩
  obtain ⟨b0, e0, rfl⟩ := hj
  unfold spec_l8Fork.f
  simp only [l1In_val, Option.bind_some, w_id (show -9223372036854775808 ≤ vars - 1 by omega) (by omega)]
  by_cases c1 : 0 ≤ x.f0 ∧ x.f0 ≤ vars - 1
  · rw [decide_eq_true c1]
    by_cases c2 : 0 ≤ x.f1 ∧ x.f1 ≤ most
    · rw [decide_eq_true c2]
      by_cases c3 : 0 ≤ x.f2 ∧ x.f2 ≤ most
      · rw [decide_eq_true c3]
        have p1 : Pl L x.f1 := ⟨c2.1, by omega⟩
        have p2 : Pl L x.f2 := ⟨c3.1, by omega⟩
        by_cases c4 : x.f0 < dvar vars L x.f1
        · refine ⟨decide (x.f0 < dvar vars L x.f2), Ev.pos rfl (Ev.pos rfl (Ev.step (Ev.neg (by decide) (Ev.bind (Ev.const (l8Var_val vars p1 hl)) (Ev.pos c4 (Ev.bind (Ev.const (l8Var_val vars p2 hl)) (Ev.val (decide (x.f0 < dvar vars L x.f2))))))) (fun k => spec_l8Fork.j0.eq_2 ..))), ?_⟩
          rw [decide_eq_true_eq]
          exact ⟨fun h => ⟨c1, c2, c3, c4, h⟩, fun h => h.2.2.2.2⟩
        · refine ⟨false, Ev.pos rfl (Ev.pos rfl (Ev.step (Ev.neg (by decide) (Ev.bind (Ev.const (l8Var_val vars p1 hl)) (Ev.neg c4 (Ev.val _)))) (fun k => spec_l8Fork.j0.eq_2 ..))), ?_⟩
          exact ⟨fun h => (by cases h), fun h => absurd h.2.2.2.1 c4⟩
      · rw [decide_eq_false c3]
        exact ⟨false, Ev.pos rfl (Ev.pos rfl e0), fun h => (by cases h), fun h => absurd h.2.2.1 c3⟩
    · rw [decide_eq_false c2]
      exact ⟨false, Ev.pos rfl (Ev.neg (by decide) e0), fun h => (by cases h), fun h => absurd h.2.1 c2⟩
  · rw [decide_eq_false c1]
    exact ⟨false, Ev.neg (by decide) e0, fun h => (by cases h), fun h => absurd h.1 c1⟩
/-- What is asked of the fork at i. -/
def OkAt (vars : Int) (L : List S56) (i : Nat) (h : i < L.length) : Prop := FOk vars L L[i] ((i : Int) + 1) ∧ L[i].f1 ≠ L[i].f2 ∧ L[i] ∉ L.take i
theorem dv_iff (vars : Int) (L : List S56) : DV vars L ↔ (0 ≤ vars ∧ vars ≤ 12) ∧ L.length ≤ 2000 ∧ ∀ i (h : i < L.length), OkAt vars L i h := by
  constructor
  · intro h
    refine ⟨⟨h.v0, h.v12⟩, h.len, fun i hi => ?_⟩
    obtain ⟨a1, a2, a3, a4, a5, a6, a7, a8, a9⟩ := h.ok i _ (List.getElem?_eq_getElem hi)
    exact ⟨⟨⟨a1, by omega⟩, ⟨a3, a4⟩, ⟨a5, a6⟩, a8, a9⟩, a7, h.nd i _ (List.getElem?_eq_getElem hi)⟩
  · rintro ⟨⟨h1, h2⟩, h3, h4⟩
    refine ⟨h1, h2, h3, fun i x hx => ?_, fun i x hx => ?_⟩
    · obtain ⟨hi, rfl⟩ := List.getElem?_eq_some_iff.1 hx
      exact (h4 i hi).2.2
    · obtain ⟨hi, rfl⟩ := List.getElem?_eq_some_iff.1 hx
      obtain ⟨⟨a1, a2, a3, a4, a5⟩, b, _⟩ := h4 i hi
      exact ⟨a1.1, by omega, a2.1, a2.2, a3.1, a3.2, b, a4, a5⟩
theorem eqF (a : S56) (p q r : Int) : ((a.f0 == p && (a.f1 == q && (a.f2 == r))) = true) ↔ a = ⟨p, q, r⟩ := by
  obtain ⟨x, y, z⟩ := a
  simp
theorem mem_take {L : List S56} {i : Nat} {x : S56} : x ∈ L.take i ↔ ∃ (j : Nat) (_ : j < i) (hl : j < L.length), L[j] = x := by
  rw [List.mem_iff_getElem?]
  constructor
  · rintro ⟨j, hj⟩
    rw [List.getElem?_take] at hj
    split at hj
    · next hji =>
      obtain ⟨hl, e⟩ := List.getElem?_eq_some_iff.1 hj
      exact ⟨j, hji, hl, e⟩
    · cases hj
  · rintro ⟨j, hji, hl, e⟩
    exact ⟨j, by rw [List.getElem?_take, if_pos hji, List.getElem?_eq_getElem hl, e]⟩
theorem sv_l1 (vars : Int) (L : List S56) (hl : L.length ≤ 2000) (i : Nat) (hi : i < L.length) (rest : Bool) (hrest : Ev (fun k => spec_DiagramValid.l0 k (wrap64 ((i : Int) + 1)) vars L) rest) : ∀ (d j : Nat), j + d = i → (∀ q (hq : q < L.length), q < j → L[q] ≠ L[i]) →
    Ev (fun k => spec_DiagramValid.l1 k (i : Int) (j : Int) vars L L[i].f0 L[i].f1 L[i].f2) (if L[i] ∈ L.take i then false else rest) := by
  intro d
  induction d with
  | zero =>
    intro j hj hn
    have : ¬ L[i] ∈ L.take i := fun h => by
      obtain ⟨q, h1, h2, h3⟩ := mem_take.1 h
      exact hn q h2 (by omega) h3
    rw [if_neg this]
    exact Ev.step (Ev.neg (by omega) hrest) (fun k => spec_DiagramValid.l1.eq_2 ..)
  | succ d ih =>
    intro j hj hn
    have hjl : j < L.length := by omega
    refine Ev.step ?_ (fun k => spec_DiagramValid.l1.eq_2 ..)
    refine Ev.pos (by omega) (Ev.pos (by omega) (Ev.pos (by omega) ?_))
    rw [rdF hjl]
    by_cases e : L[j] = L[i]
    · rw [if_pos (mem_take.2 ⟨j, by omega, hjl, e⟩)]
      exact Ev.pos ((eqF _ _ _ _).2 e) (Ev.val _)
    · refine Ev.neg (fun h => e ((eqF _ _ _ _).1 h)) ?_
      rw [w_id (by omega) (by omega), show (j : Int) + 1 = ((j + 1 : Nat) : Int) by omega]
      exact ih (j + 1) (by omega) (fun q hq hqj => by
        by_cases c : q = j
        · subst c
          exact e
        · exact hn q hq (by omega))
theorem sv_l0 (vars : Int) (L : List S56) (hv : 0 ≤ vars ∧ vars ≤ 12) (hl : L.length ≤ 2000) : ∀ (d i : Nat), i + d = L.length →
    ∃ b, Ev (fun k => spec_DiagramValid.l0 k (i : Int) vars L) b ∧ (b = true ↔ ∀ q (h : q < L.length), i ≤ q → OkAt vars L q h) := by
  intro d
  induction d with
  | zero =>
    intro i hi
    exact ⟨true, Ev.step (Ev.neg (by omega) (Ev.val _)) (fun k => spec_DiagramValid.l0.eq_2 ..), fun _ q h hq => absurd h (by omega), fun _ => rfl⟩
  | succ d ih =>
    intro i hi
    have hil : i < L.length := by omega
    obtain ⟨rest, er, hr⟩ := ih (i + 1) (by omega)
    have hw : wrap64 ((i : Int) + 1) = ((i + 1 : Nat) : Int) := by rw [w_id (by omega) (by omega)]; omega
    obtain ⟨b1, e1, h1⟩ := l8Fork_dec vars L L[i] ((i : Int) + 1) (by omega) (by omega) (by omega)
    have split_ : (∀ q (h : q < L.length), i ≤ q → OkAt vars L q h) ↔ OkAt vars L i hil ∧ ∀ q (h : q < L.length), i + 1 ≤ q → OkAt vars L q h := by
      constructor
      · intro h
        exact ⟨h i hil (Nat.le_refl _), fun q hq hq2 => h q hq (by omega)⟩
      · rintro ⟨ha, hb⟩ q hq hq2
        by_cases c : i = q
        · subst c
          exact ha
        · exact hb q hq (by omega)
    have e1' : Ev (fun k => spec_l8Fork.f k vars L (rd_T56 L (i : Int)).f0 (rd_T56 L (i : Int)).f1 (rd_T56 L (i : Int)).f2 (wrap64 ((i : Int) + 1))) b1 := by
      rw [rdF hil, w_id (by omega) (by omega)]
      exact e1
    have jt : ∀ b, Ev (fun k => spec_DiagramValid.j2 k (i : Int) b vars L (rd_T56 L (i : Int)).f0 (rd_T56 L (i : Int)).f1 (rd_T56 L (i : Int)).f2) (if b = true then false else if L[i] ∈ L.take i then false else rest) := by
      intro b
      refine Ev.step ?_ (fun k => spec_DiagramValid.j2.eq_2 ..)
      cases b with
      | true => exact Ev.pos rfl (Ev.val _)
      | false =>
        refine Ev.neg (by decide) ?_
        rw [rdF hil]
        exact sv_l1 vars L hl i hil rest (by rw [hw]; exact er) i 0 (by omega) (fun q _ hq => absurd hq (by omega))
    cases b1 with
    | false =>
      refine ⟨false, Ev.step (Ev.pos (by omega) (Ev.pos (by omega) (Ev.bind e1' (Ev.neg (by decide) (jt true))))) (fun k => spec_DiagramValid.l0.eq_2 ..), fun h => (by cases h), fun h => ?_⟩
      exact absurd (h1.2 (h i hil (Nat.le_refl _)).1) (by decide)
    | true =>
      refine ⟨_, Ev.step (Ev.pos (by omega) (Ev.pos (by omega) (Ev.bind e1' (Ev.pos rfl (jt _))))) (fun k => spec_DiagramValid.l0.eq_2 ..), ?_⟩
      rw [rdF hil, split_]
      by_cases c1 : L[i].f1 = L[i].f2
      · rw [if_pos (beq_iff_eq.mpr c1)]
        exact ⟨fun h => (by cases h), fun h => absurd c1 h.1.2.1⟩
      · rw [if_neg (by simpa using c1)]
        by_cases c2 : L[i] ∈ L.take i
        · rw [if_pos c2]
          exact ⟨fun h => (by cases h), fun h => absurd c2 h.1.2.2⟩
        · rw [if_neg c2, hr]
          exact ⟨fun h => ⟨⟨h1.1 rfl, c1, c2⟩, h⟩, fun h => h.2⟩
theorem spec_dv (vars : Int) (L : List S56) : ∃ b, Ev (fun k => spec_DiagramValid.f k vars L) b ∧ (b = true ↔ DV vars L) := by
  unfold spec_DiagramValid.f
  simp only [l1In_val, Option.bind_some]
  have e0 : Ev (fun k => spec_DiagramValid.j0 k true vars L) false := Ev.step (Ev.pos rfl (Ev.val _)) (fun k => spec_DiagramValid.j0.eq_2 ..)
  by_cases c1 : 0 ≤ vars ∧ vars ≤ 12
  · rw [decide_eq_true c1]
    by_cases c2 : (L.length : Int) > 2000
    · rw [decide_eq_true c2]
      exact ⟨false, Ev.pos rfl e0, fun h => (by cases h), fun h => by have := h.len; omega⟩
    · rw [decide_eq_false c2]
      obtain ⟨b, hb, h2⟩ := sv_l0 vars L c1 (by omega) L.length 0 (by omega)
      refine ⟨b, Ev.pos rfl (Ev.step (Ev.neg (by decide) hb) (fun k => spec_DiagramValid.j0.eq_2 ..)), ?_⟩
      rw [h2, dv_iff]
      exact ⟨fun h => ⟨c1, by omega, fun i hi => h i hi (Nat.zero_le _)⟩, fun h q hq _ => h.2.2 q hq⟩
  · rw [decide_eq_false c1]
    exact ⟨false, Ev.neg (by decide) e0, fun h => (by cases h), fun h => absurd ⟨h.v0, h.v12⟩ c1⟩
theorem dfind_no {L : List S56} {x : S56} (hn : ∀ q (hq : q < L.length), L[q] ≠ x) : dfind L x = none := by
  unfold dfind
  rw [List.findIdx?_eq_none_iff]
  intro y hy
  obtain ⟨q, hq, rfl⟩ := List.mem_iff_getElem.1 hy
  simpa using hn q hq
/-! #### the program's diagrams -/
theorem in_val (a b c : Int) : impl_in.f a b c = some (decide (b ≤ a ∧ a ≤ c)) := by
  unfold impl_in.f
  by_cases h : a ≥ b
  · rw [if_pos h]
    congr 1
    rw [decide_eq_decide]
    constructor
    · intro h2; exact ⟨h, h2⟩
    · intro h2; exact h2.2
  · rw [if_neg h]
    congr 1
    symm
    rw [decide_eq_false_iff_not]
    intro h2
    exact h h2.1
theorem varAt_val (a : Int) {L : List S56} {n : Int} (hp : Pl L n) (hl : L.length ≤ 1000000000) : impl_Diagram_varAt.f a L n = some (dvar 12 L n) := by
  unfold impl_Diagram_varAt.f dvar
  have h1 := hp.1
  have h2 := hp.2
  by_cases h : n < 2
  · rw [if_pos h, if_pos h]
  · rw [if_neg h, if_neg h, w_id (by omega) (by omega), if_pos (by omega), if_pos (by omega), rdP]
def decPl (L : List S56) (n : Int) : Decidable (Pl L n) := inferInstanceAs (Decidable (_ ∧ _))
theorem isPlace_val (a : Int) {L : List S56} (n : Int) (hl : L.length ≤ 1000000000) : impl_Diagram_isPlace.f a L n = some (@decide (Pl L n) (decPl L n)) := by
  unfold impl_Diagram_isPlace.f
  rw [in_val, w_id (by omega) (by omega)]
  rfl
/-- Where variables are few, it is the same to what the constants are held. -/
theorem dvar_lt {vars v : Int} (L : List S56) (n : Int) (h : v < vars) (h12 : vars ≤ 12) : v < dvar 12 L n ↔ v < dvar vars L n := by
  unfold dvar
  split
  · omega
  · exact Iff.rfl
theorem keyI {n : Int} (h : 0 ≤ n) (h2 : n ≤ 1000000000) : KeyI n := ⟨h, by omega⟩
theorem iv_bad (vars : Int) (L : List S56) (hv : 0 ≤ vars ∧ vars ≤ 12) (hl : L.length ≤ 2000) (i : Nat) (hi : i < L.length) : ∃ b, impl_DiagramValid.bad vars L i L[i] = some b ∧ (b = false ↔ OkAt vars L i hi) := by
  unfold impl_DiagramValid.bad OkAt FOk
  simp only [in_val, Option.bind_some, w_id (show -9223372036854775808 ≤ vars - 1 by omega) (by omega), w_id (show -9223372036854775808 ≤ (i : Int) + 1 by omega) (by omega), decide_eq_false_iff_not]
  by_cases c1 : 0 ≤ L[i].f0 ∧ L[i].f0 ≤ vars - 1
  · rw [if_neg (by simpa using c1)]
    by_cases c2 : 0 ≤ L[i].f1 ∧ L[i].f1 ≤ (i : Int) + 1
    · rw [if_neg (by simpa using c2)]
      by_cases c3 : 0 ≤ L[i].f2 ∧ L[i].f2 ≤ (i : Int) + 1
      · rw [if_neg (by simpa using c3)]
        have p1 : Pl L L[i].f1 := ⟨c2.1, by omega⟩
        have p2 : Pl L L[i].f2 := ⟨c3.1, by omega⟩
        by_cases c4 : L[i].f1 = L[i].f2
        · rw [if_pos c4]
          exact ⟨true, rfl, fun h => (by cases h), fun h => absurd c4 h.2.1⟩
        · rw [if_neg c4, varAt_val _ p1 (by omega), Option.bind_some]
          by_cases c5 : dvar 12 L L[i].f1 ≤ L[i].f0
          · rw [if_pos c5]
            exact ⟨true, rfl, fun h => (by cases h), fun h => absurd ((dvar_lt L _ (by omega) hv.2).2 h.1.2.2.2.1) (by omega)⟩
          · rw [if_neg c5, varAt_val _ p2 (by omega), Option.bind_some]
            by_cases c6 : dvar 12 L L[i].f2 ≤ L[i].f0
            · rw [if_pos c6]
              exact ⟨true, rfl, fun h => (by cases h), fun h => absurd ((dvar_lt L _ (by omega) hv.2).2 h.1.2.2.2.2) (by omega)⟩
            · rw [if_neg c6, if_pos ⟨keyI c1.1 (by omega), keyI c2.1 (by omega), keyI c3.1 (by omega)⟩]
              refine ⟨_, rfl, ?_⟩
              rw [decide_eq_false_iff_not]
              exact ⟨fun h => ⟨⟨c1, c2, c3, (dvar_lt L _ (by omega) hv.2).1 (by omega), (dvar_lt L _ (by omega) hv.2).1 (by omega)⟩, c4, h⟩, fun h => h.2.2⟩
      · rw [if_pos (by simpa using c3)]
        exact ⟨true, rfl, fun h => (by cases h), fun h => absurd h.1.2.2.1 c3⟩
    · rw [if_pos (by simpa using c2)]
      exact ⟨true, rfl, fun h => (by cases h), fun h => absurd h.1.2.1 c2⟩
  · rw [if_pos (by simpa using c1)]
    exact ⟨true, rfl, fun h => (by cases h), fun h => absurd h.1.1 c1⟩
theorem iv_l0 (vars : Int) (L : List S56) (hv : 0 ≤ vars ∧ vars ≤ 12) (hl : L.length ≤ 2000) : ∀ (d i : Nat), i + d = L.length → ∃ b, impl_DiagramValid.l0 vars L d i = some b ∧ (b = true ↔ ∀ q (h : q < L.length), i ≤ q → OkAt vars L q h) := by
  intro d
  induction d with
  | zero =>
    intro i hi
    exact ⟨true, rfl, fun _ q h hq => absurd h (by omega), fun _ => rfl⟩
  | succ d ih =>
    intro i hi
    have hil : i < L.length := by omega
    obtain ⟨rest, er, hr⟩ := ih (i + 1) (by omega)
    obtain ⟨b, eb, hb⟩ := iv_bad vars L hv hl i hil
    unfold impl_DiagramValid.l0
    rw [rdF hil, eb, Option.bind_some]
    cases b with
    | true =>
      refine ⟨false, rfl, fun h => (by cases h), fun h => ?_⟩
      exact absurd (hb.2 (h i hil (Nat.le_refl _))) (by decide)
    | false =>
      refine ⟨rest, er, ?_⟩
      rw [hr]
      constructor
      · intro h q hq hq2
        by_cases c : i = q
        · subst c
          exact hb.1 rfl
        · exact h q hq (by omega)
      · intro h q hq hq2
        exact h q hq (by omega)
theorem impl_dv (vars : Int) (L : List S56) : ∃ b, impl_DiagramValid.f vars L = some b ∧ (b = true ↔ DV vars L) := by
  unfold impl_DiagramValid.f
  simp only [in_val, Option.bind_some]
  by_cases c1 : 0 ≤ vars ∧ vars ≤ 12
  · rw [if_neg (by simpa using c1)]
    by_cases c2 : (L.length : Int) > 2000
    · rw [if_pos c2]
      exact ⟨false, rfl, fun h => (by cases h), fun h => by have := h.len; omega⟩
    · rw [if_neg c2]
      obtain ⟨b, hb, h2⟩ := iv_l0 vars L c1 (by omega) L.length 0 (by omega)
      refine ⟨b, hb, ?_⟩
      rw [h2, dv_iff]
      exact ⟨fun h => ⟨c1, by omega, fun i hi => h i hi (Nat.zero_le _)⟩, fun h q hq _ => h.2.2 q hq⟩
  · rw [if_pos (by simpa using c1)]
    exact ⟨false, rfl, fun h => (by cases h), fun h => absurd ⟨h.v0, h.v12⟩ c1⟩
/-- Where each fork stands. -/
def seenP (L : List S56) (x : S56) : Option Int := (dfind L x).map (fun i => (i : Int) + 2)
theorem seen_take {L : List S56} (hn : NoDup L) : ∀ i, i ≤ L.length → impl_forkingOf.seen L i = seenP (L.take i) := by
  intro i
  induction i with
  | zero =>
    intro _
    funext x
    rfl
  | succ i ih =>
    intro hi
    have hil : i < L.length := by omega
    funext x
    show (if x = rd_T56 L (i : Int) then some ((i : Int) + 2) else impl_forkingOf.seen L i x) = _
    rw [rdF hil, ih (by omega)]
    have e : L.take (i + 1) = L.take i ++ [L[i]] := by
      rw [List.take_add_one, List.getElem?_eq_getElem hil]
      rfl
    have hlen : (L.take i).length = i := by rw [List.length_take]; omega
    have hno : dfind (L.take i) L[i] = none := by
      cases hd : dfind (L.take i) L[i] with
      | none => rfl
      | some j =>
        have := dfind_some hd
        exact absurd (List.mem_of_getElem? this) (hn i _ (List.getElem?_eq_getElem hil))
    unfold seenP
    rw [e]
    by_cases c : x = L[i]
    · rw [if_pos c, c, dfind_new hno []]
      simp [hlen]
    · rw [if_neg c]
      cases hd : dfind (L.take i) x with
      | some j => rw [dfind_append hd]
      | none =>
        have : dfind (L.take i ++ [L[i]]) x = none := dfind_no (fun q hq e2 => by
          by_cases hqi : q < (L.take i).length
          · rw [List.getElem_append_left hqi] at e2
            exact dfind_none hd (e2 ▸ List.getElem_mem hqi)
          · have hq' : q = (L.take i).length := by
              have := hq
              rw [List.length_append, List.length_singleton] at this
              omega
            subst hq'
            rw [List.getElem_append_right (Nat.le_refl _)] at e2
            simp at e2
            exact c e2.symm)
        rw [this]
theorem okF_of {vars : Int} {L : List S56} (h : DV vars L) {x : S56} (hx : x ∈ L) : okF x := by
  obtain ⟨i, hi⟩ := List.mem_iff_getElem?.1 hx
  obtain ⟨a1, a2, a3, a4, a5, a6, _⟩ := h.ok i x hi
  have := h.v12
  have := (List.getElem?_eq_some_iff.1 hi).1
  have := h.len
  exact ⟨keyI a1 (by omega), keyI a3 (by omega), keyI a5 (by omega)⟩
/-- A diagram that grows, as the program holds it: nothing is done with it yet that is not so. -/
def fs0 (vars : Int) (L : List S56) : FS := ⟨vars, L, seenP L, false, fun _ => none⟩
theorem clone_val (L : List S56) (h : L.length ≤ 1000000000) : impl_Fork_137.f L = some L := by
  unfold impl_Fork_137.f
  simp only [Option.bind_some, List.length_nil, List.nil_append]
  rw [if_pos (by omega)]
theorem clone2_val (L : List S56) (h : L.length ≤ 1000000000) : impl_Fork_138.f L = some L := by
  unfold impl_Fork_138.f
  rw [if_pos (by omega)]
theorem forkingOf_val {vars : Int} {L : List S56} (h : DV vars L) : impl_forkingOf.f vars L = some (fs0 vars L) := by
  unfold impl_forkingOf.f
  rw [clone_val L (by have := h.len; omega), Option.bind_some, if_pos (fun x hx => okF_of h hx), seen_take h.nd _ (Nat.le_refl _), List.take_length]
  rfl
theorem fork_val (s : FS) (v lo hi : Int) (hk : okF ⟨v, lo, hi⟩) (hlo : 0 ≤ lo) (hhi : 0 ≤ hi) (hs : s.seen = seenP s.forks) :
    ∃ s' r, impl_forking_fork.f s v lo hi = some (s', r) ∧ s'.vars = s.vars ∧ s'.memo = s.memo ∧ s'.seen = seenP s'.forks ∧ s'.forks = (dadd s.forks v lo hi).1 ∧ (if (dadd s.forks v lo hi).2 < 0 then s'.full = true ∧ r = 0 else s'.full = s.full ∧ r = (dadd s.forks v lo hi).2) := by
  unfold impl_forking_fork.f dadd
  rw [if_neg (show ¬ (lo < 0 ∨ hi < 0) by omega)]
  by_cases c1 : lo = hi
  · rw [if_pos c1, if_pos c1]
    exact ⟨s, lo, rfl, rfl, rfl, hs, rfl, by rw [if_neg (by omega)]; exact ⟨rfl, rfl⟩⟩
  rw [if_neg c1, if_neg c1, if_pos hk, hs]
  cases hd : dfind s.forks ⟨v, lo, hi⟩ with
  | some i =>
    have e : seenP s.forks ⟨v, lo, hi⟩ = some ((i : Int) + 2) := by unfold seenP; rw [hd]; rfl
    rw [e]
    exact ⟨s, _, rfl, rfl, rfl, hs, rfl, by rw [if_neg (by show ¬ ((_ : Nat) : Int) + 2 < 0; omega)]; exact ⟨rfl, rfl⟩⟩
  | none =>
    have e : seenP s.forks ⟨v, lo, hi⟩ = none := by unfold seenP; rw [hd]; rfl
    rw [e]
    by_cases c2 : 2000 ≤ s.forks.length
    · simp only
      rw [if_pos (by omega), if_pos c2]
      exact ⟨_, _, rfl, rfl, rfl, rfl, rfl, by rw [if_pos (show (-1 : Int) < 0 by decide)]; exact ⟨rfl, rfl⟩⟩
    · simp only
      rw [if_neg (by omega), if_neg c2]
      refine ⟨_, _, rfl, rfl, rfl, ?_, rfl, by rw [if_neg (by show ¬ ((_ : Nat) : Int) + 2 < 0; omega)]; exact ⟨rfl, rfl⟩⟩
      funext y
      show (if y = ⟨v, lo, hi⟩ then some ((s.forks.length : Int) + 2) else seenP s.forks y) = seenP (s.forks ++ [⟨v, lo, hi⟩]) y
      unfold seenP
      by_cases c : y = ⟨v, lo, hi⟩
      · rw [if_pos c, c, dfind_new hd []]
        rfl
      · rw [if_neg c]
        cases hy : dfind s.forks y with
        | some j => rw [dfind_append hy]
        | none =>
          have : dfind (s.forks ++ [⟨v, lo, hi⟩]) y = none := dfind_no (fun q hq e2 => by
            by_cases hqi : q < s.forks.length
            · rw [List.getElem_append_left hqi] at e2
              exact dfind_none hy (e2 ▸ List.getElem_mem hqi)
            · have hq' : q = s.forks.length := by
                have := hq
                rw [List.length_append, List.length_singleton] at this
                omega
              subst hq'
              rw [List.getElem_append_right (Nat.le_refl _)] at e2
              simp at e2
              exact c e2.symm)
          rw [this]
theorem done_val (s : FS) (n : Int) (hl : s.forks.length ≤ 2000) : impl_forking_done.f s n = some (if s.full = true then (0, [], -1) else (s.vars, s.forks, n)) := by
  unfold impl_forking_done.f
  by_cases c : s.full = true
  · rw [if_pos c, if_pos c]
  · rw [if_neg c, if_neg c, clone2_val _ (by omega)]
    rfl
/-! #### what is done with two places, as a tree of decisions (0 and, 1 or, 2 exactly one) -/
def gat (L : List S56) (n v : Int) (hi : Bool) : Int :=
  if n < 2 then n else if (L.getD (n - 2).toNat ⟨0, 0, 0⟩).f0 = v then (if hi = true then (L.getD (n - 2).toNat ⟨0, 0, 0⟩).f2 else (L.getD (n - 2).toNat ⟨0, 0, 0⟩).f1) else n
theorem gat_ext {L L2 : List S56} {n : Int} (h : Pl L n) (he : L <+: L2) (v : Int) (hi : Bool) : gat L2 n v hi = gat L n v hi := by
  unfold gat
  by_cases h2 : n < 2
  · rw [if_pos h2, if_pos h2]
  · rw [if_neg h2, if_neg h2, getD_ext he (by have := h.2; omega)]
theorem gat_ok {vars : Int} {L : List S56} (h : DV vars L) {n v : Int} (hp : Pl L n) (hv : v ≤ dvar vars L n) (hvv : v < vars) (hi : Bool) : Pl L (gat L n v hi) ∧ v < dvar vars L (gat L n v hi) := by
  unfold gat
  by_cases h2 : n < 2
  · rw [if_pos h2]
    refine ⟨hp, ?_⟩
    unfold dvar
    rw [if_pos h2]
    exact hvv
  · rw [if_neg h2]
    obtain ⟨x, hx, hd, e, a0, a1, p1, p2, _, _, _, q1, q2⟩ := h.at_ hp h2
    rw [hd]
    by_cases c : x.f0 = v
    · rw [if_pos c]
      cases hi with
      | true => rw [if_pos rfl]; exact ⟨p2, by omega⟩
      | false => rw [if_neg (by decide)]; exact ⟨p1, by omega⟩
    · rw [if_neg c]
      exact ⟨hp, by omega⟩
theorem dvar_two {vars : Int} {L : List S56} (h : DV vars L) {n : Int} (hp : Pl L n) : dvar vars L n < vars ↔ ¬ n < 2 := by
  constructor
  · intro h1 h2
    unfold dvar at h1
    rw [if_pos h2] at h1
    omega
  · intro h2
    obtain ⟨x, _, _, e, _, a1, _⟩ := h.at_ hp h2
    omega
theorem dvar_const {vars : Int} {L : List S56} {n : Int} (h : n < 2) : dvar vars L n = vars := by
  unfold dvar
  rw [if_pos h]
/-! #### what is done with two places: the reference and the program -/
theorem add_val (vars v lo hi : Int) (L : List S56) (hl : L.length ≤ 2000) : spec_l8Add.f vars L v lo hi = some (vars, (dadd L v lo hi).1, (dadd L v lo hi).2) := by
  unfold spec_l8Add.f dadd
  by_cases c1 : lo < 0 ∨ hi < 0
  · rw [if_pos c1, if_pos c1]
  rw [if_neg c1, if_neg c1]
  by_cases c2 : lo = hi
  · rw [if_pos c2, if_pos c2]
  rw [if_neg c2, if_neg c2, if_pos (show L.length ≤ 1000000000000 by omega)]
  show (match dfind L ⟨v, lo, hi⟩ with | some i => _ | none => _) = _
  cases dfind L ⟨v, lo, hi⟩ with
  | some i => rfl
  | none =>
    simp only
    by_cases c3 : 2000 ≤ L.length
    · rw [if_pos c3, if_pos c3]
    · rw [if_neg c3, if_neg c3]
theorem ins_fork (L : List S56) (v : Int) (lo hi : DT) : ins L (.fork v lo hi) = if (ins L lo).2 < 0 then (L, -1) else dadd (ins (ins L lo).1 hi).1 v (ins L lo).2 (ins (ins L lo).1 hi).2 := by rw [ins]
theorem place_val {vars : Int} (L : List S56) (n : Int) (hl : L.length ≤ 1000000000) : spec_l8Place.f vars L n = some (@decide (Pl L n) (decPl L n)) := by
  unfold spec_l8Place.f
  rw [l1In_val, w_id (by omega) (by omega)]
  rfl
theorem TOk.down {vars : Int} {L : List S56} {t : DT} {x y : Int} (hxy : y ≤ x) (ht : TOk vars L x t) : TOk vars L y t := by
  cases t with
  | leaf n => exact ⟨ht.1, by have := ht.2; omega⟩
  | fork v lo hi => exact ⟨by have := ht.1; omega, ht.2⟩
theorem gat_self {L : List S56} {vars n : Int} (c : ¬ n < 2) (hi : Bool) : gat L n (dvar vars L n) hi = if hi = true then (rd_T56 L (n - 2)).f2 else (rd_T56 L (n - 2)).f1 := by
  unfold gat dvar
  rw [if_neg c, if_neg c, if_pos rfl, rdP]
theorem dvar_self {L : List S56} {vars n : Int} (c : ¬ n < 2) : dvar vars L n = (rd_T56 L (n - 2)).f0 := by
  unfold dvar
  rw [if_neg c, rdP]
/-! #### drawn diagrams -/
theorem dv_nil {vars : Int} (h0 : 0 ≤ vars) (h12 : vars ≤ 12) : DV vars [] := ⟨h0, h12, Nat.zero_le _, fun i x hx => by simp at hx, fun i x hx => by simp at hx⟩
/-! #### the value of a place -/
def dval (vars : Int) (L : List S56) (bits : List Int) : Nat → Int → Int
  | 0, n => n
  | m + 1, n => if n < 2 then n else dval vars L bits m (gat L n (dvar vars L n) (decide (rd bits (dvar vars L n) = 1)))
theorem dval_const {vars : Int} {L : List S56} {bits : List Int} {n : Int} (h : n < 2) : ∀ m, dval vars L bits m n = n := by
  intro m
  cases m with
  | zero => rfl
  | succ m =>
    unfold dval
    rw [if_pos h]
theorem dval_same {vars : Int} {L : List S56} (h : DV vars L) (bits : List Int) : ∀ (m m2 : Nat) (n : Int), Pl L n → vars - dvar vars L n < m → vars - dvar vars L n < m2 → dval vars L bits m n = dval vars L bits m2 n := by
  intro m
  induction m with
  | zero =>
    intro m2 n p h1 _
    have := (h.dvar_le p).2
    omega
  | succ m ih =>
    intro m2 n p h1 h2
    cases m2 with
    | zero =>
      have := (h.dvar_le p).2
      omega
    | succ m2 =>
      unfold dval
      by_cases c : n < 2
      · rw [if_pos c, if_pos c]
      · rw [if_neg c, if_neg c]
        have f := gat_ok h p (Int.le_refl _) ((dvar_two h p).2 c) (decide (rd bits (dvar vars L n) = 1))
        exact ih m2 _ f.1 (by omega) (by omega)
theorem dval_ext {vars : Int} {L L2 : List S56} (h : DV vars L) (he : L <+: L2) (bits : List Int) : ∀ (m : Nat) (n : Int), Pl L n → dval vars L2 bits m n = dval vars L bits m n := by
  intro m
  induction m with
  | zero => intro n _; rfl
  | succ m ih =>
    intro n p
    unfold dval
    by_cases c : n < 2
    · rw [if_pos c, if_pos c]
    · rw [if_neg c, if_neg c, dvar_ext p he, gat_ext p he]
      exact ih _ (gat_ok h p (Int.le_refl _) ((dvar_two h p).2 c) _).1
/-- The constant to which one comes from a place. -/
def dvP (vars : Int) (L : List S56) (bits : List Int) (n : Int) : Int := dval vars L bits 13 n
theorem dvP_const {vars : Int} {L : List S56} {bits : List Int} {n : Int} (h : n < 2) : dvP vars L bits n = n := dval_const h 13
theorem dvP_ext {vars : Int} {L L2 : List S56} (h : DV vars L) (he : L <+: L2) (bits : List Int) {n : Int} (p : Pl L n) : dvP vars L2 bits n = dvP vars L bits n := dval_ext h he bits 13 n p
theorem dvP_fork {vars : Int} {L : List S56} (h : DV vars L) (bits : List Int) {n : Int} (p : Pl L n) (c : ¬ n < 2) : dvP vars L bits n = dvP vars L bits (gat L n (dvar vars L n) (decide (rd bits (dvar vars L n) = 1))) := by
  have f := gat_ok h p (Int.le_refl _) ((dvar_two h p).2 c) (decide (rd bits (dvar vars L n) = 1))
  have a0 := (h.dvar_le p).1
  have a1 := h.v12
  unfold dvP
  rw [dval.eq_2, if_neg c, dval_same h bits 12 13 _ f.1 (by omega) (by omega)]
/-- The value of a tree. -/
def tval (vars : Int) (L : List S56) (bits : List Int) : DT → Int
  | .leaf n => dvP vars L bits n
  | .fork v lo hi => if rd bits v = 1 then tval vars L bits hi else tval vars L bits lo
theorem tval_ext {vars : Int} {L L2 : List S56} (h : DV vars L) (he : L <+: L2) (bits : List Int) {t : DT} : ∀ {m : Int}, TOk vars L m t → tval vars L2 bits t = tval vars L bits t := by
  induction t with
  | leaf n =>
    intro m ht
    exact dvP_ext h he bits ht.1
  | fork v lo hi ihl ihh =>
    intro m ht
    unfold tval
    rw [ihl ht.2.2.2.1, ihh ht.2.2.2.2]
/-- Where a fork is that was added. -/
theorem dadd_at {vars v lo hi : Int} {L : List S56} (hne : lo ≠ hi) (h : 0 ≤ (dadd L v lo hi).2) : 2 ≤ (dadd L v lo hi).2 ∧ dvar vars (dadd L v lo hi).1 (dadd L v lo hi).2 = v ∧ gat (dadd L v lo hi).1 (dadd L v lo hi).2 v false = lo ∧ gat (dadd L v lo hi).1 (dadd L v lo hi).2 v true = hi := by
  have key : ∀ (M : List S56) (i : Nat), M[i]? = some ⟨v, lo, hi⟩ → 2 ≤ (i : Int) + 2 ∧ dvar vars M ((i : Int) + 2) = v ∧ gat M ((i : Int) + 2) v false = lo ∧ gat M ((i : Int) + 2) v true = hi := by
    intro M i hx
    have hd : M.getD ((i : Int) + 2 - 2).toNat ⟨0, 0, 0⟩ = ⟨v, lo, hi⟩ := by
      rw [show ((i : Int) + 2 - 2).toNat = i by omega, List.getD_eq_getElem?_getD, hx]
      rfl
    refine ⟨by omega, ?_, ?_, ?_⟩
    · unfold dvar
      rw [if_neg (by omega), hd]
    · unfold gat
      rw [if_neg (by omega), hd, if_pos rfl, if_neg (by decide)]
    · unfold gat
      rw [if_neg (by omega), hd, if_pos rfl, if_pos rfl]
  have hnn := dadd_nn h
  unfold dadd at h ⊢
  rw [if_neg (by omega), if_neg hne] at h ⊢
  cases hf : dfind L ⟨v, lo, hi⟩ with
  | some i => exact key L i (dfind_some hf)
  | none =>
    rw [hf] at h
    simp only at h ⊢
    by_cases c : 2000 ≤ L.length
    · rw [if_pos c] at h
      exact (neg1 h).elim
    · rw [if_neg c]
      exact key _ _ (by simp)
theorem dadd_val {vars v lo hi : Int} {L : List S56} (h : DV vars L) (hl : Pl L lo) (hh : Pl L hi) (v0 : 0 ≤ v) (v1 : v < vars) (hvl : v < dvar vars L lo) (hvh : v < dvar vars L hi) (hn : 0 ≤ (dadd L v lo hi).2) (bits : List Int) :
    dvP vars (dadd L v lo hi).1 bits (dadd L v lo hi).2 = if rd bits v = 1 then dvP vars L bits hi else dvP vars L bits lo := by
  by_cases c : lo = hi
  · subst c
    have e : dadd L v lo lo = (L, lo) := by
      unfold dadd
      rw [if_neg (by have := hl.1; omega), if_pos rfl]
    rw [e, ite_self]
  · obtain ⟨q1, q2, q3, q4⟩ := dadd_at (vars := vars) c hn
    obtain ⟨dd, hp⟩ := dv_dadd h hl hh v0 v1 hvl hvh
    have he := dadd_ext L v lo hi
    rw [dvP_fork dd bits (hp hn).1 (by omega), q2]
    by_cases cb : rd bits v = 1
    · rw [decide_eq_true cb, q4, if_pos cb, dvP_ext h he bits hh]
    · rw [decide_eq_false cb, q3, if_neg cb, dvP_ext h he bits hl]
/-- What was added has the tree's values. -/
theorem ins_val {vars : Int} (bits : List Int) {t : DT} : ∀ {L : List S56} {m : Int}, DV vars L → TOk vars L m t → 0 ≤ (ins L t).2 → dvP vars (ins L t).1 bits (ins L t).2 = tval vars L bits t := by
  induction t with
  | leaf n =>
    intro L m h ht hn
    rfl
  | fork v lo hi ihl ihh =>
    intro L m h ht hn
    obtain ⟨t1, t2, t3, t4, t5⟩ := ht
    rw [ins_fork] at hn ⊢
    by_cases c : (ins L lo).2 < 0
    · rw [if_pos c] at hn
      exact (neg1 hn).elim
    rw [if_neg c] at hn ⊢
    obtain ⟨d1, p1⟩ := dv_ins h t4
    obtain ⟨p1, q1⟩ := p1 (by omega)
    have e1 := ins_ext L lo
    obtain ⟨d2, p2⟩ := dv_ins d1 (t5.ext e1)
    have hnn := dadd_nn hn
    obtain ⟨p2, q2⟩ := p2 hnn.2
    have e2 := ins_ext (ins L lo).1 hi
    rw [dadd_val d2 (p1.ext e2) p2 t2 t3 (by rw [dvar_ext p1 e2]; omega) (by omega) hn bits]
    unfold tval
    rw [dvP_ext d1 e2 bits p1, ihl h t4 (by omega), ihh d1 (t5.ext e1) hnn.2, tval_ext h e1 bits t5]
/-! #### places of a diagram are the same just if they have the same values -/
theorem rd_set_far {bits : List Int} {w u : Int} (x : Int) (h0 : 0 ≤ w) (h1 : 0 ≤ u) (hne : w ≠ u) : rd (bits.set w.toNat x) u = rd bits u := by
  obtain ⟨a, rfl⟩ := Int.eq_ofNat_of_zero_le h0
  obtain ⟨b, rfl⟩ := Int.eq_ofNat_of_zero_le h1
  rw [Int.toNat_natCast]
  exact rd_set_ne (by omega)
theorem rd_set_at {bits : List Int} {w : Int} (x : Int) (h0 : 0 ≤ w) (h1 : w < (bits.length : Int)) : rd (bits.set w.toNat x) w = x := by
  obtain ⟨a, rfl⟩ := Int.eq_ofNat_of_zero_le h0
  rw [Int.toNat_natCast]
  exact rd_set_eq (by omega)
theorem dval_low {vars : Int} {L : List S56} (h : DV vars L) (bits : List Int) {w : Int} (hw : 0 ≤ w) (x : Int) : ∀ (m : Nat) (n : Int), Pl L n → w < dvar vars L n → dval vars L (bits.set w.toNat x) m n = dval vars L bits m n := by
  intro m
  induction m with
  | zero => intro n _ _; rfl
  | succ m ih =>
    intro n p hd
    unfold dval
    by_cases c : n < 2
    · rw [if_pos c, if_pos c]
    · rw [if_neg c, if_neg c, rd_set_far x hw (by omega) (by omega)]
      have f := gat_ok h p (Int.le_refl _) ((dvar_two h p).2 c) (decide (rd bits (dvar vars L n) = 1))
      exact ih _ f.1 (by omega)
theorem dvP_low {vars : Int} {L : List S56} (h : DV vars L) (bits : List Int) {w : Int} (hw : 0 ≤ w) (x : Int) {n : Int} (p : Pl L n) (hd : w < dvar vars L n) : dvP vars L (bits.set w.toNat x) n = dvP vars L bits n := dval_low h bits hw x 13 n p hd
theorem dvP_lo {vars : Int} {L : List S56} (h : DV vars L) (bits : List Int) (hb : bits.length = 12) {n : Int} (p : Pl L n) (c : ¬ n < 2) (hi : Bool) : dvP vars L (bits.set (dvar vars L n).toNat (if hi = true then 1 else 0)) n = dvP vars L bits (gat L n (dvar vars L n) hi) := by
  have hv := (dvar_two h p).2 c
  have hv0 := (h.dvar_le p).1
  have h12 := h.v12
  have f := gat_ok h p (Int.le_refl _) hv hi
  rw [dvP_fork h _ p c, rd_set_at _ hv0 (by omega)]
  cases hi with
  | true =>
    rw [if_pos rfl, decide_eq_true rfl]
    exact dvP_low h bits hv0 _ f.1 f.2
  | false =>
    rw [if_neg (by decide), decide_eq_false (by decide)]
    exact dvP_low h bits hv0 _ f.1 f.2
/-- The same values for all bits. -/
def Same (vars : Int) (L : List S56) (p q : Int) : Prop := ∀ bits : List Int, bits.length = 12 → dvP vars L bits p = dvP vars L bits q
theorem same_gat {vars : Int} {L : List S56} (h : DV vars L) {p q : Int} (pp : Pl L p) (pq : Pl L q) (hs : Same vars L p q) (c : ¬ p < 2) (hle : dvar vars L p ≤ dvar vars L q) (hi : Bool) : Same vars L (gat L p (dvar vars L p) hi) (gat L q (dvar vars L p) hi) := by
  intro bits hb
  have h1 := hs (bits.set (dvar vars L p).toNat (if hi = true then 1 else 0)) (by simpa using hb)
  rw [dvP_lo h bits hb pp c hi] at h1
  rw [h1]
  by_cases e : dvar vars L q = dvar vars L p
  · have c2 : ¬ q < 2 := (dvar_two h pq).1 (by rw [e]; exact (dvar_two h pp).2 c)
    rw [← e, dvP_lo h bits hb pq c2 hi]
  · have hv0 := (h.dvar_le pp).1
    rw [dvP_low h bits hv0 _ pq (by omega)]
    congr 1
    unfold gat
    by_cases c2 : q < 2
    · rw [if_pos c2]
    · rw [if_neg c2, if_neg (fun e2 => e (by unfold dvar at e2 ⊢; rw [if_neg c2]; exact e2))]
theorem gat_above {vars : Int} {L : List S56} {q v : Int} (h : v < dvar vars L q) (hi : Bool) : gat L q v hi = q := by
  unfold gat
  by_cases c2 : q < 2
  · rw [if_pos c2]
  · unfold dvar at h
    rw [if_neg c2] at h
    rw [if_neg c2, if_neg (by omega)]
theorem gat_ne {vars : Int} {L : List S56} (h : DV vars L) {p : Int} (pp : Pl L p) (c : ¬ p < 2) : gat L p (dvar vars L p) false ≠ gat L p (dvar vars L p) true ∧ gat L p (dvar vars L p) false < p ∧ gat L p (dvar vars L p) true < p := by
  obtain ⟨x, hx, hd, e, _, _, _, _, l1, l2, ne, _, _⟩ := h.at_ pp c
  unfold gat
  rw [e, hd, if_neg c, if_pos rfl, if_neg c, if_pos rfl, if_neg (by decide), if_pos rfl]
  exact ⟨ne, l1, l2⟩
theorem place_eq {vars : Int} {L : List S56} (h : DV vars L) {p q : Int} (pp : Pl L p) (pq : Pl L q) (c : ¬ p < 2) (c2 : ¬ q < 2) (hv : dvar vars L p = dvar vars L q) (hl : gat L p (dvar vars L p) false = gat L q (dvar vars L p) false) (hh : gat L p (dvar vars L p) true = gat L q (dvar vars L p) true) : p = q := by
  obtain ⟨x, hx, hd, e, _⟩ := h.at_ pp c
  obtain ⟨y, hy, hd2, e2, _⟩ := h.at_ pq c2
  rw [e, e2] at hv
  rw [e] at hl hh
  unfold gat at hl hh
  rw [hd, hd2, if_neg c, if_neg c2, if_pos rfl, if_pos hv.symm] at hl hh
  rw [if_neg (by decide), if_neg (by decide)] at hl
  rw [if_pos rfl, if_pos rfl] at hh
  have hxy : x = y := by
    obtain ⟨a, b, d⟩ := x
    obtain ⟨a', b', d'⟩ := y
    simp only at hv hl hh
    subst hv hl hh
    rfl
  subst hxy
  obtain ⟨l1, g1⟩ := List.getElem?_eq_some_iff.1 hx
  obtain ⟨l2, g2⟩ := List.getElem?_eq_some_iff.1 hy
  have := nodup_inj h.nd l1 l2 (g1.trans g2.symm)
  have := pp.1
  have := pq.1
  omega
theorem canon {vars : Int} {L : List S56} (h : DV vars L) : ∀ (N : Nat) (p q : Int), p < N → q < N → Pl L p → Pl L q → Same vars L p q → p = q := by
  intro N
  induction N with
  | zero =>
    intro p q h1 _ pp _ _
    have := pp.1
    omega
  | succ N ih =>
    intro p q h1 h2 pp pq hs
    -- a place whose variable stands ahead of the other's has two equal branches: it is none
    have no : ∀ p q : Int, p < (N + 1 : Nat) → q < (N + 1 : Nat) → Pl L p → Pl L q → Same vars L p q → ¬ dvar vars L p < dvar vars L q := by
      intro p q h1 h2 pp pq hs hlt
      have c : ¬ p < 2 := (dvar_two h pp).1 (by have := (h.dvar_le pq).2; omega)
      have f := fun hi => gat_ok h pp (Int.le_refl _) ((dvar_two h pp).2 c) hi
      obtain ⟨ne, l1, l2⟩ := gat_ne h pp c
      have s0 := same_gat h pp pq hs c (by omega) false
      have s1 := same_gat h pp pq hs c (by omega) true
      rw [gat_above hlt] at s0 s1
      exact ne (ih _ _ (by omega) (by omega) (f false).1 (f true).1 (fun bits hb => (s0 bits hb).trans (s1 bits hb).symm))
    have e : dvar vars L p = dvar vars L q := by
      have a := no p q h1 h2 pp pq hs
      have b := no q p h2 h1 pq pp (fun bits hb => (hs bits hb).symm)
      omega
    by_cases c : p < 2
    · have c2 : q < 2 := by
        refine Decidable.byContradiction (fun c2 => ?_)
        have := (dvar_two h pq).2 c2
        have := dvar_const (vars := vars) (L := L) c
        omega
      have := hs (List.replicate 12 0) (by simp)
      rw [dvP_const c, dvP_const c2] at this
      exact this
    · have c2 : ¬ q < 2 := (dvar_two h pq).1 (by rw [← e]; exact (dvar_two h pp).2 c)
      have f := fun hi => gat_ok h pp (Int.le_refl _) ((dvar_two h pp).2 c) hi
      have g := fun hi => gat_ok h pq (Int.le_refl _) ((dvar_two h pq).2 c2) hi
      obtain ⟨_, l1, l2⟩ := gat_ne h pp c
      obtain ⟨_, l3, l4⟩ := gat_ne h pq c2
      rw [← e] at g l3 l4
      exact place_eq h pp pq c c2 e (ih _ _ (by omega) (by omega) (f false).1 (g false).1 (same_gat h pp pq hs c (by omega) false)) (ih _ _ (by omega) (by omega) (f true).1 (g true).1 (same_gat h pp pq hs c (by omega) true))
theorem canon_eq {vars : Int} {L : List S56} (h : DV vars L) {p q : Int} (pp : Pl L p) (pq : Pl L q) (hs : Same vars L p q) : p = q := canon h (p.toNat + q.toNat + 1) p q (by have := pp.1; have := pq.1; omega) (by have := pp.1; have := pq.1; omega) pp pq hs
theorem tval_low {vars : Int} {L : List S56} (h : DV vars L) (bits : List Int) {w : Int} (hw : 0 ≤ w) (x : Int) {t : DT} : ∀ {m : Int}, TOk vars L m t → w < m → tval vars L (bits.set w.toNat x) t = tval vars L bits t := by
  induction t with
  | leaf n =>
    intro m ht hm
    exact dvP_low h bits hw x ht.1 (by have := ht.2; omega)
  | fork v lo hi ihl ihh =>
    intro m ht hm
    obtain ⟨t1, t2, t3, t4, t5⟩ := ht
    unfold tval
    rw [rd_set_far x hw t2 (by omega), ihl t4 (by omega), ihh t5 (by omega)]
theorem tval_side {vars : Int} {L : List S56} (h : DV vars L) {bits : List Int} (hb : bits.length = 12) {v : Int} {lo hi : DT} {m : Int} (ht : TOk vars L m (.fork v lo hi)) : tval vars L (bits.set v.toNat 0) (.fork v lo hi) = tval vars L bits lo ∧ tval vars L (bits.set v.toNat 1) (.fork v lo hi) = tval vars L bits hi := by
  obtain ⟨t1, t2, t3, t4, t5⟩ := ht
  have h12 := h.v12
  constructor
  · show (if rd (bits.set v.toNat 0) v = 1 then _ else _) = _
    rw [rd_set_at _ t2 (by omega), if_neg (by decide), tval_low h bits t2 0 t4 (by omega)]
  · show (if rd (bits.set v.toNat 1) v = 1 then _ else _) = _
    rw [rd_set_at _ t2 (by omega), if_pos rfl, tval_low h bits t2 1 t5 (by omega)]
/-- A tree that has a place's values comes to that place, and nothing is added. -/
theorem ins_there {vars : Int} {L : List S56} (h : DV vars L) {t : DT} : ∀ {m : Int} (p : Int), TOk vars L m t → Pl L p → (∀ bits : List Int, bits.length = 12 → tval vars L bits t = dvP vars L bits p) → ins L t = (L, p) := by
  induction t with
  | leaf n =>
    intro m p ht pp hs
    rw [show n = p from canon_eq h ht.1 pp hs]
    rfl
  | fork v lo hi ihl ihh =>
    intro m p ht pp hs
    obtain ⟨t1, t2, t3, t4, t5⟩ := ht
    have h12 := h.v12
    have ht' : TOk vars L v (.fork v lo hi) := ⟨Int.le_refl _, t2, t3, t4, t5⟩
    have side := fun bits hb => tval_side h (bits := bits) hb ht'
    have nl : ¬ dvar vars L p < v := fun hlt => by
      have c : ¬ p < 2 := (dvar_two h pp).1 (by omega)
      have hv0 := (h.dvar_le pp).1
      have f := fun hi => gat_ok h pp (Int.le_refl _) ((dvar_two h pp).2 c) hi
      obtain ⟨ne, _, _⟩ := gat_ne h pp c
      refine ne (canon_eq h (f false).1 (f true).1 (fun bits hb => ?_))
      have e0 := dvP_lo h bits hb pp c false
      have e1 := dvP_lo h bits hb pp c true
      rw [← e0, ← e1, ← hs _ (by simpa using hb), ← hs _ (by simpa using hb), tval_low h bits hv0 _ ht' (by omega), tval_low h bits hv0 _ ht' (by omega)]
    rw [ins_fork]
    by_cases e : dvar vars L p = v
    · have c : ¬ p < 2 := (dvar_two h pp).1 (by omega)
      have f := fun hi => gat_ok h pp (Int.le_refl _) ((dvar_two h pp).2 c) hi
      obtain ⟨ne, _, _⟩ := gat_ne h pp c
      have el := ihl (gat L p v false) t4 (by rw [← e]; exact (f false).1) (fun bits hb => by
        rw [← (side bits hb).1, hs _ (by simpa using hb)]
        have := dvP_lo h bits hb pp c false
        rw [e] at this
        exact this)
      have eh := ihh (gat L p v true) t5 (by rw [← e]; exact (f true).1) (fun bits hb => by
        rw [← (side bits hb).2, hs _ (by simpa using hb)]
        have := dvP_lo h bits hb pp c true
        rw [e] at this
        exact this)
      rw [el]
      simp only
      rw [eh]
      simp only
      rw [e] at f ne
      have g0 := (f false).1.1
      have g1 := (f true).1.1
      rw [if_neg (by omega)]
      unfold dadd
      rw [if_neg (by omega), if_neg ne]
      obtain ⟨x, hx, hd, ev, _⟩ := h.at_ pp c
      have hxe : (⟨v, gat L p v false, gat L p v true⟩ : S56) = x := by
        have exv : x.f0 = v := by omega
        have hg0 : gat L p v false = x.f1 := by unfold gat; rw [if_neg c, hd, if_pos exv, if_neg (by decide)]
        have hg1 : gat L p v true = x.f2 := by unfold gat; rw [if_neg c, hd, if_pos exv, if_pos rfl]
        rw [hg0, hg1]
        obtain ⟨a, b, d⟩ := x
        simp only at exv ⊢
        rw [exv]
      rw [hxe, dfind_at h.nd hx]
      show (L, ((p - 2).toNat : Int) + 2) = (L, p)
      congr 1
      have := pp.1
      omega
    · have hgt : v < dvar vars L p := by omega
      have el := ihl p t4 pp (fun bits hb => by
        rw [← (side bits hb).1, hs _ (by simpa using hb), dvP_low h bits t2 _ pp hgt])
      have eh := ihh p t5 pp (fun bits hb => by
        rw [← (side bits hb).2, hs _ (by simpa using hb), dvP_low h bits t2 _ pp hgt])
      rw [el]
      simp only
      rw [eh]
      simp only
      have := pp.1
      rw [if_neg (by omega)]
      unfold dadd
      rw [if_neg (by omega), if_pos rfl]
/-! #### a diagram of just the forks to which one comes -/
def cpT (vars : Int) (L : List S56) : Nat → Int → DT
  | 0, _ => .leaf 0
  | m + 1, n => if n < 2 then .leaf n else .fork (dvar vars L n) (cpT vars L m (gat L n (dvar vars L n) false)) (cpT vars L m (gat L n (dvar vars L n) true))
theorem cpT_same {vars : Int} {L : List S56} (h : DV vars L) : ∀ (m m2 : Nat) (n : Int), Pl L n → vars - dvar vars L n < m → vars - dvar vars L n < m2 → cpT vars L m n = cpT vars L m2 n := by
  intro m
  induction m with
  | zero =>
    intro m2 n p h1 _
    have := (h.dvar_le p).2
    omega
  | succ m ih =>
    intro m2 n p h1 h2
    cases m2 with
    | zero =>
      have := (h.dvar_le p).2
      omega
    | succ m2 =>
      unfold cpT
      by_cases c : n < 2
      · rw [if_pos c, if_pos c]
      · have f := fun hi => gat_ok h p (Int.le_refl _) ((dvar_two h p).2 c) hi
        rw [if_neg c, if_neg c, ih m2 _ (f false).1 (by have := (f false).2; omega) (by have := (f false).2; omega), ih m2 _ (f true).1 (by have := (f true).2; omega) (by have := (f true).2; omega)]
def cpP (vars : Int) (L : List S56) (n : Int) : DT := cpT vars L 13 n
theorem cpP_const {vars : Int} {L : List S56} {n : Int} (c : n < 2) : cpP vars L n = .leaf n := by
  unfold cpP cpT
  rw [if_pos c]
theorem cpP_fork {vars : Int} {L : List S56} (h : DV vars L) {n : Int} (p : Pl L n) (c : ¬ n < 2) : cpP vars L n = .fork (dvar vars L n) (cpP vars L (gat L n (dvar vars L n) false)) (cpP vars L (gat L n (dvar vars L n) true)) := by
  have f := fun hi => gat_ok h p (Int.le_refl _) ((dvar_two h p).2 c) hi
  have a0 := (h.dvar_le p).1
  have a1 := h.v12
  unfold cpP
  rw [cpT.eq_2, if_neg c, cpT_same h 12 13 _ (f false).1 (by have := (f false).2; omega) (by have := (f false).2; omega), cpT_same h 12 13 _ (f true).1 (by have := (f true).2; omega) (by have := (f true).2; omega)]
theorem cpP_ok {vars : Int} {L F : List S56} (h : DV vars L) (hF : DV vars F) : ∀ (m : Nat) (n : Int), Pl L n → vars - dvar vars L n < m → TOk vars F (dvar vars L n) (cpP vars L n) := by
  intro m
  induction m with
  | zero =>
    intro n p h1
    have := (h.dvar_le p).2
    omega
  | succ m ih =>
    intro n p h1
    by_cases c : n < 2
    · rw [cpP_const c]
      have := p.1
      exact ⟨⟨p.1, by omega⟩, by rw [dvar_const c, dvar_const c]; exact Int.le_refl _⟩
    · have hv := (dvar_two h p).2 c
      have f := fun hi => gat_ok h p (Int.le_refl _) hv hi
      rw [cpP_fork h p c]
      exact ⟨Int.le_refl _, (h.dvar_le p).1, hv, TOk.down (by have := (f false).2; omega) (ih _ (f false).1 (by have := (f false).2; omega)), TOk.down (by have := (f true).2; omega) (ih _ (f true).1 (by have := (f true).2; omega))⟩
theorem cpP_val {vars : Int} {L F : List S56} (h : DV vars L) (bits : List Int) : ∀ (m : Nat) (n : Int), Pl L n → vars - dvar vars L n < m → tval vars F bits (cpP vars L n) = dvP vars L bits n := by
  intro m
  induction m with
  | zero =>
    intro n p h1
    have := (h.dvar_le p).2
    omega
  | succ m ih =>
    intro n p h1
    by_cases c : n < 2
    · rw [cpP_const c, dvP_const c]
      exact dvP_const c
    · have f := fun hi => gat_ok h p (Int.le_refl _) ((dvar_two h p).2 c) hi
      rw [cpP_fork h p c, dvP_fork h bits p c]
      unfold tval
      by_cases cb : rd bits (dvar vars L n) = 1
      · rw [if_pos cb, decide_eq_true cb]
        exact ih _ (f true).1 (by have := (f true).2; omega)
      · rw [if_neg cb, decide_eq_false cb]
        exact ih _ (f false).1 (by have := (f false).2; omega)
/-- Numbers below n, none twice, are n at most. -/
theorem nodup_bound : ∀ (n : Nat) (l : List Nat), l.Nodup → (∀ x ∈ l, x < n) → l.length ≤ n := by
  intro n
  induction n with
  | zero =>
    intro l _ hl
    cases l with
    | nil => exact Nat.le_refl _
    | cons x l => exact absurd (hl x List.mem_cons_self) (Nat.not_lt_zero _)
  | succ n ih =>
    intro l hn hl
    have h1 := ih (l.erase n) (hn.erase n) (fun x hx => by
      have hx2 := (List.Nodup.mem_erase_iff hn).1 hx
      have := hl x hx2.2
      have := hx2.1
      omega)
    by_cases c : n ∈ l
    · rw [List.length_erase_of_mem c] at h1
      omega
    · rw [List.erase_of_not_mem c] at h1
      omega
/-- Each place has the values of a place of the elder diagram. -/
def Img (vars : Int) (L F : List S56) : Prop := ∀ p, Pl F p → ∃ q, Pl L q ∧ ∀ bits : List Int, bits.length = 12 → dvP vars F bits p = dvP vars L bits q
/-- Where there are as many forks as may be, each place of the elder diagram is there. -/
theorem img_full {vars : Int} {L F : List S56} (h : DV vars L) (hF : DV vars F) (hi : Img vars L F) (hl : 2000 ≤ F.length) {q : Int} (pq : Pl L q) : ∃ p, Pl F p ∧ ∀ bits : List Int, bits.length = 12 → dvP vars F bits p = dvP vars L bits q := by
  refine Classical.byContradiction (fun hno => ?_)
  have key : ∀ m : Nat, m ≤ F.length → ∃ l : List Nat, l.length = m + 1 ∧ l.Nodup ∧ (∀ x ∈ l, x < L.length + 2) ∧ (∀ x ∈ l, (x : Int) = q ∨ ∃ p : Int, 2 ≤ p ∧ p < (m : Int) + 2 ∧ ∀ bits : List Int, bits.length = 12 → dvP vars F bits p = dvP vars L bits (x : Int)) := by
    intro m
    induction m with
    | zero =>
      intro _
      refine ⟨[q.toNat], rfl, by simp, fun x hx => ?_, fun x hx => ?_⟩
      · rw [List.mem_singleton.mp hx]
        have := pq.1
        have := pq.2
        omega
      · rw [List.mem_singleton.mp hx]
        have := pq.1
        exact .inl (by omega)
    | succ m ih =>
      intro hm
      obtain ⟨l, l1, l2, l3, l4⟩ := ih (by omega)
      have pp : Pl F ((m : Int) + 2) := ⟨by omega, by omega⟩
      obtain ⟨y, py, hy⟩ := hi _ pp
      have y0 := py.1
      have y1 := py.2
      have hyc : (y.toNat : Int) = y := by omega
      refine ⟨y.toNat :: l, by simp [l1], List.nodup_cons.2 ⟨fun hmem => ?_, l2⟩, fun x hx => ?_, fun x hx => ?_⟩
      · rcases l4 _ hmem with e | ⟨p, p2, p3, hp⟩
        · exact hno ⟨_, pp, fun bits hb => by rw [hy bits hb, ← hyc, e]⟩
        · have e : p = (m : Int) + 2 := canon_eq hF ⟨by omega, by omega⟩ pp (fun bits hb => by rw [hp bits hb, hyc, hy bits hb])
          omega
      · rcases List.mem_cons.mp hx with e | hx
        · rw [e]
          omega
        · exact l3 x hx
      · rcases List.mem_cons.mp hx with e | hx
        · rw [e]
          refine .inr ⟨(m : Int) + 2, by omega, by omega, fun bits hb => ?_⟩
          rw [hyc]
          exact hy bits hb
        · rcases l4 x hx with e | ⟨p, p2, p3, hp⟩
          · exact .inl e
          · exact .inr ⟨p, p2, by omega, hp⟩
  obtain ⟨l, l1, l2, l3, l4⟩ := key F.length (Nat.le_refl _)
  have n0 : ∀ c : Nat, c < 2 → c ∉ l := fun c hc hmem => by
    have cc : (c : Int) < 2 := by omega
    rcases l4 c hmem with e | ⟨p, p2, p3, hp⟩
    · refine hno ⟨q, ⟨pq.1, by omega⟩, fun bits _ => ?_⟩
      rw [dvP_const (by omega), dvP_const (by omega)]
    · have e : p = (c : Int) := canon_eq hF ⟨by omega, by omega⟩ ⟨by omega, by omega⟩ (fun bits hb => by rw [hp bits hb, dvP_const cc, dvP_const cc])
      omega
  have hb := nodup_bound (L.length + 2) (0 :: 1 :: l) (List.nodup_cons.2 ⟨fun hm => by
    rcases List.mem_cons.mp hm with e | hm
    · cases e
    · exact n0 0 (by decide) hm, List.nodup_cons.2 ⟨n0 1 (by decide), l2⟩⟩) (fun x hx => by
      rcases List.mem_cons.mp hx with e | hx
      · omega
      · rcases List.mem_cons.mp hx with e | hx
        · omega
        · exact l3 x hx)
  have := h.len
  have := hF.len
  simp only [List.length_cons] at hb
  omega
/-- There is always room for the forks of the elder diagram. -/
theorem ins_cp {vars : Int} {L : List S56} (h : DV vars L) : ∀ (m : Nat) (n : Int) (F : List S56), DV vars F → Img vars L F → Pl L n → vars - dvar vars L n < m → 0 ≤ (ins F (cpP vars L n)).2 ∧ Img vars L (ins F (cpP vars L n)).1 := by
  intro m
  induction m with
  | zero =>
    intro n F _ _ p h1
    have := (h.dvar_le p).2
    omega
  | succ m ih =>
    intro n F hF hi p h1
    by_cases c : n < 2
    · rw [cpP_const c]
      exact ⟨p.1, hi⟩
    have hv := (dvar_two h p).2 c
    have f := fun hi => gat_ok h p (Int.le_refl _) hv hi
    have hok := cpP_ok h hF 13 n p (by have := (h.dvar_le p).1; have := h.v12; omega)
    rw [cpP_fork h p c] at hok ⊢
    rw [ins_fork]
    obtain ⟨l0, hi1⟩ := ih _ F hF hi (f false).1 (by have := (f false).2; omega)
    obtain ⟨d1, pl1⟩ := dv_ins hF hok.2.2.2.1
    obtain ⟨pl1, ql1⟩ := pl1 l0
    obtain ⟨r0, hi2⟩ := ih _ (ins F (cpP vars L (gat L n (dvar vars L n) false))).1 d1 hi1 (f true).1 (by have := (f true).2; omega)
    have e1 := ins_ext F (cpP vars L (gat L n (dvar vars L n) false))
    obtain ⟨d2, pl2⟩ := dv_ins d1 (hok.2.2.2.2.ext e1)
    obtain ⟨pl2, ql2⟩ := pl2 r0
    have v1 := fun bits => ins_val bits hF hok.2.2.2.1 l0
    have v2 := fun bits => ins_val bits d1 (hok.2.2.2.2.ext e1) r0
    have e2 := ins_ext (ins F (cpP vars L (gat L n (dvar vars L n) false))).1 (cpP vars L (gat L n (dvar vars L n) true))
    have fu := fun bits (hi : Bool) => cpP_val (F := F) h bits 13 _ (f hi).1 (by have := (h.dvar_le (f hi).1).1; have := h.v12; omega)
    have fu2 := fun bits (hi : Bool) => cpP_val (F := (ins F (cpP vars L (gat L n (dvar vars L n) false))).1) h bits 13 _ (f hi).1 (by have := (h.dvar_le (f hi).1).1; have := h.v12; omega)
    rw [if_neg (by omega)]
    generalize hF1 : (ins F (cpP vars L (gat L n (dvar vars L n) false))).1 = F1 at *
    generalize hr1 : (ins F (cpP vars L (gat L n (dvar vars L n) false))).2 = r1 at *
    generalize hF2 : (ins F1 (cpP vars L (gat L n (dvar vars L n) true))).1 = F2 at *
    generalize hr2 : (ins F1 (cpP vars L (gat L n (dvar vars L n) true))).2 = r2 at *
    have p1 := pl1.ext e2
    have hv0 := (h.dvar_le p).1
    have hvl : dvar vars L n < dvar vars F2 r1 := by rw [dvar_ext pl1 e2]; omega
    have hvh : dvar vars L n < dvar vars F2 r2 := by omega
    have vals : ∀ bits, (if rd bits (dvar vars L n) = 1 then dvP vars F2 bits r2 else dvP vars F2 bits r1) = dvP vars L bits n := fun bits => by
      rw [dvP_fork h bits p c]
      by_cases cb : rd bits (dvar vars L n) = 1
      · rw [if_pos cb, decide_eq_true cb, v2 bits, fu2 bits true]
      · rw [if_neg cb, decide_eq_false cb, dvP_ext d1 e2 bits pl1, v1 bits, fu bits false]
    have room : 0 ≤ (dadd F2 (dvar vars L n) r1 r2).2 := by
      refine Decidable.byContradiction (fun hneg => ?_)
      have hlen : 2000 ≤ F2.length := by
        unfold dadd at hneg
        rw [if_neg (by omega)] at hneg
        by_cases ce : r1 = r2
        · rw [if_pos ce] at hneg
          exact absurd l0 hneg
        · rw [if_neg ce] at hneg
          cases hf : dfind F2 ⟨dvar vars L n, r1, r2⟩ with
          | some i =>
            rw [hf] at hneg
            exact absurd (show (0 : Int) ≤ (i : Int) + 2 by omega) hneg
          | none =>
            rw [hf] at hneg
            simp only at hneg
            by_cases c4 : 2000 ≤ F2.length
            · exact c4
            · rw [if_neg c4] at hneg
              exact absurd (show (0 : Int) ≤ (F2.length : Int) + 2 by omega) hneg
      obtain ⟨pz, hz1, hz2⟩ := img_full h d2 hi2 hlen p
      have hok2 : TOk vars F2 (dvar vars L n) (.fork (dvar vars L n) (.leaf r1) (.leaf r2)) := ⟨Int.le_refl _, hv0, hv, ⟨p1, by omega⟩, ⟨pl2, by omega⟩⟩
      have ht := ins_there d2 pz hok2 hz1 (fun bits hb => by
        rw [hz2 bits hb, ← vals bits]
        rfl)
      rw [ins_fork] at ht
      have e3 : ¬ (ins F2 (.leaf r1)).2 < 0 := by show ¬ r1 < 0; omega
      rw [if_neg e3] at ht
      have e4 : dadd F2 (dvar vars L n) r1 r2 = (F2, pz) := ht
      rw [e4] at hneg
      exact hneg hz1.1
    refine ⟨room, fun z hz => ?_⟩
    obtain ⟨d3, pl3⟩ := dv_dadd d2 p1 pl2 hv0 hv hvl hvh
    have e3 := dadd_ext F2 (dvar vars L n) r1 r2
    by_cases cz : Pl F2 z
    · obtain ⟨q, pq, hq⟩ := hi2 z cz
      exact ⟨q, pq, fun bits hb => by rw [dvP_ext d2 e3 bits cz, hq bits hb]⟩
    · -- the new place
      have hz3 : z = (dadd F2 (dvar vars L n) r1 r2).2 := by
        have a0 := hz.1
        have a1 := hz.2
        have a2 : ¬ z ≤ (F2.length : Int) + 1 := fun hle => cz ⟨a0, hle⟩
        have hd2 := (pl3 room).1.2
        unfold dadd at a1 hd2 room ⊢
        rw [if_neg (by omega)] at a1 hd2 room ⊢
        by_cases ce : r1 = r2
        · rw [if_pos ce] at a1
          exact absurd a1 a2
        · rw [if_neg ce] at a1 hd2 room ⊢
          cases hf : dfind F2 ⟨dvar vars L n, r1, r2⟩ with
          | some i =>
            rw [hf] at a1
            exact absurd a1 a2
          | none =>
            rw [hf] at a1
            simp only at a1 ⊢
            by_cases c4 : 2000 ≤ F2.length
            · rw [if_pos c4] at a1
              exact absurd a1 a2
            · rw [if_neg c4] at a1 ⊢
              simp only [List.length_append, List.length_singleton] at a1
              show z = (F2.length : Int) + 2
              omega
      refine ⟨n, p, fun bits _ => ?_⟩
      rw [hz3, dadd_val d2 p1 pl2 hv0 hv hvl hvh room bits, vals bits]
theorem img_nil (vars : Int) (L : List S56) : Img vars L [] := fun p hp => ⟨p, ⟨hp.1, by have := hp.2; simp at this; omega⟩, fun bits _ => by have := hp.2; simp at this; rw [dvP_const (by omega), dvP_const (by omega)]⟩
theorem spec_into {vars : Int} {L : List S56} (h : DV vars L) : ∀ (m : Nat) (n : Int) (F : List S56), DV vars F → Img vars L F → Pl L n → vars - dvar vars L n < m → Ev (fun k => spec_l9Into.f k vars F vars L n) (vars, (ins F (cpP vars L n)).1, (ins F (cpP vars L n)).2) := by
  intro m
  induction m with
  | zero =>
    intro n F _ _ p h1
    have := (h.dvar_le p).2
    omega
  | succ m ih =>
    intro n F hF hi p h1
    have p0 := p.1
    have pn := p.2
    have hl := h.len
    by_cases c : n < 2
    · rw [cpP_const c]
      exact Ev.step (Ev.pos c (Ev.val _)) (fun k => spec_l9Into.f.eq_2 ..)
    have hv := (dvar_two h p).2 c
    have f := fun hi => gat_ok h p (Int.le_refl _) hv hi
    have hok := cpP_ok h hF 13 n p (by have := (h.dvar_le p).1; have := h.v12; omega)
    rw [cpP_fork h p c] at hok ⊢
    rw [ins_fork]
    obtain ⟨l0, hi1⟩ := ins_cp h 13 _ F hF hi (f false).1 (by have := (h.dvar_le (f false).1).1; have := h.v12; omega)
    obtain ⟨d1, _⟩ := dv_ins hF hok.2.2.2.1
    obtain ⟨d2, _⟩ := dv_ins d1 (hok.2.2.2.2.ext (ins_ext F _))
    have g0 : (rd_T56 L (n - 2)).f0 = dvar vars L n := (dvar_self c).symm
    have g1 : (rd_T56 L (n - 2)).f1 = gat L n (dvar vars L n) false := by rw [gat_self c]; rfl
    have g2 : (rd_T56 L (n - 2)).f2 = gat L n (dvar vars L n) true := by rw [gat_self c]; rfl
    refine Ev.step ?_ (fun k => spec_l9Into.f.eq_2 ..)
    rw [w_id (by omega) (by omega), g0, g1, g2, if_neg (by omega)]
    exact Ev.neg c (Ev.pos (by omega) (Ev.pos (by omega) (Ev.bind (ih _ F hF hi (f false).1 (by have := (f false).2; omega)) (Ev.bind (ih _ _ d1 hi1 (f true).1 (by have := (f true).2; omega)) (Ev.bind (Ev.const (add_val vars _ _ _ _ d2.len)) (Ev.val _))))))
structure InvC (vars : Int) (L : List S56) (s : FS) (mm : Int → Option Int) : Prop where
  vs : s.vars = vars
  full : s.full = false
  dv : DV vars s.forks
  seen : s.seen = seenP s.forks
  img : Img vars L s.forks
  low : ∀ q, 0 ≤ q → q < 2 → mm q = some q
  memo : ∀ q r, mm q = some r → Pl L q ∧ 0 ≤ r ∧ ins s.forks (cpP vars L q) = (s.forks, r)
theorem comp_cl {vars : Int} {L : List S56} (h : DV vars L) : ∀ (m : Nat) (n : Int) (s : FS) (mm : Int → Option Int), InvC vars L s mm → Pl L n → vars - dvar vars L n < m →
    ∃ s' mm' r, Ev (fun k => impl_compacted.cl k L s n mm) (s', mm', r) ∧ InvC vars L s' mm' ∧ s.forks <+: s'.forks ∧ s'.forks = (ins s.forks (cpP vars L n)).1 ∧ r = (ins s.forks (cpP vars L n)).2 := by
  intro m
  induction m with
  | zero =>
    intro n s mm _ p h1
    have := (h.dvar_le p).2
    omega
  | succ m ih =>
    intro n s mm hI p h1
    have p0 := p.1
    have pn := p.2
    have hl := h.len
    have v12 := h.v12
    have hk : KeyI n := keyI p0 (by omega)
    cases hq : mm n with
    | some r =>
      obtain ⟨_, _, h4⟩ := hI.memo n r hq
      refine ⟨s, mm, r, Ev.step (Ev.pos hk ?_) (fun k => impl_compacted.cl.eq_2 ..), hI, List.prefix_refl _, by rw [h4], by rw [h4]⟩
      rw [hq]
      exact Ev.val _
    | none =>
      have c : ¬ n < 2 := fun c => by rw [hI.low n p0 c] at hq; cases hq
      have hv := (dvar_two h p).2 c
      have hv0 := (h.dvar_le p).1
      have f := fun hi => gat_ok h p (Int.le_refl _) hv hi
      have g0 : (rd_T56 L (n - 2)).f0 = dvar vars L n := (dvar_self c).symm
      have g1 : (rd_T56 L (n - 2)).f1 = gat L n (dvar vars L n) false := by rw [gat_self c]; rfl
      have g2 : (rd_T56 L (n - 2)).f2 = gat L n (dvar vars L n) true := by rw [gat_self c]; rfl
      obtain ⟨s1, m1, r1, e1, i1, x1, f1, k1⟩ := ih _ s mm hI (f false).1 (by have := (f false).2; omega)
      obtain ⟨s2, m2, r2, e2, i2, x2, f2, k2⟩ := ih _ s1 m1 i1 (f true).1 (by have := (f true).2; omega)
      have rm := ins_cp h 13 n s.forks hI.dv hI.img p (by omega)
      have rm1 := ins_cp h 13 _ s.forks hI.dv hI.img (f false).1 (by have := (h.dvar_le (f false).1).1; omega)
      have rm2 := ins_cp h 13 _ s1.forks i1.dv i1.img (f true).1 (by have := (h.dvar_le (f true).1).1; omega)
      have ok1 := cpP_ok h hI.dv 13 _ (f false).1 (by have := (h.dvar_le (f false).1).1; omega)
      have ok2 := cpP_ok h i1.dv 13 _ (f true).1 (by have := (h.dvar_le (f true).1).1; omega)
      have okn := cpP_ok h hI.dv 13 n p (by omega)
      have pl1 := ((dv_ins hI.dv ok1).2 rm1.1).1
      have pl2 := ((dv_ins i1.dv ok2).2 rm2.1).1
      rw [← f1, ← k1] at pl1
      rw [← f2, ← k2] at pl2
      have hins : ins s.forks (cpP vars L n) = dadd s2.forks (dvar vars L n) r1 r2 := by
        rw [cpP_fork h p c, ins_fork, if_neg (by omega), ← f1, ← k1, ← f2, ← k2]
      have hl1 := i1.dv.len
      have hl2 := i2.dv.len
      obtain ⟨s3, r3, ef, q1, q2, q3, q4, q5⟩ := fork_val s2 (dvar vars L n) r1 r2 (show KeyI (dvar vars L n) ∧ KeyI r1 ∧ KeyI r2 from ⟨keyI hv0 (by omega), keyI pl1.1 (by have := pl1.2; omega), keyI pl2.1 (by have := pl2.2; omega)⟩) pl1.1 pl2.1 i2.seen
      rw [hins] at rm
      rw [if_neg (by omega)] at q5
      have x3 : s2.forks <+: s3.forks := by rw [q4]; exact dadd_ext _ _ _ _
      have xx := (x1.trans x2).trans x3
      have hd3 : DV vars s3.forks := by
        rw [q4, ← hins]
        exact (dv_ins hI.dv okn).1
      have stay : ∀ q r, m2 q = some r → Pl L q ∧ 0 ≤ r ∧ ins s3.forks (cpP vars L q) = (s3.forks, r) := fun q r hm => by
        obtain ⟨j1, j3, j4⟩ := i2.memo q r hm
        have := ins_stays (L := s2.forks) (t := cpP vars L q) (by rw [j4]; exact j3) (L2 := s3.forks) (by rw [j4]; exact x3)
        exact ⟨j1, j3, by rw [this, j4]⟩
      refine ⟨s3, fun y => if y = n then some r3 else m2 y, r3, Ev.step (Ev.pos hk ?_) (fun k => impl_compacted.cl.eq_2 ..), ⟨by rw [q1]; exact i2.vs, q5.1.trans i2.full, hd3, q3, by rw [q4]; exact rm.2, fun q a b => ?_, fun q r hm => ?_⟩, xx, by rw [q4, hins], by rw [hins]; exact q5.2⟩
      · rw [hq, w_id (by omega) (by omega), g0, g1, g2]
        exact Ev.pos (by omega) (Ev.pos (by omega) (Ev.bind e1 (Ev.bind e2 (Ev.bind (Ev.const ef) (Ev.val _)))))
      · show (if q = n then some r3 else m2 q) = some q
        rw [if_neg (by omega)]
        exact i2.low q a b
      · by_cases e : q = n
        · subst e
          have hr : r3 = r := by simpa using hm
          subst hr
          have := ins_stays (L := s.forks) (t := cpP vars L q) (by rw [hins]; exact rm.1) (L2 := s3.forks) (by rw [hins, ← q4]; exact List.prefix_refl _)
          exact ⟨p, by rw [q5.2]; exact rm.1, by rw [this, hins, q5.2]⟩
        · have : m2 q = some r := by simpa [e] using hm
          exact stay q r this
def CompIs (vars : Int) (L : List S56) (n : Int) (r : Int × List S56 × Int) : Prop :=
  (DV vars L ∧ Pl L n → r = (vars, (ins [] (cpP vars L n)).1, (ins [] (cpP vars L n)).2)) ∧ (¬ (DV vars L ∧ Pl L n) → r = (0, [], -1))
theorem compIs_ex (vars : Int) (L : List S56) (n : Int) : ∃ r, CompIs vars L n r ∧ r.2.1.length ≤ 2000 := by
  by_cases c : DV vars L ∧ Pl L n
  · refine ⟨_, ⟨fun _ => rfl, fun h => absurd c h⟩, ?_⟩
    have dn := dv_nil c.1.v0 c.1.v12
    exact (dv_ins dn (cpP_ok c.1 dn 13 n c.2 (by have := (c.1.dvar_le c.2).1; have := c.1.v12; omega))).1.len
  · exact ⟨(0, [], -1), ⟨fun h => absurd h c, fun _ => rfl⟩, Nat.zero_le _⟩
theorem spec_comp {vars n : Int} {L : List S56} {r : Int × List S56 × Int} (h : CompIs vars L n r) : Ev (fun k => spec_Compacted.f k vars L n) r := by
  obtain ⟨hy, hn⟩ := h
  unfold spec_Compacted.f
  obtain ⟨q, hb, h1⟩ := spec_dv vars L
  cases q with
  | false =>
    rw [hn (fun h => by have := h1.2 h.1; cases this)]
    exact Ev.bind hb (Ev.neg (by decide) (Ev.val _))
  | true =>
    have hd := h1.1 rfl
    have hl := hd.len
    refine Ev.bind hb (Ev.pos rfl (Ev.bind (Ev.const (place_val L n (by omega))) ?_))
    by_cases pa : Pl L n
    · rw [@decide_eq_true _ (decPl L n) pa, hy ⟨hd, pa⟩]
      have dn := dv_nil hd.v0 hd.v12
      exact Ev.pos rfl (Ev.bind (spec_into hd 13 n [] dn (img_nil _ _) pa (by have := (hd.dvar_le pa).1; have := hd.v12; omega)) (Ev.val _))
    · rw [@decide_eq_false _ (decPl L n) pa, hn (fun h => pa h.2)]
      exact Ev.neg (by decide) (Ev.val _)
theorem comp_v {vars n : Int} {L : List S56} {r : Int × List S56 × Int} (h : CompIs vars L n r) : Ev (fun k => impl_Compacted.f k vars L n) r := by
  obtain ⟨hy, hn⟩ := h
  unfold impl_Compacted.f
  obtain ⟨q, hb, h1⟩ := impl_dv vars L
  refine Ev.bind (Ev.const hb) ?_
  cases q with
  | false =>
    rw [hn (fun h => by have := h1.2 h.1; cases this)]
    exact Ev.neg (by decide) (Ev.val _)
  | true =>
    have hd := h1.1 rfl
    have hl := hd.len
    refine Ev.pos rfl (Ev.bind (Ev.const (isPlace_val vars n (by omega))) ?_)
    by_cases pa : Pl L n
    · rw [@decide_eq_true _ (decPl L n) pa, hy ⟨hd, pa⟩]
      have dn := dv_nil hd.v0 hd.v12
      have i0 : InvC vars L (fs0 vars []) impl_compacted.m0 := ⟨rfl, rfl, dn, rfl, img_nil _ _, fun q a b => by
        have : q = 0 ∨ q = 1 := by omega
        rcases this with rfl | rfl <;> rfl, fun q r hm => by
        unfold impl_compacted.m0 at hm
        by_cases c1 : q = 1
        · rw [if_pos c1] at hm
          injection hm with hm
          subst c1 hm
          exact ⟨⟨by decide, by omega⟩, by decide, by rw [cpP_const (by decide)]; rfl⟩
        · rw [if_neg c1] at hm
          by_cases c0 : q = 0
          · rw [if_pos c0] at hm
            injection hm with hm
            subst c0 hm
            exact ⟨⟨by decide, by omega⟩, by decide, by rw [cpP_const (by decide)]; rfl⟩
          · rw [if_neg c0] at hm
            cases hm⟩
      obtain ⟨s', mm', m', ev, i1, _, f1, k1⟩ := comp_cl hd 13 n (fs0 vars []) impl_compacted.m0 i0 pa (by have := (hd.dvar_le pa).1; have := hd.v12; omega)
      refine Ev.pos rfl (Ev.bind (a := (vars, (ins [] (cpP vars L n)).1, (ins [] (cpP vars L n)).2)) ?_ (Ev.val _))
      unfold impl_compacted.f
      refine Ev.bind (Ev.const (forkingOf_val dn)) (Ev.bind ev (Ev.const ?_))
      show impl_forking_done.f s' m' = _
      rw [done_val s' m' i1.dv.len, if_neg (by rw [i1.full]; decide), i1.vs, f1, k1]
      rfl
    · rw [@decide_eq_false _ (decPl L n) pa, hn (fun h => pa h.2)]
      exact Ev.neg (by decide) (Ev.val _)
/-! #### the law's own copies of diagrams -/
theorem sz_forks (l : List S138) (h : l.length ≤ maxLen) : ∃ z, laws_szForkS.f l 1048576 = some z ∧ (z < 0 ∨ l.length ≤ 1048576) := by
  unfold laws_szForkS.f
  simp only [maxLen] at h
  rw [w_id (by omega) (by omega)]
  by_cases c : 1048576 - (l.length : Int) < 0
  · rw [if_pos c]
    exact ⟨_, rfl, .inl (by decide)⟩
  · rw [if_neg c]
    exact ⟨_, rfl, .inr (by omega)⟩
theorem sz_diagram (a : Int) (l : List S138) (h : l.length ≤ maxLen) : ∃ z, laws_szDiagram.f a l 1048576 = some z ∧ (z < 0 ∨ l.length ≤ 1048576) := by
  obtain ⟨z, h1, h2⟩ := sz_forks l h
  unfold laws_szDiagram.f
  rw [h1, Option.bind_some]
  by_cases c : z < 0
  · rw [if_pos c]
    exact ⟨_, rfl, .inl (by decide)⟩
  · rw [if_neg c]
    exact ⟨_, rfl, h2⟩
theorem wnat (i : Nat) (h : i ≤ 1000000000000) : wrap64 ((i : Int) + 1) = ((i + 1 : Nat) : Int) := by rw [w_id (by omega) (by omega)]; omega
theorem to_forks_loop (l : List S138) (hl : l.length ≤ 1048576) : ∀ (d i : Nat) (ys : List S56), i + d = l.length → ys.length = l.length →
    ∃ r, Ev (fun k => laws_toForkS.l0 k l ys (i : Int)) r ∧ r.length = l.length := by
  intro d
  induction d with
  | zero =>
    intro i ys hi hy
    exact ⟨ys, Ev.step (Ev.neg (by omega) (Ev.val _)) (fun k => laws_toForkS.l0.eq_2 ..), hy⟩
  | succ d ih =>
    intro i ys hi hy
    have hwi := wnat i (by omega)
    obtain ⟨r, hr, hl2⟩ := ih (i + 1) (ys.set i (⟨(rd_T138 l (i : Int)).f0, (rd_T138 l (i : Int)).f1, (rd_T138 l (i : Int)).f2⟩ : S56)) (by omega) (by simpa using hy)
    refine ⟨r, Ev.step ?_ (fun k => laws_toForkS.l0.eq_2 ..), hl2⟩
    rw [hwi, Int.toNat_natCast]
    exact Ev.pos (by omega) (Ev.pos (by omega) (Ev.bind (Ev.const (by unfold laws_toFork.f; rfl)) (Ev.pos (by omega) hr)))
theorem to_diagram (a : Int) (l : List S138) (hl : l.length ≤ 1048576) : ∃ L, Ev (fun k => laws_toDiagram.f k a l) (a, L) ∧ L.length = l.length := by
  obtain ⟨r, hr, hl2⟩ := to_forks_loop l hl l.length 0 (List.replicate l.length z56) (by omega) (by simp)
  refine ⟨r, ?_, hl2⟩
  unfold laws_toDiagram.f
  refine Ev.bind (a := r) ?_ (Ev.val _)
  unfold laws_toForkS.f
  refine Ev.pos (by omega) (Ev.pos (by omega) ?_)
  rw [Int.toNat_natCast]
  exact hr
theorem eq_forks_loop (l : List S56) (hl : l.length ≤ 4611686018427387904) : ∀ (d i : Nat), i + d = l.length → Ev (fun k => laws_eqForkS.l0 k l l (i : Int)) true := by
  intro d
  induction d with
  | zero =>
    intro i hi
    exact Ev.step (Ev.neg (by omega) (Ev.val _)) (fun k => laws_eqForkS.l0.eq_2 ..)
  | succ d ih =>
    intro i hi
    have hwi : wrap64 ((i : Int) + 1) = ((i + 1 : Nat) : Int) := by rw [w_id (by omega) (by omega)]; omega
    refine Ev.step ?_ (fun k => laws_eqForkS.l0.eq_2 ..)
    rw [hwi]
    exact Ev.pos (by omega) (Ev.pos (by omega) (Ev.pos (by omega) (Ev.bind (Ev.const (by unfold laws_eqFork.f; simp)) (Ev.pos rfl (ih (i + 1) (by omega))))))
theorem eq_diagram (a : Int) (l : List S56) (hl : l.length ≤ 4611686018427387904) : Ev (fun k => laws_eqDiagram.f k a l a l) true := by
  unfold laws_eqDiagram.f
  refine Ev.pos rfl (Ev.bind (a := true) ?_ (Ev.pos rfl (Ev.val _)))
  unfold laws_eqForkS.f
  exact Ev.pos rfl (eq_forks_loop l hl l.length 0 (by omega))
theorem rdSetF {L : List S56} {i : Nat} (x : S56) (h : i < L.length) : rd_T56 (L.set i x) (i : Int) = x := by rw [rdF (by simpa using h), List.getElem_set_self]
/-- The numbers that the law writes into forks. -/
def markF (c : Nat) : S56 := ⟨1 + 3 * (c : Int), 2 + 3 * (c : Int), 3 + 3 * (c : Int)⟩
theorem mark_forks_loop (n : Nat) (hn : n ≤ 1048576) : ∀ (d i : Nat) (c : Int) (ys : List S56), i + d = n → ys.length = n → c = 1 + 3 * (i : Int) → (∀ q (h : q < ys.length), q < i → ys[q] = markF q) →
    ∃ zs, Ev (fun k => laws_markForkS.l0 k ys c (i : Int)) (1 + 3 * (n : Int), zs) ∧ zs.length = n ∧ ∀ q (h : q < zs.length), zs[q] = markF q := by
  intro d
  induction d with
  | zero =>
    intro i c ys hi hy hc hq
    have : i = n := by omega
    subst this
    subst hc
    exact ⟨ys, Ev.step (Ev.neg (by omega) (Ev.val _)) (fun k => laws_markForkS.l0.eq_2 ..), hy, fun q h => hq q h (by omega)⟩
  | succ d ih =>
    intro i c ys hi hy hc hq
    have hwi := wnat i (by omega)
    have w1 : wrap64 (c + 1) = c + 1 := w_id (by omega) (by omega)
    have w2 : wrap64 (c + 1 + 1) = c + 1 + 1 := w_id (by omega) (by omega)
    have w3 : wrap64 (c + 1 + 1 + 1) = c + 1 + 1 + 1 := w_id (by omega) (by omega)
    have hil : i < ys.length := by omega
    have key := ih (i + 1) (c + 1 + 1 + 1) (ys.set i (markF i)) (by omega) (by simpa using hy) (by omega) (fun q h hqi => by
      rw [List.length_set] at h
      by_cases e : q = i
      · subst e
        rw [List.getElem_set_self]
      · rw [List.getElem_set_ne (fun e2 => e e2.symm)]
        exact hq q h (by omega))
    obtain ⟨zs, e1, e2, e3⟩ := key
    refine ⟨zs, Ev.step ?_ (fun k => laws_markForkS.l0.eq_2 ..), e2, e3⟩
    simp only [w1, w2, w3, hwi, Int.toNat_natCast, Option.bind_some]
    refine Ev.pos (by omega) (Ev.pos (by omega) ?_)
    have e : ((ys.set i (⟨c, (rd_T56 ys (i : Int)).f1, (rd_T56 ys (i : Int)).f2⟩ : S56)).set i (⟨(rd_T56 (ys.set i (⟨c, (rd_T56 ys (i : Int)).f1, (rd_T56 ys (i : Int)).f2⟩ : S56)) (i : Int)).f0, c + 1, (rd_T56 (ys.set i (⟨c, (rd_T56 ys (i : Int)).f1, (rd_T56 ys (i : Int)).f2⟩ : S56)) (i : Int)).f2⟩ : S56)) = ys.set i ⟨c, c + 1, (rd_T56 ys (i : Int)).f2⟩ := by
      rw [rdSetF _ hil, List.set_set]
    rw [e, rdSetF _ hil, List.set_set]
    have e4 : (⟨c, c + 1, c + 1 + 1⟩ : S56) = markF i := by
      unfold markF
      rw [hc]
      congr 1 <;> omega
    rw [e4]
    exact e1
theorem mark_diagram (a : Int) (l : List S56) (hl : l.length ≤ 1048576) : ∃ zs, Ev (fun k => laws_markDiagram.f k a l 1) (1 + 3 * (l.length : Int), zs) ∧ zs.length = l.length ∧ ∀ q (h : q < zs.length), zs[q] = markF q := by
  obtain ⟨zs, h1, h2, h3⟩ := mark_forks_loop l.length hl l.length 0 1 l (by omega) rfl (by omega) (fun q h hq => absurd hq (by omega))
  refine ⟨zs, ?_, h2, h3⟩
  unfold laws_markDiagram.f
  refine Ev.bind (a := (1 + 3 * (l.length : Int), zs)) ?_ (Ev.val _)
  unfold laws_markForkS.f
  exact h1
theorem held_forks_loop (zs : List S56) (hn : zs.length ≤ 1048576) (hz : ∀ q (h : q < zs.length), zs[q] = markF q) : ∀ (d i : Nat) (c : Int), i + d = zs.length → c = 1 + 3 * (i : Int) → Ev (fun k => laws_heldForkS.l0 k zs c (i : Int)) (1 + 3 * (zs.length : Int)) := by
  intro d
  induction d with
  | zero =>
    intro i c hi hc
    subst hc
    exact Ev.step (Ev.neg (by omega) (Ev.valEq (by omega))) (fun k => laws_heldForkS.l0.eq_2 ..)
  | succ d ih =>
    intro i c hi hc
    have hwi := wnat i (by omega)
    have w1 : wrap64 (c + 1) = c + 1 := w_id (by omega) (by omega)
    have w2 : wrap64 (c + 1 + 1) = c + 1 + 1 := w_id (by omega) (by omega)
    have w3 : wrap64 (c + 1 + 1 + 1) = c + 1 + 1 + 1 := w_id (by omega) (by omega)
    have hil : i < zs.length := by omega
    refine Ev.step ?_ (fun k => laws_heldForkS.l0.eq_2 ..)
    simp only [w1, w2, w3, hwi]
    rw [rdF hil, hz i hil]
    exact Ev.pos (by omega) (Ev.pos (by omega) (Ev.pos (by unfold markF; simp only; omega) (Ev.pos (by unfold markF; simp only; omega) (Ev.pos (by unfold markF; simp only; omega) (ih (i + 1) _ (by omega) (by omega))))))
theorem held_diagram (a : Int) (zs : List S56) (hn : zs.length ≤ 1048576) (hz : ∀ q (h : q < zs.length), zs[q] = markF q) : Ev (fun k => laws_heldDiagram.f k a zs 1) (1 + 3 * (zs.length : Int)) := by
  unfold laws_heldDiagram.f
  refine Ev.bind (a := 1 + 3 * (zs.length : Int)) ?_ (Ev.neg (by omega) (Ev.val _))
  unfold laws_heldForkS.f
  exact held_forks_loop zs hn hz zs.length 0 1 (by omega) (by omega)

theorem FnExactCompacted : laws_FnExactCompacted.Pure := by
  intro a0 l0 a1 _ hl _
  apply Ev.get
  unfold laws_FnExactCompacted.f
  obtain ⟨z, hz1, hz2⟩ := sz_diagram a0 l0 hl.1
  refine Ev.bind (Ev.const hz1) ?_
  by_cases c : z < 0
  · exact Ev.pos c (Ev.val _)
  refine Ev.neg c ?_
  have hl0 : l0.length ≤ 1048576 := by omega
  obtain ⟨L, hL, hLl⟩ := to_diagram a0 l0 hl0
  obtain ⟨⟨r1, R, r3⟩, ht, hR⟩ := compIs_ex a0 L a1
  have hs : Ev (fun k => spec_Compacted.f k a0 L a1) (r1, R, r3) := spec_comp ht
  have hi : Ev (fun k => impl_Compacted.f k a0 L a1) (r1, R, r3) := comp_v ht
  have hR2 : R.length ≤ 2000 := hR
  obtain ⟨zs, hm, hml, _⟩ := mark_diagram a0 L (by omega)
  obtain ⟨ys, hn, hnl, hny⟩ := mark_diagram r1 R (by omega)
  have hh := held_diagram r1 ys (by omega) hny
  rw [hnl] at hh
  have j2 : Ev (fun k => laws_FnExactCompacted.j2 k (1 + 3 * (R.length : Int)) (r3 != r3) r1 ys) true := by
    refine Ev.step (Ev.neg (by simp) (Ev.bind hh (Ev.neg (by omega) (Ev.pos rfl (Ev.val _))))) (fun k => laws_FnExactCompacted.j2.eq_2 ..)
  have j1 : Ev (fun k => laws_FnExactCompacted.j1 k a1 r3 (r3 != r3) a0 l0 r1 R r1 R) true :=
    Ev.step (Ev.neg (by simp) (Ev.bind hn (Ev.bind hh (Ev.neg (by omega) (Ev.pos rfl (Ev.bind hL (Ev.bind hi (Ev.bind (eq_diagram r1 R (by omega)) (Ev.pos rfl j2))))))))) (fun k => laws_FnExactCompacted.j1.eq_2 ..)
  have j0 : Ev (fun k => laws_FnExactCompacted.j0 k a1 r3 r3 (r3 != r3) a0 l0 r1 R a0 L r1 R) true :=
    Ev.step (Ev.neg (by simp) (Ev.bind hL (Ev.bind (eq_diagram a0 L (by omega)) (Ev.pos rfl (Ev.bind hm (Ev.neg (by simp only; omega) (Ev.bind (eq_diagram r1 R (by omega)) (Ev.pos rfl j1)))))))) (fun k => laws_FnExactCompacted.j0.eq_2 ..)
  exact Ev.bind hL (Ev.bind hs (Ev.bind hL (Ev.bind hi (Ev.bind (eq_diagram r1 R (by omega)) (Ev.pos rfl j0)))))

end Go.Proofs.Ytpcckoljocpchaa.Pure
