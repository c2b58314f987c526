/- FnExactDiagramFix: the program's DiagramFix tells what the reference's tells, whatever is handed in, and keeps none of what was handed in. -/
import Derived.Test.YtpcompnmadpljaaQFnExactDiagramFixx10
namespace Go.Proofs.Ytpcompnmadpljaa.Pure
open Go.RowKit Go.Proofs.Ytpcompnmadpljaa.QFnExactDiagramFix Go.Proofs.YtpcompnmadpljaaW.PrintWords Go.Proofs.YtpcompnmadpljaaW.PrintLast Go.Proofs.YtpcompnmadpljaaW.PrintMore
set_option linter.unusedVariables false
set_option linter.unusedSimpArgs false

/-! #### rounds -/
/-- From some number of rounds on, g tells r. -/
def Ev {α : Type} (g : Nat → Option α) (r : α) : Prop := ∃ K, ∀ k, K ≤ k → g k = some r
theorem Ev.val {α : Type} (r : α) : Ev (fun _ => some r) r := ⟨0, fun _ _ => rfl⟩
theorem Ev.valEq {α : Type} {r r' : α} (h : r = r') : Ev (fun _ => some r) r' := ⟨0, fun _ _ => by rw [h]⟩
theorem Ev.const {α : Type} {g : Option α} {r : α} (h : g = some r) : Ev (fun _ => g) r := ⟨0, fun _ _ => h⟩
theorem Ev.bind {α β : Type} {g : Nat → Option α} {f : Nat → α → Option β} {a : α} {b : β} (h : Ev g a) (h2 : Ev (fun k => f k a) b) : Ev (fun k => (g k).bind (f k)) b := by
  obtain ⟨K, hK⟩ := h
  obtain ⟨L, hL⟩ := h2
  exact ⟨max K L, fun k hk => by show (g k).bind (f k) = _; rw [hK k (by omega)]; exact hL k (by omega)⟩
theorem Ev.step {α : Type} {g g' : Nat → Option α} {r : α} (h : Ev g' r) (e : ∀ k, g (k + 1) = g' k) : Ev g r := by
  obtain ⟨K, hK⟩ := h
  exact ⟨K + 1, fun k hk => by
    obtain ⟨m, rfl⟩ : ∃ m, k = m + 1 := ⟨k - 1, by omega⟩
    rw [e]
    exact hK m (by omega)⟩
theorem Ev.pos {α : Type} {c : Prop} [Decidable c] {g g' : Nat → Option α} {r : α} (hc : c) (h : Ev g r) : Ev (fun k => if c then g k else g' k) r := by
  obtain ⟨K, hK⟩ := h
  exact ⟨K, fun k hk => by simp only [if_pos hc]; exact hK k hk⟩
theorem Ev.neg {α : Type} {c : Prop} [Decidable c] {g g' : Nat → Option α} {r : α} (hc : ¬ c) (h : Ev g' r) : Ev (fun k => if c then g k else g' k) r := by
  obtain ⟨K, hK⟩ := h
  exact ⟨K, fun k hk => by simp only [if_neg hc]; exact hK k hk⟩
theorem Ev.get {α : Type} {g : Nat → Option α} {r : α} (h : Ev g r) : ∃ k, g k = some r := by
  obtain ⟨K, hK⟩ := h
  exact ⟨K, hK K (Nat.le_refl _)⟩
/-! #### numbers -/
theorem w_id {x : Int} (h0 : -9223372036854775808 ≤ x) (h1 : x ≤ 9223372036854775807) : wrap64 x = x := by
  unfold wrap64
  omega
/-! #### diagrams, plainly: forks that are added once -/
/-- A tree of decisions over places. -/
inductive DT where
  | leaf (n : Int)
  | fork (v : Int) (lo hi : DT)
def dfind (L : List S71) (x : S71) : Option Nat := L.findIdx? (fun y => decide (y = x))
def dadd (L : List S71) (v lo hi : Int) : List S71 × Int :=
  if lo < 0 ∨ hi < 0 then (L, -1) else if lo = hi then (L, lo) else
  match dfind L ⟨v, lo, hi⟩ with
  | some i => (L, (i : Int) + 2)
  | none => if 2000 ≤ L.length then (L, -1) else (L ++ [⟨v, lo, hi⟩], (L.length : Int) + 2)
def ins (L : List S71) : DT → List S71 × Int
  | .leaf n => (L, n)
  | .fork v lo hi => if (ins L lo).2 < 0 then (L, -1) else dadd (ins (ins L lo).1 hi).1 v (ins L lo).2 (ins (ins L lo).1 hi).2
theorem dfind_some {L : List S71} {x : S71} {i : Nat} (h : dfind L x = some i) : L[i]? = some x := by
  unfold dfind at h
  rw [List.findIdx?_eq_some_iff_getElem] at h
  obtain ⟨hi, h1, _⟩ := h
  rw [List.getElem?_eq_getElem hi]
  exact congrArg some (of_decide_eq_true h1)
theorem dfind_none {L : List S71} {x : S71} (h : dfind L x = none) : x ∉ L := by
  unfold dfind at h
  rw [List.findIdx?_eq_none_iff] at h
  intro hx
  have := h x hx
  simp at this
theorem dfind_append {L : List S71} {x : S71} {i : Nat} (h : dfind L x = some i) (t : List S71) : dfind (L ++ t) x = some i := by
  unfold dfind at h ⊢
  rw [List.findIdx?_append, h]
  rfl
theorem dfind_new {L : List S71} {x : S71} (h : dfind L x = none) (t : List S71) : dfind (L ++ x :: t) x = some L.length := by
  unfold dfind at h ⊢
  rw [List.findIdx?_append, h, List.findIdx?_cons]
  simp
def NoDup (L : List S71) : Prop := ∀ (i : Nat) x, L[i]? = some x → x ∉ L.take i
theorem neg1 {a : List S71} (h : 0 ≤ (a, (-1 : Int)).2) : False := absurd (show (0 : Int) ≤ -1 from h) (by decide)
theorem dadd_ext (L : List S71) (v lo hi : Int) : L <+: (dadd L v lo hi).1 := by
  unfold dadd
  split
  · exact List.prefix_refl _
  split
  · exact List.prefix_refl _
  split
  · exact List.prefix_refl _
  split
  · exact List.prefix_refl _
  · exact List.prefix_append _ _
theorem ins_ext (L : List S71) (t : DT) : L <+: (ins L t).1 := by
  induction t generalizing L with
  | leaf n => exact List.prefix_refl _
  | fork v lo hi ihl ihh =>
    unfold ins
    split
    · exact List.prefix_refl _
    · exact (ihl L).trans ((ihh _).trans (dadd_ext _ _ _ _))
theorem dadd_stays {L : List S71} {v lo hi : Int} (h : 0 ≤ (dadd L v lo hi).2) {L2 : List S71} (he : (dadd L v lo hi).1 <+: L2) : dadd L2 v lo hi = (L2, (dadd L v lo hi).2) := by
  unfold dadd at h he ⊢
  by_cases c1 : lo < 0 ∨ hi < 0
  · rw [if_pos c1] at h
    exact (neg1 h).elim
  rw [if_neg c1] at h he ⊢
  by_cases c2 : lo = hi
  · rw [if_neg c1, if_pos c2, if_pos c2]
  rw [if_neg c2] at h he ⊢
  rw [if_neg c1, if_neg c2]
  cases hf : dfind L ⟨v, lo, hi⟩ with
  | some i =>
    simp only [hf] at h he ⊢
    obtain ⟨t, rfl⟩ := he
    rw [dfind_append hf t]
  | none =>
    simp only [hf] at h he ⊢
    by_cases c3 : 2000 ≤ L.length
    · rw [if_pos c3] at h
      exact (neg1 h).elim
    rw [if_neg c3] at h he ⊢
    obtain ⟨t, rfl⟩ := he
    rw [List.append_assoc, List.singleton_append, dfind_new hf t]
theorem dadd_nn {L : List S71} {v lo hi : Int} (h : 0 ≤ (dadd L v lo hi).2) : 0 ≤ lo ∧ 0 ≤ hi := by
  unfold dadd at h
  by_cases c1 : lo < 0 ∨ hi < 0
  · rw [if_pos c1] at h
    exact (neg1 h).elim
  · omega
/-- What is there stays: once told, told again of whatever comes behind. -/
theorem ins_stays {L : List S71} {t : DT} (h : 0 ≤ (ins L t).2) {L2 : List S71} (he : (ins L t).1 <+: L2) : ins L2 t = (L2, (ins L t).2) := by
  induction t generalizing L L2 with
  | leaf n => rfl
  | fork v lo hi ihl ihh =>
    unfold ins at h he
    by_cases c : (ins L lo).2 < 0
    · rw [if_pos c] at h
      exact (neg1 h).elim
    rw [if_neg c] at h he
    have e1 : (ins (ins L lo).1 hi).1 <+: L2 := (dadd_ext _ _ _ _).trans he
    have e0 : (ins L lo).1 <+: L2 := (ins_ext _ _).trans e1
    have h2 := (dadd_nn h).2
    have k1 := ihl (by omega) e0
    have k2 := ihh h2 e1
    have k3 := dadd_stays h he
    unfold ins
    rw [if_neg c, k1]
    simp only
    rw [if_neg c, k2]
    simp only
    rw [k3]
/-- The variable of a place; c at constants. -/
def dvar (c : Int) (L : List S71) (n : Int) : Int := if n < 2 then c else (L.getD (n - 2).toNat ⟨0, 0, 0⟩).f0
def Pl (L : List S71) (n : Int) : Prop := 0 ≤ n ∧ n ≤ (L.length : Int) + 1
structure DV (vars : Int) (L : List S71) : Prop where
  v0 : 0 ≤ vars
  v12 : vars ≤ 12
  len : L.length ≤ 2000
  nd : NoDup L
  ok : ∀ (i : Nat) x, L[i]? = some x → 0 ≤ x.f0 ∧ x.f0 < vars ∧ 0 ≤ x.f1 ∧ x.f1 ≤ (i : Int) + 1 ∧ 0 ≤ x.f2 ∧ x.f2 ≤ (i : Int) + 1 ∧ x.f1 ≠ x.f2 ∧ x.f0 < dvar vars L x.f1 ∧ x.f0 < dvar vars L x.f2
theorem Pl.ext {L L2 : List S71} {n : Int} (h : Pl L n) (he : L <+: L2) : Pl L2 n := ⟨h.1, by have := he.length_le; have := h.2; omega⟩
theorem getD_ext {L L2 : List S71} (he : L <+: L2) {i : Nat} (h : i < L.length) (z : S71) : L2.getD i z = L.getD i z := by
  obtain ⟨t, rfl⟩ := he
  rw [List.getD_eq_getElem?_getD, List.getD_eq_getElem?_getD, List.getElem?_append_left h]
theorem dvar_ext {c : Int} {L L2 : List S71} {n : Int} (h : Pl L n) (he : L <+: L2) : dvar c L2 n = dvar c L n := by
  unfold dvar
  by_cases h2 : n < 2
  · rw [if_pos h2, if_pos h2]
  · rw [if_neg h2, if_neg h2, getD_ext he (by have := h.2; omega)]
/-- The fork at a place that is none of the constants. -/
theorem DV.at_ {vars : Int} {L : List S71} (h : DV vars L) {n : Int} (hp : Pl L n) (h2 : ¬ n < 2) : ∃ x, L[(n - 2).toNat]? = some x ∧ L.getD (n - 2).toNat ⟨0, 0, 0⟩ = x ∧ dvar vars L n = x.f0 ∧ 0 ≤ x.f0 ∧ x.f0 < vars ∧ Pl L x.f1 ∧ Pl L x.f2 ∧ x.f1 < n ∧ x.f2 < n ∧ x.f1 ≠ x.f2 ∧ x.f0 < dvar vars L x.f1 ∧ x.f0 < dvar vars L x.f2 := by
  have hl : (n - 2).toNat < L.length := by have := hp.2; omega
  have hx : L[(n - 2).toNat]? = some L[(n - 2).toNat] := List.getElem?_eq_getElem hl
  obtain ⟨a1, a2, a3, a4, a5, a6, a7, a8, a9⟩ := h.ok _ _ hx
  have hd : L.getD (n - 2).toNat ⟨0, 0, 0⟩ = L[(n - 2).toNat] := by rw [List.getD_eq_getElem?_getD, hx]; rfl
  refine ⟨_, hx, hd, ?_, a1, a2, ⟨a3, ?_⟩, ⟨a5, ?_⟩, ?_, ?_, a7, a8, a9⟩
  · unfold dvar
    rw [if_neg h2, hd]
  all_goals (have := hp.2; omega)
theorem DV.dvar_le {vars : Int} {L : List S71} (h : DV vars L) {n : Int} (hp : Pl L n) : 0 ≤ dvar vars L n ∧ dvar vars L n ≤ vars := by
  by_cases h2 : n < 2
  · unfold dvar
    rw [if_pos h2]
    exact ⟨h.v0, Int.le_refl _⟩
  · obtain ⟨x, _, _, e, a, b, _⟩ := h.at_ hp h2
    omega
theorem dv_dadd {vars : Int} {L : List S71} (h : DV vars L) {v lo hi : Int} (hl : Pl L lo) (hh : Pl L hi) (v0 : 0 ≤ v) (v1 : v < vars) (hvl : v < dvar vars L lo) (hvh : v < dvar vars L hi) :
    DV vars (dadd L v lo hi).1 ∧ (0 ≤ (dadd L v lo hi).2 → Pl (dadd L v lo hi).1 (dadd L v lo hi).2 ∧ v ≤ dvar vars (dadd L v lo hi).1 (dadd L v lo hi).2) := by
  unfold dadd
  by_cases c1 : lo < 0 ∨ hi < 0
  · rw [if_pos c1]
    exact ⟨h, fun hn => (neg1 hn).elim⟩
  rw [if_neg c1]
  by_cases c2 : lo = hi
  · rw [if_pos c2]
    exact ⟨h, fun _ => ⟨hl, Int.le_of_lt hvl⟩⟩
  rw [if_neg c2]
  cases hf : dfind L ⟨v, lo, hi⟩ with
  | some i =>
    have hx := dfind_some hf
    obtain ⟨hi, _⟩ := List.getElem?_eq_some_iff.1 hx
    have hp : Pl L ((i : Int) + 2) := ⟨by omega, by omega⟩
    refine ⟨h, fun _ => ⟨hp, ?_⟩⟩
    show v ≤ dvar vars L ((i : Int) + 2)
    unfold dvar
    rw [if_neg (by omega), show ((i : Int) + 2 - 2).toNat = i by omega, List.getD_eq_getElem?_getD, hx]
    exact Int.le_refl _
  | none =>
    simp only
    by_cases c3 : 2000 ≤ L.length
    · rw [if_pos c3]
      exact ⟨h, fun hn => (neg1 hn).elim⟩
    rw [if_neg c3]
    have he : L <+: L ++ [⟨v, lo, hi⟩] := List.prefix_append _ _
    refine ⟨⟨h.v0, h.v12, by simp; omega, ?_, ?_⟩, fun _ => ⟨⟨by simp; omega, by simp; omega⟩, ?_⟩⟩
    · intro i x hx hm
      by_cases hil : i < L.length
      · rw [List.getElem?_append_left hil] at hx
        rw [List.take_append_of_le_length (by omega)] at hm
        exact h.nd i x hx hm
      · have hil : i = L.length := by
          have := (List.getElem?_eq_some_iff.1 hx).1
          simp at this
          omega
        subst hil
        have ex : x = ⟨v, lo, hi⟩ := by simpa using hx.symm
        subst ex
        rw [List.take_append_of_le_length (Nat.le_refl _), List.take_length] at hm
        exact dfind_none hf hm
    · intro i x hx
      by_cases hil : i < L.length
      · rw [List.getElem?_append_left hil] at hx
        obtain ⟨a1, a2, a3, a4, a5, a6, a7, a8, a9⟩ := h.ok _ _ hx
        have p1 : Pl L x.f1 := ⟨a3, by omega⟩
        have p2 : Pl L x.f2 := ⟨a5, by omega⟩
        rw [dvar_ext p1 he, dvar_ext p2 he]
        exact ⟨a1, a2, a3, a4, a5, a6, a7, a8, a9⟩
      · have hil : i = L.length := by
          have := (List.getElem?_eq_some_iff.1 hx).1
          simp at this
          omega
        subst hil
        have ex : x = ⟨v, lo, hi⟩ := by simpa using hx.symm
        subst ex
        refine ⟨v0, v1, hl.1, hl.2, hh.1, hh.2, c2, ?_, ?_⟩
        · rw [dvar_ext hl he]
          exact hvl
        · rw [dvar_ext hh he]
          exact hvh
    · show v ≤ dvar vars _ ((L.length : Int) + 2)
      unfold dvar
      rw [if_neg (by omega), show ((L.length : Int) + 2 - 2).toNat = L.length by omega, List.getD_eq_getElem?_getD]
      simp
/-- A tree whose leaves are places, its variables from m on, ascending. -/
def TOk (vars : Int) (L : List S71) : Int → DT → Prop
  | m, .leaf n => Pl L n ∧ m ≤ dvar vars L n
  | m, .fork v lo hi => m ≤ v ∧ 0 ≤ v ∧ v < vars ∧ TOk vars L (v + 1) lo ∧ TOk vars L (v + 1) hi
theorem TOk.ext {vars : Int} {L L2 : List S71} (he : L <+: L2) {t : DT} : ∀ {m : Int}, TOk vars L m t → TOk vars L2 m t := by
  induction t with
  | leaf n =>
    intro m h
    exact ⟨h.1.ext he, by rw [dvar_ext h.1 he]; exact h.2⟩
  | fork v lo hi ihl ihh =>
    intro m h
    exact ⟨h.1, h.2.1, h.2.2.1, ihl h.2.2.2.1, ihh h.2.2.2.2⟩
theorem dv_ins {vars : Int} {t : DT} : ∀ {L : List S71} {m : Int}, DV vars L → TOk vars L m t → DV vars (ins L t).1 ∧ (0 ≤ (ins L t).2 → Pl (ins L t).1 (ins L t).2 ∧ m ≤ dvar vars (ins L t).1 (ins L t).2) := by
  induction t with
  | leaf n =>
    intro L m h ht
    exact ⟨h, fun _ => ht⟩
  | fork v lo hi ihl ihh =>
    intro L m h ht
    obtain ⟨t1, t2, t3, t4, t5⟩ := ht
    unfold ins
    by_cases c : (ins L lo).2 < 0
    · rw [if_pos c]
      exact ⟨h, fun hn => (neg1 hn).elim⟩
    rw [if_neg c]
    obtain ⟨d1, p1⟩ := ihl h t4
    obtain ⟨p1, q1⟩ := p1 (by omega)
    obtain ⟨d2, p2⟩ := ihh d1 (t5.ext (ins_ext _ _))
    by_cases c2 : (ins (ins L lo).1 hi).2 < 0
    · have : dadd (ins (ins L lo).1 hi).1 v (ins L lo).2 (ins (ins L lo).1 hi).2 = ((ins (ins L lo).1 hi).1, -1) := by
        unfold dadd
        rw [if_pos (.inr c2)]
      rw [this]
      exact ⟨d2, fun hn => (neg1 hn).elim⟩
    obtain ⟨p2, q2⟩ := p2 (by omega)
    have he := ins_ext (ins L lo).1 hi
    obtain ⟨r1, r2⟩ := dv_dadd d2 (p1.ext he) p2 t2 t3 (by rw [dvar_ext p1 he]; omega) (by omega)
    exact ⟨r1, fun hn => ⟨(r2 hn).1, Int.le_trans t1 (r2 hn).2⟩⟩
/-! #### the reference's diagrams -/
theorem l1In_val (a b c : Int) : spec_l1In.f a b c = some (decide (b ≤ a ∧ a ≤ c)) := by
  unfold spec_l1In.f
  by_cases h : a ≥ b
  · rw [if_pos h]
    congr 1
    rw [decide_eq_decide]
    constructor
    · intro h2; exact ⟨h, h2⟩
    · intro h2; exact h2.2
  · rw [if_neg h]
    congr 1
    symm
    rw [decide_eq_false_iff_not]
    intro h2
    exact h h2.1
theorem rdF {L : List S71} {i : Nat} (h : i < L.length) : rd_T71 L (i : Int) = L[i] := by
  unfold rd_T71
  rw [Int.toNat_natCast, List.getD_eq_getElem?_getD, List.getElem?_eq_getElem h]
  rfl
theorem rdP {L : List S71} (n : Int) : rd_T71 L (n - 2) = L.getD (n - 2).toNat ⟨0, 0, 0⟩ := rfl
theorem l8Var_val (c : Int) {L : List S71} {n : Int} (hp : Pl L n) (hl : L.length ≤ 1000000000) : spec_l8Var.f c L n = some (dvar c L n) := by
  unfold spec_l8Var.f dvar
  have h1 := hp.1
  have h2 := hp.2
  by_cases h : n < 2
  · rw [if_pos h, if_pos h]
  · rw [if_neg h, if_neg h, w_id (by omega) (by omega), if_pos (by omega), if_pos (by omega), rdP]
/-- What the reference asks of a fork, the places of which are ahead of it. -/
def FOk (vars : Int) (L : List S71) (x : S71) (most : Int) : Prop := (0 ≤ x.f0 ∧ x.f0 ≤ vars - 1) ∧ (0 ≤ x.f1 ∧ x.f1 ≤ most) ∧ (0 ≤ x.f2 ∧ x.f2 ≤ most) ∧ x.f0 < dvar vars L x.f1 ∧ x.f0 < dvar vars L x.f2
theorem l8Fork_dec (vars : Int) (L : List S71) (x : S71) (most : Int) (hv : -9223372036854775807 ≤ vars ∧ vars ≤ 9223372036854775807) (hm : most ≤ (L.length : Int) + 1) (hl : L.length ≤ 1000000000) :
    ∃ b, Ev (fun k => spec_l8Fork.f k vars L x.f0 x.f1 x.f2 most) b ∧ (b = true ↔ FOk vars L x most) := by
  have hj : ∃ b, Ev (fun k => spec_l8Fork.j0 k true vars L x.f0 x.f1 x.f2) b ∧ b = false := ⟨false, Ev.step (Ev.pos rfl (Ev.val _)) (fun k => spec_l8Fork.j0.eq_2 ..), rfl⟩
  obtain ⟨b0, e0, rfl⟩ := hj
  unfold spec_l8Fork.f
  simp only [l1In_val, Option.bind_some, w_id (show -9223372036854775808 ≤ vars - 1 by omega) (by omega)]
  by_cases c1 : 0 ≤ x.f0 ∧ x.f0 ≤ vars - 1
  · rw [decide_eq_true c1]
    by_cases c2 : 0 ≤ x.f1 ∧ x.f1 ≤ most
    · rw [decide_eq_true c2]
      by_cases c3 : 0 ≤ x.f2 ∧ x.f2 ≤ most
      · rw [decide_eq_true c3]
        have p1 : Pl L x.f1 := ⟨c2.1, by omega⟩
        have p2 : Pl L x.f2 := ⟨c3.1, by omega⟩
        by_cases c4 : x.f0 < dvar vars L x.f1
        · refine ⟨decide (x.f0 < dvar vars L x.f2), Ev.pos rfl (Ev.pos rfl (Ev.step (Ev.neg (by decide) (Ev.bind (Ev.const (l8Var_val vars p1 hl)) (Ev.pos c4 (Ev.bind (Ev.const (l8Var_val vars p2 hl)) (Ev.val (decide (x.f0 < dvar vars L x.f2))))))) (fun k => spec_l8Fork.j0.eq_2 ..))), ?_⟩
          rw [decide_eq_true_eq]
          exact ⟨fun h => ⟨c1, c2, c3, c4, h⟩, fun h => h.2.2.2.2⟩
        · refine ⟨false, Ev.pos rfl (Ev.pos rfl (Ev.step (Ev.neg (by decide) (Ev.bind (Ev.const (l8Var_val vars p1 hl)) (Ev.neg c4 (Ev.val _)))) (fun k => spec_l8Fork.j0.eq_2 ..))), ?_⟩
          exact ⟨fun h => (by cases h), fun h => absurd h.2.2.2.1 c4⟩
      · rw [decide_eq_false c3]
        exact ⟨false, Ev.pos rfl (Ev.pos rfl e0), fun h => (by cases h), fun h => absurd h.2.2.1 c3⟩
    · rw [decide_eq_false c2]
      exact ⟨false, Ev.pos rfl (Ev.neg (by decide) e0), fun h => (by cases h), fun h => absurd h.2.1 c2⟩
  · rw [decide_eq_false c1]
    exact ⟨false, Ev.neg (by decide) e0, fun h => (by cases h), fun h => absurd h.1 c1⟩
/-- What is asked of the fork at i. -/
def OkAt (vars : Int) (L : List S71) (i : Nat) (h : i < L.length) : Prop := FOk vars L L[i] ((i : Int) + 1) ∧ L[i].f1 ≠ L[i].f2 ∧ L[i] ∉ L.take i
theorem dv_iff (vars : Int) (L : List S71) : DV vars L ↔ (0 ≤ vars ∧ vars ≤ 12) ∧ L.length ≤ 2000 ∧ ∀ i (h : i < L.length), OkAt vars L i h := by
  constructor
  · intro h
    refine ⟨⟨h.v0, h.v12⟩, h.len, fun i hi => ?_⟩
    obtain ⟨a1, a2, a3, a4, a5, a6, a7, a8, a9⟩ := h.ok i _ (List.getElem?_eq_getElem hi)
    exact ⟨⟨⟨a1, by omega⟩, ⟨a3, a4⟩, ⟨a5, a6⟩, a8, a9⟩, a7, h.nd i _ (List.getElem?_eq_getElem hi)⟩
  · rintro ⟨⟨h1, h2⟩, h3, h4⟩
    refine ⟨h1, h2, h3, fun i x hx => ?_, fun i x hx => ?_⟩
    · obtain ⟨hi, rfl⟩ := List.getElem?_eq_some_iff.1 hx
      exact (h4 i hi).2.2
    · obtain ⟨hi, rfl⟩ := List.getElem?_eq_some_iff.1 hx
      obtain ⟨⟨a1, a2, a3, a4, a5⟩, b, _⟩ := h4 i hi
      exact ⟨a1.1, by omega, a2.1, a2.2, a3.1, a3.2, b, a4, a5⟩
theorem eqF (a : S71) (p q r : Int) : ((a.f0 == p && (a.f1 == q && (a.f2 == r))) = true) ↔ a = ⟨p, q, r⟩ := by
  obtain ⟨x, y, z⟩ := a
  simp
theorem mem_take {L : List S71} {i : Nat} {x : S71} : x ∈ L.take i ↔ ∃ (j : Nat) (_ : j < i) (hl : j < L.length), L[j] = x := by
  rw [List.mem_iff_getElem?]
  constructor
  · rintro ⟨j, hj⟩
    rw [List.getElem?_take] at hj
    split at hj
    · next hji =>
      obtain ⟨hl, e⟩ := List.getElem?_eq_some_iff.1 hj
      exact ⟨j, hji, hl, e⟩
    · cases hj
  · rintro ⟨j, hji, hl, e⟩
    exact ⟨j, by rw [List.getElem?_take, if_pos hji, List.getElem?_eq_getElem hl, e]⟩
theorem sv_l1 (vars : Int) (L : List S71) (hl : L.length ≤ 2000) (i : Nat) (hi : i < L.length) (rest : Bool) (hrest : Ev (fun k => spec_DiagramValid.l0 k (wrap64 ((i : Int) + 1)) vars L) rest) : ∀ (d j : Nat), j + d = i → (∀ q (hq : q < L.length), q < j → L[q] ≠ L[i]) →
    Ev (fun k => spec_DiagramValid.l1 k (i : Int) (j : Int) vars L L[i].f0 L[i].f1 L[i].f2) (if L[i] ∈ L.take i then false else rest) := by
  intro d
  induction d with
  | zero =>
    intro j hj hn
    have : ¬ L[i] ∈ L.take i := fun h => by
      obtain ⟨q, h1, h2, h3⟩ := mem_take.1 h
      exact hn q h2 (by omega) h3
    rw [if_neg this]
    exact Ev.step (Ev.neg (by omega) hrest) (fun k => spec_DiagramValid.l1.eq_2 ..)
  | succ d ih =>
    intro j hj hn
    have hjl : j < L.length := by omega
    refine Ev.step ?_ (fun k => spec_DiagramValid.l1.eq_2 ..)
    refine Ev.pos (by omega) (Ev.pos (by omega) (Ev.pos (by omega) ?_))
    rw [rdF hjl]
    by_cases e : L[j] = L[i]
    · rw [if_pos (mem_take.2 ⟨j, by omega, hjl, e⟩)]
      exact Ev.pos ((eqF _ _ _ _).2 e) (Ev.val _)
    · refine Ev.neg (fun h => e ((eqF _ _ _ _).1 h)) ?_
      rw [w_id (by omega) (by omega), show (j : Int) + 1 = ((j + 1 : Nat) : Int) by omega]
      exact ih (j + 1) (by omega) (fun q hq hqj => by
        by_cases c : q = j
        · subst c
          exact e
        · exact hn q hq (by omega))
theorem sv_l0 (vars : Int) (L : List S71) (hv : 0 ≤ vars ∧ vars ≤ 12) (hl : L.length ≤ 2000) : ∀ (d i : Nat), i + d = L.length →
    ∃ b, Ev (fun k => spec_DiagramValid.l0 k (i : Int) vars L) b ∧ (b = true ↔ ∀ q (h : q < L.length), i ≤ q → OkAt vars L q h) := by
  intro d
  induction d with
  | zero =>
    intro i hi
    exact ⟨true, Ev.step (Ev.neg (by omega) (Ev.val _)) (fun k => spec_DiagramValid.l0.eq_2 ..), fun _ q h hq => absurd h (by omega), fun _ => rfl⟩
  | succ d ih =>
    intro i hi
    have hil : i < L.length := by omega
    obtain ⟨rest, er, hr⟩ := ih (i + 1) (by omega)
    have hw : wrap64 ((i : Int) + 1) = ((i + 1 : Nat) : Int) := by rw [w_id (by omega) (by omega)]; omega
    obtain ⟨b1, e1, h1⟩ := l8Fork_dec vars L L[i] ((i : Int) + 1) (by omega) (by omega) (by omega)
    have split_ : (∀ q (h : q < L.length), i ≤ q → OkAt vars L q h) ↔ OkAt vars L i hil ∧ ∀ q (h : q < L.length), i + 1 ≤ q → OkAt vars L q h := by
      constructor
      · intro h
        exact ⟨h i hil (Nat.le_refl _), fun q hq hq2 => h q hq (by omega)⟩
      · rintro ⟨ha, hb⟩ q hq hq2
        by_cases c : i = q
        · subst c
          exact ha
        · exact hb q hq (by omega)
    have e1' : Ev (fun k => spec_l8Fork.f k vars L (rd_T71 L (i : Int)).f0 (rd_T71 L (i : Int)).f1 (rd_T71 L (i : Int)).f2 (wrap64 ((i : Int) + 1))) b1 := by
      rw [rdF hil, w_id (by omega) (by omega)]
      exact e1
    have jt : ∀ b, Ev (fun k => spec_DiagramValid.j2 k (i : Int) b vars L (rd_T71 L (i : Int)).f0 (rd_T71 L (i : Int)).f1 (rd_T71 L (i : Int)).f2) (if b = true then false else if L[i] ∈ L.take i then false else rest) := by
      intro b
      refine Ev.step ?_ (fun k => spec_DiagramValid.j2.eq_2 ..)
      cases b with
      | true => exact Ev.pos rfl (Ev.val _)
      | false =>
        refine Ev.neg (by decide) ?_
        rw [rdF hil]
        exact sv_l1 vars L hl i hil rest (by rw [hw]; exact er) i 0 (by omega) (fun q _ hq => absurd hq (by omega))
    cases b1 with
    | false =>
      refine ⟨false, Ev.step (Ev.pos (by omega) (Ev.pos (by omega) (Ev.bind e1' (Ev.neg (by decide) (jt true))))) (fun k => spec_DiagramValid.l0.eq_2 ..), fun h => (by cases h), fun h => ?_⟩
      exact absurd (h1.2 (h i hil (Nat.le_refl _)).1) (by decide)
    | true =>
      refine ⟨_, Ev.step (Ev.pos (by omega) (Ev.pos (by omega) (Ev.bind e1' (Ev.pos rfl (jt _))))) (fun k => spec_DiagramValid.l0.eq_2 ..), ?_⟩
      rw [rdF hil, split_]
      by_cases c1 : L[i].f1 = L[i].f2
      · rw [if_pos (beq_iff_eq.mpr c1)]
        exact ⟨fun h => (by cases h), fun h => absurd c1 h.1.2.1⟩
      · rw [if_neg (by simpa using c1)]
        by_cases c2 : L[i] ∈ L.take i
        · rw [if_pos c2]
          exact ⟨fun h => (by cases h), fun h => absurd c2 h.1.2.2⟩
        · rw [if_neg c2, hr]
          exact ⟨fun h => ⟨⟨h1.1 rfl, c1, c2⟩, h⟩, fun h => h.2⟩
theorem spec_dv (vars : Int) (L : List S71) : ∃ b, Ev (fun k => spec_DiagramValid.f k vars L) b ∧ (b = true ↔ DV vars L) := by
  unfold spec_DiagramValid.f
  simp only [l1In_val, Option.bind_some]
  have e0 : Ev (fun k => spec_DiagramValid.j0 k true vars L) false := Ev.step (Ev.pos rfl (Ev.val _)) (fun k => spec_DiagramValid.j0.eq_2 ..)
  by_cases c1 : 0 ≤ vars ∧ vars ≤ 12
  · rw [decide_eq_true c1]
    by_cases c2 : (L.length : Int) > 2000
    · rw [decide_eq_true c2]
      exact ⟨false, Ev.pos rfl e0, fun h => (by cases h), fun h => by have := h.len; omega⟩
    · rw [decide_eq_false c2]
      obtain ⟨b, hb, h2⟩ := sv_l0 vars L c1 (by omega) L.length 0 (by omega)
      refine ⟨b, Ev.pos rfl (Ev.step (Ev.neg (by decide) hb) (fun k => spec_DiagramValid.j0.eq_2 ..)), ?_⟩
      rw [h2, dv_iff]
      exact ⟨fun h => ⟨c1, by omega, fun i hi => h i hi (Nat.zero_le _)⟩, fun h q hq _ => h.2.2 q hq⟩
  · rw [decide_eq_false c1]
    exact ⟨false, Ev.neg (by decide) e0, fun h => (by cases h), fun h => absurd ⟨h.v0, h.v12⟩ c1⟩
theorem copy_loop (vars : Int) (L : List S71) (hl : L.length ≤ 2000) : ∀ (d i : Nat), i + d = L.length → Ev (fun k => spec_l8Copy.l0 k (i : Int) vars L vars (L.take i)) (vars, L) := by
  intro d
  induction d with
  | zero =>
    intro i hi
    rw [List.take_of_length_le (by omega)]
    exact Ev.step (Ev.neg (by omega) (Ev.val _)) (fun k => spec_l8Copy.l0.eq_2 ..)
  | succ d ih =>
    intro i hi
    have hil : i < L.length := by omega
    refine Ev.step ?_ (fun k => spec_l8Copy.l0.eq_2 ..)
    rw [rdF hil, w_id (by omega) (by omega), show (i : Int) + 1 = ((i + 1 : Nat) : Int) by omega]
    refine Ev.pos (by omega) (Ev.pos (by omega) (Ev.pos (by rw [List.length_take]; omega) ?_))
    have e : L.take i ++ [(⟨L[i].f0, L[i].f1, L[i].f2⟩ : S71)] = L.take (i + 1) := by
      rw [List.take_add_one, List.getElem?_eq_getElem hil]
      rfl
    rw [e]
    exact ih (i + 1) (by omega)
theorem spec_copy (vars : Int) (L : List S71) (hl : L.length ≤ 2000) : Ev (fun k => spec_l8Copy.f k vars L) (vars, L) := copy_loop vars L hl L.length 0 (by omega)
theorem dfind_no {L : List S71} {x : S71} (hn : ∀ q (hq : q < L.length), L[q] ≠ x) : dfind L x = none := by
  unfold dfind
  rw [List.findIdx?_eq_none_iff]
  intro y hy
  obtain ⟨q, hq, rfl⟩ := List.mem_iff_getElem.1 hy
  simpa using hn q hq
/-! #### the program's diagrams -/
theorem in_val (a b c : Int) : impl_in.f a b c = some (decide (b ≤ a ∧ a ≤ c)) := by
  unfold impl_in.f
  by_cases h : a ≥ b
  · rw [if_pos h]
    congr 1
    rw [decide_eq_decide]
    constructor
    · intro h2; exact ⟨h, h2⟩
    · intro h2; exact h2.2
  · rw [if_neg h]
    congr 1
    symm
    rw [decide_eq_false_iff_not]
    intro h2
    exact h h2.1
theorem varAt_val (a : Int) {L : List S71} {n : Int} (hp : Pl L n) (hl : L.length ≤ 1000000000) : impl_Diagram_varAt.f a L n = some (dvar 12 L n) := by
  unfold impl_Diagram_varAt.f dvar
  have h1 := hp.1
  have h2 := hp.2
  by_cases h : n < 2
  · rw [if_pos h, if_pos h]
  · rw [if_neg h, if_neg h, w_id (by omega) (by omega), if_pos (by omega), if_pos (by omega), rdP]
def decPl (L : List S71) (n : Int) : Decidable (Pl L n) := inferInstanceAs (Decidable (_ ∧ _))
theorem isPlace_val (a : Int) {L : List S71} (n : Int) (hl : L.length ≤ 1000000000) : impl_Diagram_isPlace.f a L n = some (@decide (Pl L n) (decPl L n)) := by
  unfold impl_Diagram_isPlace.f
  rw [in_val, w_id (by omega) (by omega)]
  rfl
/-- Where variables are few, it is the same to what the constants are held. -/
theorem dvar_lt {vars v : Int} (L : List S71) (n : Int) (h : v < vars) (h12 : vars ≤ 12) : v < dvar 12 L n ↔ v < dvar vars L n := by
  unfold dvar
  split
  · omega
  · exact Iff.rfl
theorem keyI {n : Int} (h : 0 ≤ n) (h2 : n ≤ 1000000000) : KeyI n := ⟨h, by omega⟩
theorem iv_bad (vars : Int) (L : List S71) (hv : 0 ≤ vars ∧ vars ≤ 12) (hl : L.length ≤ 2000) (i : Nat) (hi : i < L.length) : ∃ b, impl_DiagramValid.bad vars L i L[i] = some b ∧ (b = false ↔ OkAt vars L i hi) := by
  unfold impl_DiagramValid.bad OkAt FOk
  simp only [in_val, Option.bind_some, w_id (show -9223372036854775808 ≤ vars - 1 by omega) (by omega), w_id (show -9223372036854775808 ≤ (i : Int) + 1 by omega) (by omega), decide_eq_false_iff_not]
  by_cases c1 : 0 ≤ L[i].f0 ∧ L[i].f0 ≤ vars - 1
  · rw [if_neg (by simpa using c1)]
    by_cases c2 : 0 ≤ L[i].f1 ∧ L[i].f1 ≤ (i : Int) + 1
    · rw [if_neg (by simpa using c2)]
      by_cases c3 : 0 ≤ L[i].f2 ∧ L[i].f2 ≤ (i : Int) + 1
      · rw [if_neg (by simpa using c3)]
        have p1 : Pl L L[i].f1 := ⟨c2.1, by omega⟩
        have p2 : Pl L L[i].f2 := ⟨c3.1, by omega⟩
        by_cases c4 : L[i].f1 = L[i].f2
        · rw [if_pos c4]
          exact ⟨true, rfl, fun h => (by cases h), fun h => absurd c4 h.2.1⟩
        · rw [if_neg c4, varAt_val _ p1 (by omega), Option.bind_some]
          by_cases c5 : dvar 12 L L[i].f1 ≤ L[i].f0
          · rw [if_pos c5]
            exact ⟨true, rfl, fun h => (by cases h), fun h => absurd ((dvar_lt L _ (by omega) hv.2).2 h.1.2.2.2.1) (by omega)⟩
          · rw [if_neg c5, varAt_val _ p2 (by omega), Option.bind_some]
            by_cases c6 : dvar 12 L L[i].f2 ≤ L[i].f0
            · rw [if_pos c6]
              exact ⟨true, rfl, fun h => (by cases h), fun h => absurd ((dvar_lt L _ (by omega) hv.2).2 h.1.2.2.2.2) (by omega)⟩
            · rw [if_neg c6, if_pos ⟨keyI c1.1 (by omega), keyI c2.1 (by omega), keyI c3.1 (by omega)⟩]
              refine ⟨_, rfl, ?_⟩
              rw [decide_eq_false_iff_not]
              exact ⟨fun h => ⟨⟨c1, c2, c3, (dvar_lt L _ (by omega) hv.2).1 (by omega), (dvar_lt L _ (by omega) hv.2).1 (by omega)⟩, c4, h⟩, fun h => h.2.2⟩
      · rw [if_pos (by simpa using c3)]
        exact ⟨true, rfl, fun h => (by cases h), fun h => absurd h.1.2.2.1 c3⟩
    · rw [if_pos (by simpa using c2)]
      exact ⟨true, rfl, fun h => (by cases h), fun h => absurd h.1.2.1 c2⟩
  · rw [if_pos (by simpa using c1)]
    exact ⟨true, rfl, fun h => (by cases h), fun h => absurd h.1.1 c1⟩
theorem iv_l0 (vars : Int) (L : List S71) (hv : 0 ≤ vars ∧ vars ≤ 12) (hl : L.length ≤ 2000) : ∀ (d i : Nat), i + d = L.length → ∃ b, impl_DiagramValid.l0 vars L d i = some b ∧ (b = true ↔ ∀ q (h : q < L.length), i ≤ q → OkAt vars L q h) := by
  intro d
  induction d with
  | zero =>
    intro i hi
    exact ⟨true, rfl, fun _ q h hq => absurd h (by omega), fun _ => rfl⟩
  | succ d ih =>
    intro i hi
    have hil : i < L.length := by omega
    obtain ⟨rest, er, hr⟩ := ih (i + 1) (by omega)
    obtain ⟨b, eb, hb⟩ := iv_bad vars L hv hl i hil
    unfold impl_DiagramValid.l0
    rw [rdF hil, eb, Option.bind_some]
    cases b with
    | true =>
      refine ⟨false, rfl, fun h => (by cases h), fun h => ?_⟩
      exact absurd (hb.2 (h i hil (Nat.le_refl _))) (by decide)
    | false =>
      refine ⟨rest, er, ?_⟩
      rw [hr]
      constructor
      · intro h q hq hq2
        by_cases c : i = q
        · subst c
          exact hb.1 rfl
        · exact h q hq (by omega)
      · intro h q hq hq2
        exact h q hq (by omega)
theorem impl_dv (vars : Int) (L : List S71) : ∃ b, impl_DiagramValid.f vars L = some b ∧ (b = true ↔ DV vars L) := by
  unfold impl_DiagramValid.f
  simp only [in_val, Option.bind_some]
  by_cases c1 : 0 ≤ vars ∧ vars ≤ 12
  · rw [if_neg (by simpa using c1)]
    by_cases c2 : (L.length : Int) > 2000
    · rw [if_pos c2]
      exact ⟨false, rfl, fun h => (by cases h), fun h => by have := h.len; omega⟩
    · rw [if_neg c2]
      obtain ⟨b, hb, h2⟩ := iv_l0 vars L c1 (by omega) L.length 0 (by omega)
      refine ⟨b, hb, ?_⟩
      rw [h2, dv_iff]
      exact ⟨fun h => ⟨c1, by omega, fun i hi => h i hi (Nat.zero_le _)⟩, fun h q hq _ => h.2.2 q hq⟩
  · rw [if_pos (by simpa using c1)]
    exact ⟨false, rfl, fun h => (by cases h), fun h => absurd ⟨h.v0, h.v12⟩ c1⟩
/-- Where each fork stands. -/
def seenP (L : List S71) (x : S71) : Option Int := (dfind L x).map (fun i => (i : Int) + 2)
theorem seen_take {L : List S71} (hn : NoDup L) : ∀ i, i ≤ L.length → impl_forkingOf.seen L i = seenP (L.take i) := by
  intro i
  induction i with
  | zero =>
    intro _
    funext x
    rfl
  | succ i ih =>
    intro hi
    have hil : i < L.length := by omega
    funext x
    show (if x = rd_T71 L (i : Int) then some ((i : Int) + 2) else impl_forkingOf.seen L i x) = _
    rw [rdF hil, ih (by omega)]
    have e : L.take (i + 1) = L.take i ++ [L[i]] := by
      rw [List.take_add_one, List.getElem?_eq_getElem hil]
      rfl
    have hlen : (L.take i).length = i := by rw [List.length_take]; omega
    have hno : dfind (L.take i) L[i] = none := by
      cases hd : dfind (L.take i) L[i] with
      | none => rfl
      | some j =>
        have := dfind_some hd
        exact absurd (List.mem_of_getElem? this) (hn i _ (List.getElem?_eq_getElem hil))
    unfold seenP
    rw [e]
    by_cases c : x = L[i]
    · rw [if_pos c, c, dfind_new hno []]
      simp [hlen]
    · rw [if_neg c]
      cases hd : dfind (L.take i) x with
      | some j => rw [dfind_append hd]
      | none =>
        have : dfind (L.take i ++ [L[i]]) x = none := dfind_no (fun q hq e2 => by
          by_cases hqi : q < (L.take i).length
          · rw [List.getElem_append_left hqi] at e2
            exact dfind_none hd (e2 ▸ List.getElem_mem hqi)
          · have hq' : q = (L.take i).length := by
              have := hq
              rw [List.length_append, List.length_singleton] at this
              omega
            subst hq'
            rw [List.getElem_append_right (Nat.le_refl _)] at e2
            simp at e2
            exact c e2.symm)
        rw [this]
theorem okF_of {vars : Int} {L : List S71} (h : DV vars L) {x : S71} (hx : x ∈ L) : okF x := by
  obtain ⟨i, hi⟩ := List.mem_iff_getElem?.1 hx
  obtain ⟨a1, a2, a3, a4, a5, a6, _⟩ := h.ok i x hi
  have := h.v12
  have := (List.getElem?_eq_some_iff.1 hi).1
  have := h.len
  exact ⟨keyI a1 (by omega), keyI a3 (by omega), keyI a5 (by omega)⟩
/-- A diagram that grows, as the program holds it: nothing is done with it yet that is not so. -/
def fs0 (vars : Int) (L : List S71) : FS := ⟨vars, L, seenP L, false, fun _ => none⟩
theorem clone_val (L : List S71) (h : L.length ≤ 1000000000) : impl_Fork_97.f L = some L := by
  unfold impl_Fork_97.f
  simp only [Option.bind_some, List.length_nil, List.nil_append]
  rw [if_pos (by omega)]
theorem clone2_val (L : List S71) (h : L.length ≤ 1000000000) : impl_Fork_98.f L = some L := by
  unfold impl_Fork_98.f
  rw [if_pos (by omega)]
theorem forkingOf_val {vars : Int} {L : List S71} (h : DV vars L) : impl_forkingOf.f vars L = some (fs0 vars L) := by
  unfold impl_forkingOf.f
  rw [clone_val L (by have := h.len; omega), Option.bind_some, if_pos (fun x hx => okF_of h hx), seen_take h.nd _ (Nat.le_refl _), List.take_length]
  rfl
theorem fork_val (s : FS) (v lo hi : Int) (hk : okF ⟨v, lo, hi⟩) (hlo : 0 ≤ lo) (hhi : 0 ≤ hi) (hs : s.seen = seenP s.forks) :
    ∃ s' r, impl_forking_fork.f s v lo hi = some (s', r) ∧ s'.vars = s.vars ∧ s'.memo = s.memo ∧ s'.seen = seenP s'.forks ∧ s'.forks = (dadd s.forks v lo hi).1 ∧ (if (dadd s.forks v lo hi).2 < 0 then s'.full = true ∧ r = 0 else s'.full = s.full ∧ r = (dadd s.forks v lo hi).2) := by
  unfold impl_forking_fork.f dadd
  rw [if_neg (show ¬ (lo < 0 ∨ hi < 0) by omega)]
  by_cases c1 : lo = hi
  · rw [if_pos c1, if_pos c1]
    exact ⟨s, lo, rfl, rfl, rfl, hs, rfl, by rw [if_neg (by omega)]; exact ⟨rfl, rfl⟩⟩
  rw [if_neg c1, if_neg c1, if_pos hk, hs]
  cases hd : dfind s.forks ⟨v, lo, hi⟩ with
  | some i =>
    have e : seenP s.forks ⟨v, lo, hi⟩ = some ((i : Int) + 2) := by unfold seenP; rw [hd]; rfl
    rw [e]
    exact ⟨s, _, rfl, rfl, rfl, hs, rfl, by rw [if_neg (by show ¬ ((_ : Nat) : Int) + 2 < 0; omega)]; exact ⟨rfl, rfl⟩⟩
  | none =>
    have e : seenP s.forks ⟨v, lo, hi⟩ = none := by unfold seenP; rw [hd]; rfl
    rw [e]
    by_cases c2 : 2000 ≤ s.forks.length
    · simp only
      rw [if_pos (by omega), if_pos c2]
      exact ⟨_, _, rfl, rfl, rfl, rfl, rfl, by rw [if_pos (show (-1 : Int) < 0 by decide)]; exact ⟨rfl, rfl⟩⟩
    · simp only
      rw [if_neg (by omega), if_neg c2]
      refine ⟨_, _, rfl, rfl, rfl, ?_, rfl, by rw [if_neg (by show ¬ ((_ : Nat) : Int) + 2 < 0; omega)]; exact ⟨rfl, rfl⟩⟩
      funext y
      show (if y = ⟨v, lo, hi⟩ then some ((s.forks.length : Int) + 2) else seenP s.forks y) = seenP (s.forks ++ [⟨v, lo, hi⟩]) y
      unfold seenP
      by_cases c : y = ⟨v, lo, hi⟩
      · rw [if_pos c, c, dfind_new hd []]
        rfl
      · rw [if_neg c]
        cases hy : dfind s.forks y with
        | some j => rw [dfind_append hy]
        | none =>
          have : dfind (s.forks ++ [⟨v, lo, hi⟩]) y = none := dfind_no (fun q hq e2 => by
            by_cases hqi : q < s.forks.length
            · rw [List.getElem_append_left hqi] at e2
              exact dfind_none hy (e2 ▸ List.getElem_mem hqi)
            · have hq' : q = s.forks.length := by
                have := hq
                rw [List.length_append, List.length_singleton] at this
                omega
              subst hq'
              rw [List.getElem_append_right (Nat.le_refl _)] at e2
              simp at e2
              exact c e2.symm)
          rw [this]
theorem done_val (s : FS) (n : Int) (hl : s.forks.length ≤ 2000) : impl_forking_done.f s n = some (if s.full = true then (0, [], -1) else (s.vars, s.forks, n)) := by
  unfold impl_forking_done.f
  by_cases c : s.full = true
  · rw [if_pos c, if_pos c]
  · rw [if_neg c, if_neg c, clone2_val _ (by omega)]
    rfl
/-- A diagram and a place, or nothing and -1. -/
def told (vars : Int) (p : List S71 × Int) : Int × List S71 × Int := if p.2 < 0 then (0, [], -1) else (vars, p.1, p.2)
/-! #### what is done with two places, as a tree of decisions (0 and, 1 or, 2 exactly one) -/
def gat (L : List S71) (n v : Int) (hi : Bool) : Int :=
  if n < 2 then n else if (L.getD (n - 2).toNat ⟨0, 0, 0⟩).f0 = v then (if hi = true then (L.getD (n - 2).toNat ⟨0, 0, 0⟩).f2 else (L.getD (n - 2).toNat ⟨0, 0, 0⟩).f1) else n
theorem gat_ext {L L2 : List S71} {n : Int} (h : Pl L n) (he : L <+: L2) (v : Int) (hi : Bool) : gat L2 n v hi = gat L n v hi := by
  unfold gat
  by_cases h2 : n < 2
  · rw [if_pos h2, if_pos h2]
  · rw [if_neg h2, if_neg h2, getD_ext he (by have := h.2; omega)]
theorem gat_ok {vars : Int} {L : List S71} (h : DV vars L) {n v : Int} (hp : Pl L n) (hv : v ≤ dvar vars L n) (hvv : v < vars) (hi : Bool) : Pl L (gat L n v hi) ∧ v < dvar vars L (gat L n v hi) := by
  unfold gat
  by_cases h2 : n < 2
  · rw [if_pos h2]
    refine ⟨hp, ?_⟩
    unfold dvar
    rw [if_pos h2]
    exact hvv
  · rw [if_neg h2]
    obtain ⟨x, hx, hd, e, a0, a1, p1, p2, _, _, _, q1, q2⟩ := h.at_ hp h2
    rw [hd]
    by_cases c : x.f0 = v
    · rw [if_pos c]
      cases hi with
      | true => rw [if_pos rfl]; exact ⟨p2, by omega⟩
      | false => rw [if_neg (by decide)]; exact ⟨p1, by omega⟩
    · rw [if_neg c]
      exact ⟨hp, by omega⟩
theorem dvar_two {vars : Int} {L : List S71} (h : DV vars L) {n : Int} (hp : Pl L n) : dvar vars L n < vars ↔ ¬ n < 2 := by
  constructor
  · intro h1 h2
    unfold dvar at h1
    rw [if_pos h2] at h1
    omega
  · intro h2
    obtain ⟨x, _, _, e, _, a1, _⟩ := h.at_ hp h2
    omega
theorem dvar_const {vars : Int} {L : List S71} {n : Int} (h : n < 2) : dvar vars L n = vars := by
  unfold dvar
  rw [if_pos h]
/-! #### what is done with two places: the reference and the program -/
theorem add_val (vars v lo hi : Int) (L : List S71) (hl : L.length ≤ 2000) : spec_l8Add.f vars L v lo hi = some (vars, (dadd L v lo hi).1, (dadd L v lo hi).2) := by
  unfold spec_l8Add.f dadd
  by_cases c1 : lo < 0 ∨ hi < 0
  · rw [if_pos c1, if_pos c1]
  rw [if_neg c1, if_neg c1]
  by_cases c2 : lo = hi
  · rw [if_pos c2, if_pos c2]
  rw [if_neg c2, if_neg c2, if_pos (show L.length ≤ 1000000000000 by omega)]
  show (match dfind L ⟨v, lo, hi⟩ with | some i => _ | none => _) = _
  cases dfind L ⟨v, lo, hi⟩ with
  | some i => rfl
  | none =>
    simp only
    by_cases c3 : 2000 ≤ L.length
    · rw [if_pos c3, if_pos c3]
    · rw [if_neg c3, if_neg c3]
theorem l8At_val {vars v : Int} {L : List S71} (h : DV vars L) {n : Int} (hp : Pl L n) (hv : v < vars) (bit : Int) : spec_l8At.f vars L n v bit = some (gat L n v (decide (bit = 1))) := by
  have hl := h.len
  have h0 := hp.1
  have h1 := hp.2
  unfold spec_l8At.f gat
  rw [l8Var_val vars hp (by omega), Option.bind_some]
  unfold dvar
  by_cases c : n < 2
  · rw [if_pos c, if_pos c, if_neg (by omega)]
  · rw [if_neg c, if_neg c, w_id (by omega) (by omega), rdP]
    by_cases c2 : (L.getD (n - 2).toNat ⟨0, 0, 0⟩).f0 = v
    · rw [if_pos c2, if_pos c2]
      by_cases c3 : bit = 1
      · rw [if_pos c3, if_pos (show decide (bit = 1) = true from decide_eq_true c3), if_pos (show 0 ≤ n - 2 by omega), if_pos (show n - 2 < (L.length : Int) by omega)]
      · rw [if_neg c3, if_neg (show ¬ decide (bit = 1) = true by simpa using c3), if_pos (show 0 ≤ n - 2 by omega), if_pos (show n - 2 < (L.length : Int) by omega)]
    · rw [if_neg c2, if_neg c2]
theorem ins_fork (L : List S71) (v : Int) (lo hi : DT) : ins L (.fork v lo hi) = if (ins L lo).2 < 0 then (L, -1) else dadd (ins (ins L lo).1 hi).1 v (ins L lo).2 (ins (ins L lo).1 hi).2 := by rw [ins]
theorem place_val {vars : Int} (L : List S71) (n : Int) (hl : L.length ≤ 1000000000) : spec_l8Place.f vars L n = some (@decide (Pl L n) (decPl L n)) := by
  unfold spec_l8Place.f
  rw [l1In_val, w_id (by omega) (by omega)]
  rfl
theorem goes_val {vars v : Int} {s : FS} (hs : s.vars = vars) (h : DV vars s.forks) {n : Int} (hp : Pl s.forks n) (hv : v < vars) (bit : Int) : impl_forking_goes.f s n v bit = some (gat s.forks n v (decide (bit = 1))) := by
  have hl := h.len
  have h0 := hp.1
  have h1 := hp.2
  have h12 := h.v12
  unfold impl_forking_goes.f gat
  rw [varAt_val s.vars hp (by omega), Option.bind_some]
  unfold dvar
  by_cases c : n < 2
  · rw [if_pos c, if_pos c, if_neg (by omega)]
  · rw [if_neg c, if_neg c, w_id (by omega) (by omega), rdP]
    by_cases c2 : (s.forks.getD (n - 2).toNat ⟨0, 0, 0⟩).f0 = v
    · rw [if_pos c2, if_pos c2]
      by_cases c3 : bit = 1
      · rw [if_pos c3, if_pos (show decide (bit = 1) = true from decide_eq_true c3), if_pos (show 0 ≤ n - 2 by omega), if_pos (show n - 2 < (s.forks.length : Int) by omega)]
      · rw [if_neg c3, if_neg (show ¬ decide (bit = 1) = true by simpa using c3), if_pos (show 0 ≤ n - 2 by omega), if_pos (show n - 2 < (s.forks.length : Int) by omega)]
    · rw [if_neg c2, if_neg c2]
theorem dvar12 {vars : Int} {L : List S71} {n : Int} (c : ¬ n < 2) : dvar 12 L n = dvar vars L n := by
  unfold dvar
  rw [if_neg c, if_neg c]
/-! #### a variable as a constant: the tree, the reference, the program -/
def fxT (vars : Int) (L : List S71) (v : Int) (hi : Bool) : Nat → Int → DT
  | 0, _ => .leaf 0
  | m + 1, n => if v < dvar vars L n then .leaf n else if dvar vars L n = v then .leaf (gat L n v hi) else
    .fork (dvar vars L n) (fxT vars L v hi m (gat L n (dvar vars L n) false)) (fxT vars L v hi m (gat L n (dvar vars L n) true))
theorem fx_next {vars : Int} {L : List S71} (h : DV vars L) {n : Int} (p : Pl L n) (hd : dvar vars L n < vars) (hi : Bool) : Pl L (gat L n (dvar vars L n) hi) ∧ dvar vars L n < dvar vars L (gat L n (dvar vars L n) hi) := gat_ok h p (Int.le_refl _) hd hi
theorem fxT_ext {vars v : Int} {L L2 : List S71} (h : DV vars L) (he : L <+: L2) (hv : v < vars) (hi : Bool) : ∀ (m : Nat) (n : Int), Pl L n → fxT vars L2 v hi m n = fxT vars L v hi m n := by
  intro m
  induction m with
  | zero => intro n _; rfl
  | succ m ih =>
    intro n p
    unfold fxT
    rw [dvar_ext p he]
    by_cases c1 : v < dvar vars L n
    · rw [if_pos c1, if_pos c1]
    rw [if_neg c1, if_neg c1]
    by_cases c2 : dvar vars L n = v
    · rw [if_pos c2, if_pos c2, gat_ext p he]
    rw [if_neg c2, if_neg c2, gat_ext p he, gat_ext p he, ih _ (fx_next h p (by omega) false).1, ih _ (fx_next h p (by omega) true).1]
theorem fxT_same {vars v : Int} {L : List S71} (h : DV vars L) (hv : v < vars) (hi : Bool) : ∀ (m m2 : Nat) (n : Int), Pl L n → vars - dvar vars L n < m → vars - dvar vars L n < m2 → fxT vars L v hi m n = fxT vars L v hi m2 n := by
  intro m
  induction m with
  | zero =>
    intro m2 n p h1 _
    have := (h.dvar_le p).2
    omega
  | succ m ih =>
    intro m2 n p h1 h2
    cases m2 with
    | zero =>
      have := (h.dvar_le p).2
      omega
    | succ m2 =>
      unfold fxT
      by_cases c1 : v < dvar vars L n
      · rw [if_pos c1, if_pos c1]
      rw [if_neg c1, if_neg c1]
      by_cases c2 : dvar vars L n = v
      · rw [if_pos c2, if_pos c2]
      have f1 := fx_next h p (by omega) false
      have f2 := fx_next h p (by omega) true
      rw [if_neg c2, if_neg c2, ih m2 _ f1.1 (by omega) (by omega), ih m2 _ f2.1 (by omega) (by omega)]
def fxP (vars : Int) (L : List S71) (v : Int) (hi : Bool) (n : Int) : DT := fxT vars L v hi 13 n
theorem fxP_ext {vars v : Int} {L L2 : List S71} (h : DV vars L) (he : L <+: L2) (hv : v < vars) (hi : Bool) {n : Int} (p : Pl L n) : fxP vars L2 v hi n = fxP vars L v hi n := fxT_ext h he hv hi 13 n p
theorem fxP_over {vars v : Int} {L : List S71} (hi : Bool) {n : Int} (c : v < dvar vars L n) : fxP vars L v hi n = .leaf n := by
  unfold fxP fxT
  rw [if_pos c]
theorem fxP_at {vars v : Int} {L : List S71} (hi : Bool) {n : Int} (c : dvar vars L n = v) : fxP vars L v hi n = .leaf (gat L n v hi) := by
  unfold fxP fxT
  rw [if_neg (by omega), if_pos c]
theorem fxP_fork {vars v : Int} {L : List S71} (h : DV vars L) (hv : v < vars) (hi : Bool) {n : Int} (p : Pl L n) (c : dvar vars L n < v) :
    fxP vars L v hi n = .fork (dvar vars L n) (fxP vars L v hi (gat L n (dvar vars L n) false)) (fxP vars L v hi (gat L n (dvar vars L n) true)) := by
  have f1 := fx_next h p (by omega) false
  have f2 := fx_next h p (by omega) true
  have a0 := (h.dvar_le p).1
  have a1 := h.v12
  unfold fxP
  rw [fxT.eq_2, if_neg (by omega), if_neg (by omega), fxT_same h hv hi 12 13 _ f1.1 (by omega) (by omega), fxT_same h hv hi 12 13 _ f2.1 (by omega) (by omega)]
theorem TOk.down {vars : Int} {L : List S71} {t : DT} {x y : Int} (hxy : y ≤ x) (ht : TOk vars L x t) : TOk vars L y t := by
  cases t with
  | leaf n => exact ⟨ht.1, by have := ht.2; omega⟩
  | fork v lo hi => exact ⟨by have := ht.1; omega, ht.2⟩
theorem fxT_ok {vars v : Int} {L : List S71} (h : DV vars L) (hv : v < vars) (hi : Bool) : ∀ (m : Nat) (n : Int), Pl L n → TOk vars L (dvar vars L n) (fxT vars L v hi m n) := by
  intro m
  induction m with
  | zero =>
    intro n p
    refine ⟨⟨Int.le_refl _, by omega⟩, ?_⟩
    rw [dvar_const (n := 0) (by decide)]
    exact (h.dvar_le p).2
  | succ m ih =>
    intro n p
    unfold fxT
    by_cases c1 : v < dvar vars L n
    · rw [if_pos c1]
      exact ⟨p, Int.le_refl _⟩
    rw [if_neg c1]
    by_cases c2 : dvar vars L n = v
    · rw [if_pos c2]
      have := gat_ok h p (v := v) (by omega) hv hi
      exact ⟨this.1, by omega⟩
    rw [if_neg c2]
    have f1 := fx_next h p (by omega) false
    have f2 := fx_next h p (by omega) true
    exact ⟨Int.le_refl _, (h.dvar_le p).1, by omega, TOk.down (by omega) (ih _ f1.1), TOk.down (by omega) (ih _ f2.1)⟩
theorem fxP_dv {vars v : Int} {L : List S71} (h : DV vars L) (hv : v < vars) (hi : Bool) {n : Int} (p : Pl L n) : DV vars (ins L (fxP vars L v hi n)).1 ∧ (0 ≤ (ins L (fxP vars L v hi n)).2 → Pl (ins L (fxP vars L v hi n)).1 (ins L (fxP vars L v hi n)).2 ∧ dvar vars L n ≤ dvar vars (ins L (fxP vars L v hi n)).1 (ins L (fxP vars L v hi n)).2) := dv_ins h (fxT_ok h hv hi 13 n p)
theorem gat_self {L : List S71} {vars n : Int} (c : ¬ n < 2) (hi : Bool) : gat L n (dvar vars L n) hi = if hi = true then (rd_T71 L (n - 2)).f2 else (rd_T71 L (n - 2)).f1 := by
  unfold gat dvar
  rw [if_neg c, if_neg c, if_pos rfl, rdP]
theorem dvar_self {L : List S71} {vars n : Int} (c : ¬ n < 2) : dvar vars L n = (rd_T71 L (n - 2)).f0 := by
  unfold dvar
  rw [if_neg c, rdP]
theorem spec_fix_val {vars v bit : Int} (hv : v < vars) : ∀ (m : Nat) (L : List S71) (n : Int), DV vars L → Pl L n → vars - dvar vars L n < m →
    Ev (fun k => spec_l8Fix.f k vars L n v bit) (vars, (ins L (fxP vars L v (decide (bit = 1)) n)).1, (ins L (fxP vars L v (decide (bit = 1)) n)).2) := by
  intro m
  induction m with
  | zero =>
    intro L n h p h1
    have := (h.dvar_le p).2
    omega
  | succ m ih =>
    intro L n h p hm
    have hl := h.len
    have p0 := p.1
    have p1 := p.2
    refine Ev.step (Ev.bind (Ev.const (l8Var_val vars p (by omega))) ?_) (fun k => spec_l8Fix.f.eq_2 ..)
    by_cases c1 : v < dvar vars L n
    · rw [fxP_over _ c1]
      exact Ev.pos c1 (Ev.val _)
    by_cases c2 : dvar vars L n = v
    · rw [fxP_at _ c2]
      exact Ev.neg c1 (Ev.pos c2 (Ev.bind (Ev.const (l8At_val h p hv bit)) (Ev.val _)))
    have hd : dvar vars L n < v := by omega
    have c2' : ¬ n < 2 := (dvar_two h p).1 (by omega)
    rw [fxP_fork h hv _ p hd, ins_fork]
    have f1 := fx_next h p (by omega) false
    have f2 := fx_next h p (by omega) true
    refine Ev.neg c1 (Ev.neg c2 ?_)
    rw [w_id (by omega) (by omega)]
    refine Ev.pos (by omega) (Ev.pos (by omega) ?_)
    have g1 : (rd_T71 L (n - 2)).f1 = gat L n (dvar vars L n) false := by rw [gat_self c2']; rfl
    have g2 : (rd_T71 L (n - 2)).f2 = gat L n (dvar vars L n) true := by rw [gat_self c2']; rfl
    rw [g1, g2, ← dvar_self (vars := vars) c2']
    refine Ev.bind (ih L _ h f1.1 (by omega)) ?_
    obtain ⟨d1, _⟩ := fxP_dv h hv (decide (bit = 1)) f1.1
    have e1 := ins_ext L (fxP vars L v (decide (bit = 1)) (gat L n (dvar vars L n) false))
    by_cases c4 : (ins L (fxP vars L v (decide (bit = 1)) (gat L n (dvar vars L n) false))).2 < 0
    · rw [if_pos c4]
      exact Ev.pos c4 (Ev.val _)
    rw [if_neg c4]
    have ih2 := ih (ins L (fxP vars L v (decide (bit = 1)) (gat L n (dvar vars L n) false))).1 (gat L n (dvar vars L n) true) d1 (f2.1.ext e1) (by rw [dvar_ext f2.1 e1]; omega)
    obtain ⟨d2, _⟩ := fxP_dv d1 hv (decide (bit = 1)) (f2.1.ext e1)
    rw [fxP_ext h e1 hv _ f2.1] at ih2 d2
    exact Ev.neg c4 (Ev.bind ih2 (Ev.const (add_val vars _ _ _ _ d2.len)))
structure InvF (vars v : Int) (hi : Bool) (s : FS) (mm : Int → Option Int) : Prop where
  vs : s.vars = vars
  dv : DV vars s.forks
  seen : s.seen = seenP s.forks
  memo : s.full = false → ∀ q r, mm q = some r → Pl s.forks q ∧ 0 ≤ r ∧ ins s.forks (fxP vars s.forks v hi q) = (s.forks, r)
theorem fix_val {vars v bit : Int} (hv : v < vars) : ∀ (m : Nat) (s : FS) (n : Int) (mm : Int → Option Int), InvF vars v (decide (bit = 1)) s mm → Pl s.forks n → vars - dvar vars s.forks n < m →
    ∃ s' mm' r, Ev (fun k => impl_forking_fix.f k s n v bit mm) (s', mm', r) ∧ InvF vars v (decide (bit = 1)) s' mm' ∧ s.forks <+: s'.forks ∧ (s.full = true → s'.full = true) ∧ (s.full = false → (ins s.forks (fxP vars s.forks v (decide (bit = 1)) n)).2 < 0 → s'.full = true) ∧
      (s.full = false → 0 ≤ (ins s.forks (fxP vars s.forks v (decide (bit = 1)) n)).2 → s'.full = false ∧ s'.forks = (ins s.forks (fxP vars s.forks v (decide (bit = 1)) n)).1 ∧ r = (ins s.forks (fxP vars s.forks v (decide (bit = 1)) n)).2) := by
  obtain ⟨hi, hhi⟩ : ∃ b, decide (bit = 1) = b := ⟨_, rfl⟩
  rw [hhi]
  intro m
  induction m with
  | zero =>
    intro s n mm hI p h1
    have := (hI.dv.dvar_le p).2
    omega
  | succ m ih =>
    intro s n mm hI p hm
    have h := hI.dv
    have hl := h.len
    have h12 := h.v12
    have p0 := p.1
    have p1 := p.2
    have ev0 : ∀ r, Ev (fun k => if v < dvar 12 s.forks n then some (s, mm, n) else if dvar 12 s.forks n = v then (impl_forking_goes.f s n v bit).bind fun r => some (s, mm, r) else if KeyI n then match mm n with
        | some r => some (s, mm, r)
        | none => if 0 ≤ wrap64 (n - 2) then if wrap64 (n - 2) < (s.forks.length : Int) then impl_forking_fix.two (fun s2 n2 m2 => impl_forking_fix.f k s2 n2 v bit m2) s n (rd_T71 s.forks (wrap64 (n - 2))) mm else none else none
      else none) r → Ev (fun k => impl_forking_fix.f k s n v bit mm) r := fun r hr => Ev.step (Ev.bind (Ev.const (varAt_val s.vars p (by omega))) hr) (fun k => impl_forking_fix.f.eq_2 ..)
    have leaf : ∀ r, 0 ≤ r → fxP vars s.forks v hi n = .leaf r → Ev (fun k => impl_forking_fix.f k s n v bit mm) (s, mm, r) → ∃ s' mm' r, Ev (fun k => impl_forking_fix.f k s n v bit mm) (s', mm', r) ∧ InvF vars v hi s' mm' ∧ s.forks <+: s'.forks ∧ (s.full = true → s'.full = true) ∧ (s.full = false → (ins s.forks (fxP vars s.forks v hi n)).2 < 0 → s'.full = true) ∧ (s.full = false → 0 ≤ (ins s.forks (fxP vars s.forks v hi n)).2 → s'.full = false ∧ s'.forks = (ins s.forks (fxP vars s.forks v hi n)).1 ∧ r = (ins s.forks (fxP vars s.forks v hi n)).2) := fun r hr ht he => by
      rw [ht]
      exact ⟨s, mm, r, he, hI, List.prefix_refl _, id, fun _ hh => absurd (show r < 0 from hh) (by omega), fun hf _ => ⟨hf, rfl, rfl⟩⟩
    by_cases c1 : v < dvar vars s.forks n
    · exact leaf n p0 (fxP_over _ c1) (ev0 _ (Ev.pos ((dvar_lt s.forks n hv h12).2 c1) (Ev.val _)))
    have c1' : ¬ v < dvar 12 s.forks n := fun hh => c1 ((dvar_lt s.forks n hv h12).1 hh)
    have c3 : ¬ n < 2 := (dvar_two h p).1 (by omega)
    have e12 : dvar 12 s.forks n = dvar vars s.forks n := dvar12 c3
    by_cases c2 : dvar vars s.forks n = v
    · have g := goes_val hI.vs h p hv bit
      rw [hhi] at g
      exact leaf _ (gat_ok h p (v := v) (by omega) hv hi).1.1 (fxP_at _ c2) (ev0 _ (Ev.neg c1' (Ev.pos (by rw [e12]; exact c2) (Ev.bind (Ev.const g) (Ev.val _)))))
    have hd : dvar vars s.forks n < v := by omega
    have hd0 := (h.dvar_le p).1
    have hk : KeyI n := keyI p0 (by omega)
    cases hmem : mm n with
    | some r =>
      refine ⟨s, mm, r, ev0 _ (Ev.neg c1' (Ev.neg (by rw [e12]; exact c2) (Ev.pos hk ?_))), hI, List.prefix_refl _, id, ?_, ?_⟩
      · rw [hmem]
        exact Ev.val _
      · intro hf hh
        obtain ⟨_, h3, h4⟩ := hI.memo hf n r hmem
        rw [h4] at hh
        exact absurd (show r < 0 from hh) (by omega)
      · intro hf _
        obtain ⟨_, h3, h4⟩ := hI.memo hf n r hmem
        rw [h4]
        exact ⟨hf, rfl, rfl⟩
    | none =>
      have f1 := fx_next h p (by omega) false
      have f2 := fx_next h p (by omega) true
      have hT := fxP_fork h hv hi p hd
      have gl : (rd_T71 s.forks (n - 2)).f1 = gat s.forks n (dvar vars s.forks n) false := by rw [gat_self c3]; rfl
      have gh : (rd_T71 s.forks (n - 2)).f2 = gat s.forks n (dvar vars s.forks n) true := by rw [gat_self c3]; rfl
      have g0 : (rd_T71 s.forks (n - 2)).f0 = dvar vars s.forks n := (dvar_self c3).symm
      obtain ⟨w, hw⟩ : ∃ w, dvar vars s.forks n = w := ⟨_, rfl⟩
      obtain ⟨lo, hlo⟩ : ∃ lo, gat s.forks n (dvar vars s.forks n) false = lo := ⟨_, rfl⟩
      obtain ⟨hg, hhg⟩ : ∃ lo, gat s.forks n (dvar vars s.forks n) true = lo := ⟨_, rfl⟩
      rw [hlo] at f1 gl
      rw [hhg] at f2 gh
      rw [hlo, hhg] at hT
      rw [hw] at f1 f2 hT g0 hd hd0
      -- the low side
      obtain ⟨s1, m1, r1, ev1, i1, x1, q1, n1, y1⟩ := ih s lo mm hI f1.1 (by omega)
      obtain ⟨s2, m2, r2, ev2, i2, x2, q2, n2, y2⟩ := ih s1 hg m1 i1 (f2.1.ext x1) (by rw [dvar_ext f2.1 x1]; omega)
      rw [fxP_ext h x1 hv hi f2.1] at n2 y2
      have e2 := x1.trans x2
      have walk : ∀ r, Ev (fun _ : Nat => if s2.full = true then some (s2, m2, 0) else (impl_forking_fork.f s2 w r1 r2).bind fun p3 => some (p3.1, (fun y => if y = n then some p3.2 else m2 y), p3.2)) r → Ev (fun k => impl_forking_fix.f k s n v bit mm) r := fun r hh => by
        refine ev0 _ (Ev.neg c1' (Ev.neg (by rw [e12]; exact c2) (Ev.pos hk ?_)))
        rw [hmem, w_id (by omega) (by omega)]
        refine Ev.pos (by omega) (Ev.pos (by omega) ?_)
        unfold impl_forking_fix.two
        rw [gl, gh, g0]
        exact Ev.bind ev1 (Ev.bind ev2 hh)
      have low : ∀ hi_, ins s.forks (.fork w (fxP vars s.forks v hi lo) hi_) = if (ins s.forks (fxP vars s.forks v hi lo)).2 < 0 then (s.forks, -1) else dadd (ins (ins s.forks (fxP vars s.forks v hi lo)).1 hi_).1 w (ins s.forks (fxP vars s.forks v hi lo)).2 (ins (ins s.forks (fxP vars s.forks v hi lo)).1 hi_).2 := fun hi_ => by rw [ins]
      cases hf2 : s2.full with
      | true =>
        refine ⟨s2, m2, 0, walk _ (Ev.pos hf2 (Ev.val _)), i2, e2, fun _ => hf2, fun _ _ => hf2, fun hf hh => ?_⟩
        exfalso
        rw [hT, low] at hh
        by_cases cl : (ins s.forks (fxP vars s.forks v hi lo)).2 < 0
        · rw [if_pos cl] at hh
          exact neg1 hh
        · rw [if_neg cl] at hh
          obtain ⟨z1, z2, z3⟩ := y1 hf (by omega)
          have hn := (dadd_nn hh).2
          rw [← z2] at hn
          obtain ⟨z4, _, _⟩ := y2 z1 hn
          rw [hf2] at z4
          cases z4
      | false =>
        have hf1 : s1.full = false := by
          cases hq : s1.full with
          | false => rfl
          | true => have := q2 hq; rw [hf2] at this; cases this
        have hf : s.full = false := by
          cases hq : s.full with
          | false => rfl
          | true => have := q1 hq; rw [hf1] at this; cases this
        have cl : ¬ (ins s.forks (fxP vars s.forks v hi lo)).2 < 0 := fun hh => by have := n1 hf hh; rw [hf1] at this; cases this
        obtain ⟨_, z2, z3⟩ := y1 hf (by omega)
        have ch : ¬ (ins s1.forks (fxP vars s.forks v hi hg)).2 < 0 := fun hh => by have := n2 hf1 hh; rw [hf2] at this; cases this
        obtain ⟨_, z5, z6⟩ := y2 hf1 (by omega)
        have hins : ins s.forks (fxP vars s.forks v hi n) = dadd s2.forks w r1 r2 := by
          rw [hT, low, if_neg cl, ← z2, ← z5, ← z3, ← z6]
        obtain ⟨dd, pp⟩ := fxP_dv h hv hi p
        have pl1 : Pl s1.forks r1 := by
          have := (fxP_dv h hv hi f1.1).2 (by omega)
          rw [z2, z3]
          exact this.1
        have pl2 : Pl s2.forks r2 := by
          have := (fxP_dv i1.dv hv hi (f2.1.ext x1)).2
          rw [fxP_ext h x1 hv hi f2.1] at this
          have := this (by omega)
          rw [z5, z6]
          exact this.1
        have hl1 := i1.dv.len
        have hl2 := i2.dv.len
        obtain ⟨s3, r3, ef, k1, k2, k3, k4, k5⟩ := fork_val s2 w r1 r2 (show KeyI w ∧ KeyI r1 ∧ KeyI r2 from ⟨keyI hd0 (by omega), keyI pl1.1 (by have := pl1.2; omega), keyI pl2.1 (by have := pl2.2; omega)⟩) pl1.1 pl2.1 i2.seen
        have x3 : s2.forks <+: s3.forks := by rw [k4]; exact dadd_ext _ _ _ _
        have k4' : s3.forks = (ins s.forks (fxP vars s.forks v hi n)).1 := by rw [k4, hins]
        have e3 := e2.trans x3
        refine ⟨s3, _, r3, walk _ (Ev.neg (by rw [hf2]; decide) (Ev.bind (Ev.const ef) (Ev.val _))), ⟨by rw [k1]; exact i2.vs, by rw [k4']; exact dd, k3, fun hf3 q r hmm => ?_⟩, e3, fun hh => ?_, fun _ hh => ?_, fun _ hh => ?_⟩
        · by_cases cq : q = n
          · subst cq
            have hr : r3 = r := by simpa using hmm
            subst hr
            have cd : ¬ (dadd s2.forks w r1 r2).2 < 0 := fun hh => by
              rw [if_pos hh, hf3] at k5
              exact absurd k5.1 (by decide)
            rw [if_neg cd] at k5
            refine ⟨p.ext e3, by omega, ?_⟩
            rw [fxP_ext h e3 hv hi p]
            have := ins_stays (L := s.forks) (t := fxP vars s.forks v hi q) (by rw [hins]; omega) (L2 := s3.forks) (by rw [← k4']; exact List.prefix_refl _)
            rw [this, hins, k5.2]
          · have hmm2 : m2 q = some r := by simpa [cq] using hmm
            obtain ⟨j1, j3, j4⟩ := i2.memo hf2 q r hmm2
            refine ⟨j1.ext x3, j3, ?_⟩
            rw [fxP_ext i2.dv x3 hv hi j1]
            have := ins_stays (L := s2.forks) (t := fxP vars s2.forks v hi q) (by rw [j4]; exact j3) (L2 := s3.forks) (by rw [j4]; exact x3)
            rw [this, j4]
        · rw [hf] at hh
          cases hh
        · rw [hins] at hh
          rw [if_pos hh] at k5
          exact k5.1
        · rw [hins] at hh
          rw [if_neg (by omega)] at k5
          exact ⟨k5.1.trans hf2, k4', by rw [hins]; exact k5.2⟩
/-- What comes of a variable as a constant: told, or nothing where it may not be asked. -/
def FixAsk (vars : Int) (L : List S71) (n v bit : Int) : Prop := DV vars L ∧ Pl L n ∧ (0 ≤ v ∧ v ≤ vars - 1) ∧ (0 ≤ bit ∧ bit ≤ 1)
def FixIs (vars : Int) (L : List S71) (n v bit : Int) (r : Int × List S71 × Int) : Prop :=
  (FixAsk vars L n v bit → r = told vars (ins L (fxP vars L v (decide (bit = 1)) n))) ∧ (¬ FixAsk vars L n v bit → r = (0, [], -1))
theorem fixIs_ex (vars : Int) (L : List S71) (n v bit : Int) : ∃ r, FixIs vars L n v bit r ∧ r.2.1.length ≤ 2000 := by
  by_cases c : FixAsk vars L n v bit
  · refine ⟨told vars (ins L (fxP vars L v (decide (bit = 1)) n)), ⟨fun _ => rfl, fun h => absurd c h⟩, ?_⟩
    have := (fxP_dv c.1 (v := v) (by have := c.2.2.1; omega) (decide (bit = 1)) c.2.1).1.len
    unfold told
    split
    · exact Nat.zero_le _
    · exact this
  · exact ⟨(0, [], -1), ⟨fun h => absurd h c, fun _ => rfl⟩, Nat.zero_le _⟩
theorem spec_fix {vars n v bit : Int} {L : List S71} {r : Int × List S71 × Int} (h : FixIs vars L n v bit r) : Ev (fun k => spec_DiagramFix.f k vars L n v bit) r := by
  obtain ⟨hy, hn⟩ := h
  unfold spec_DiagramFix.f
  have e0 : Ev (fun k => spec_DiagramFix.j0 k n v bit true vars L) (0, [], -1) := Ev.step (Ev.pos rfl (Ev.val _)) (fun k => spec_DiagramFix.j0.eq_2 ..)
  obtain ⟨q, hb, h1⟩ := spec_dv vars L
  cases q with
  | false =>
    rw [hn (fun h => by have := h1.2 h.1; cases this)]
    exact Ev.bind hb (Ev.neg (by decide) e0)
  | true =>
    have hd := h1.1 rfl
    have hl := hd.len
    have h0 := hd.v0
    have h12 := hd.v12
    refine Ev.bind hb (Ev.pos rfl (Ev.bind (Ev.const (place_val L n (by omega))) ?_))
    by_cases pa : Pl L n
    · rw [@decide_eq_true _ (decPl L n) pa]
      refine Ev.pos rfl ?_
      rw [w_id (by omega) (by omega)]
      refine Ev.bind (Ev.const (l1In_val _ _ _)) ?_
      by_cases c1 : 0 ≤ v ∧ v ≤ vars - 1
      · rw [decide_eq_true c1]
        refine Ev.pos rfl (Ev.bind (Ev.const (l1In_val _ _ _)) ?_)
        by_cases c2 : 0 ≤ bit ∧ bit ≤ 1
        · rw [decide_eq_true c2, hy ⟨hd, pa, c1, c2⟩]
          have hdl := hd.dvar_le pa
          refine Ev.step (Ev.neg (by decide) (Ev.bind (spec_copy vars L hl) (Ev.bind (spec_fix_val (by omega) 13 L n hd pa (by omega)) (Ev.bind (a := told vars (ins L (fxP vars L v (decide (bit = 1)) n))) (Ev.const ?_) (Ev.val _))))) (fun k => spec_DiagramFix.j0.eq_2 ..)
          unfold spec_l8Told.f told
          by_cases c : (ins L (fxP vars L v (decide (bit = 1)) n)).2 < 0
          · rw [if_pos c, if_pos c]
          · rw [if_neg c, if_neg c]
        · rw [decide_eq_false c2, hn (fun h => c2 h.2.2.2)]
          exact e0
      · rw [decide_eq_false c1, hn (fun h => c1 h.2.2.1)]
        exact Ev.neg (by decide) e0
    · rw [@decide_eq_false _ (decPl L n) pa, hn (fun h => pa h.2.1)]
      exact Ev.neg (by decide) e0
theorem fix_v {vars n v bit : Int} {L : List S71} {r : Int × List S71 × Int} (h : FixIs vars L n v bit r) : Ev (fun k => impl_DiagramFix.f k vars L n v bit) r := by
  obtain ⟨hy, hn⟩ := h
  unfold impl_DiagramFix.f
  obtain ⟨q, hb, h1⟩ := impl_dv vars L
  refine Ev.bind (Ev.const hb) ?_
  cases q with
  | false =>
    rw [hn (fun h => by have := h1.2 h.1; cases this)]
    exact Ev.pos rfl (Ev.val _)
  | true =>
    have hd := h1.1 rfl
    have hl := hd.len
    have h0 := hd.v0
    have h12 := hd.v12
    refine Ev.neg (by decide) (Ev.bind (Ev.const (isPlace_val vars n (by omega))) ?_)
    by_cases pa : Pl L n
    · rw [@decide_eq_true _ (decPl L n) pa, w_id (by omega) (by omega)]
      refine Ev.neg (by decide) (Ev.bind (Ev.const (in_val _ _ _)) ?_)
      by_cases c1 : 0 ≤ v ∧ v ≤ vars - 1
      · rw [decide_eq_true c1]
        refine Ev.neg (by decide) (Ev.bind (Ev.const (in_val _ _ _)) ?_)
        by_cases c2 : 0 ≤ bit ∧ bit ≤ 1
        · rw [decide_eq_true c2, hy ⟨hd, pa, c1, c2⟩]
          have hdl := hd.dvar_le pa
          have hi : InvF vars v (decide (bit = 1)) (fs0 vars L) (fun _ => none) := ⟨rfl, hd, rfl, fun _ q r hm => by cases hm⟩
          obtain ⟨s', mm', m', ev, i1, _, _, n1, y1⟩ := fix_val (bit := bit) (show v < vars by omega) 13 (fs0 vars L) n (fun _ => none) hi pa (show vars - dvar vars L n < _ by omega)
          have n1' : (ins L (fxP vars L v (decide (bit = 1)) n)).2 < 0 → s'.full = true := n1 rfl
          have y1' : 0 ≤ (ins L (fxP vars L v (decide (bit = 1)) n)).2 → s'.full = false ∧ s'.forks = (ins L (fxP vars L v (decide (bit = 1)) n)).1 ∧ m' = (ins L (fxP vars L v (decide (bit = 1)) n)).2 := y1 rfl
          refine Ev.neg (by decide) (Ev.bind (Ev.const (forkingOf_val hd)) (Ev.bind ev (Ev.const ?_)))
          show impl_forking_done.f s' m' = _
          rw [done_val s' m' i1.dv.len]
          unfold told
          by_cases c : (ins L (fxP vars L v (decide (bit = 1)) n)).2 < 0
          · rw [if_pos c, if_pos (n1' c)]
          · obtain ⟨z1, z2, z3⟩ := y1' (by omega)
            rw [if_neg c, if_neg (by rw [z1]; decide), i1.vs, z2, z3]
        · rw [decide_eq_false c2, hn (fun h => c2 h.2.2.2)]
          exact Ev.pos rfl (Ev.val _)
      · rw [decide_eq_false c1, hn (fun h => c1 h.2.2.1)]
        exact Ev.pos rfl (Ev.val _)
    · rw [@decide_eq_false _ (decPl L n) pa, hn (fun h => pa h.2.1)]
      exact Ev.pos rfl (Ev.val _)
/-! #### the law's own copies of diagrams -/
theorem sz_forks (l : List S116) (h : l.length ≤ maxLen) : ∃ z, laws_szForkS.f l 1048576 = some z ∧ (z < 0 ∨ l.length ≤ 1048576) := by
  unfold laws_szForkS.f
  simp only [maxLen] at h
  rw [w_id (by omega) (by omega)]
  by_cases c : 1048576 - (l.length : Int) < 0
  · rw [if_pos c]
    exact ⟨_, rfl, .inl (by decide)⟩
  · rw [if_neg c]
    exact ⟨_, rfl, .inr (by omega)⟩
theorem sz_diagram (a : Int) (l : List S116) (h : l.length ≤ maxLen) : ∃ z, laws_szDiagram.f a l 1048576 = some z ∧ (z < 0 ∨ l.length ≤ 1048576) := by
  obtain ⟨z, h1, h2⟩ := sz_forks l h
  unfold laws_szDiagram.f
  rw [h1, Option.bind_some]
  by_cases c : z < 0
  · rw [if_pos c]
    exact ⟨_, rfl, .inl (by decide)⟩
  · rw [if_neg c]
    exact ⟨_, rfl, h2⟩
theorem wnat (i : Nat) (h : i ≤ 1000000000000) : wrap64 ((i : Int) + 1) = ((i + 1 : Nat) : Int) := by rw [w_id (by omega) (by omega)]; omega
theorem to_forks_loop (l : List S116) (hl : l.length ≤ 1048576) : ∀ (d i : Nat) (ys : List S71), i + d = l.length → ys.length = l.length →
    ∃ r, Ev (fun k => laws_toForkS.l0 k l ys (i : Int)) r ∧ r.length = l.length := by
  intro d
  induction d with
  | zero =>
    intro i ys hi hy
    exact ⟨ys, Ev.step (Ev.neg (by omega) (Ev.val _)) (fun k => laws_toForkS.l0.eq_2 ..), hy⟩
  | succ d ih =>
    intro i ys hi hy
    have hwi := wnat i (by omega)
    obtain ⟨r, hr, hl2⟩ := ih (i + 1) (ys.set i (⟨(rd_T116 l (i : Int)).f0, (rd_T116 l (i : Int)).f1, (rd_T116 l (i : Int)).f2⟩ : S71)) (by omega) (by simpa using hy)
    refine ⟨r, Ev.step ?_ (fun k => laws_toForkS.l0.eq_2 ..), hl2⟩
    rw [hwi, Int.toNat_natCast]
    exact Ev.pos (by omega) (Ev.pos (by omega) (Ev.bind (Ev.const (by unfold laws_toFork.f; rfl)) (Ev.pos (by omega) hr)))
theorem to_diagram (a : Int) (l : List S116) (hl : l.length ≤ 1048576) : ∃ L, Ev (fun k => laws_toDiagram.f k a l) (a, L) ∧ L.length = l.length := by
  obtain ⟨r, hr, hl2⟩ := to_forks_loop l hl l.length 0 (List.replicate l.length z71) (by omega) (by simp)
  refine ⟨r, ?_, hl2⟩
  unfold laws_toDiagram.f
  refine Ev.bind (a := r) ?_ (Ev.val _)
  unfold laws_toForkS.f
  refine Ev.pos (by omega) (Ev.pos (by omega) ?_)
  rw [Int.toNat_natCast]
  exact hr
theorem eq_forks_loop (l : List S71) (hl : l.length ≤ 4611686018427387904) : ∀ (d i : Nat), i + d = l.length → Ev (fun k => laws_eqForkS.l0 k l l (i : Int)) true := by
  intro d
  induction d with
  | zero =>
    intro i hi
    exact Ev.step (Ev.neg (by omega) (Ev.val _)) (fun k => laws_eqForkS.l0.eq_2 ..)
  | succ d ih =>
    intro i hi
    have hwi : wrap64 ((i : Int) + 1) = ((i + 1 : Nat) : Int) := by rw [w_id (by omega) (by omega)]; omega
    refine Ev.step ?_ (fun k => laws_eqForkS.l0.eq_2 ..)
    rw [hwi]
    exact Ev.pos (by omega) (Ev.pos (by omega) (Ev.pos (by omega) (Ev.bind (Ev.const (by unfold laws_eqFork.f; simp)) (Ev.pos rfl (ih (i + 1) (by omega))))))
theorem eq_diagram (a : Int) (l : List S71) (hl : l.length ≤ 4611686018427387904) : Ev (fun k => laws_eqDiagram.f k a l a l) true := by
  unfold laws_eqDiagram.f
  refine Ev.pos rfl (Ev.bind (a := true) ?_ (Ev.pos rfl (Ev.val _)))
  unfold laws_eqForkS.f
  exact Ev.pos rfl (eq_forks_loop l hl l.length 0 (by omega))
theorem rdSetF {L : List S71} {i : Nat} (x : S71) (h : i < L.length) : rd_T71 (L.set i x) (i : Int) = x := by rw [rdF (by simpa using h), List.getElem_set_self]
/-- The numbers that the law writes into forks. -/
def markF (c : Nat) : S71 := ⟨1 + 3 * (c : Int), 2 + 3 * (c : Int), 3 + 3 * (c : Int)⟩
theorem mark_forks_loop (n : Nat) (hn : n ≤ 1048576) : ∀ (d i : Nat) (c : Int) (ys : List S71), i + d = n → ys.length = n → c = 1 + 3 * (i : Int) → (∀ q (h : q < ys.length), q < i → ys[q] = markF q) →
    ∃ zs, Ev (fun k => laws_markForkS.l0 k ys c (i : Int)) (1 + 3 * (n : Int), zs) ∧ zs.length = n ∧ ∀ q (h : q < zs.length), zs[q] = markF q := by
  intro d
  induction d with
  | zero =>
    intro i c ys hi hy hc hq
    have : i = n := by omega
    subst this
    subst hc
    exact ⟨ys, Ev.step (Ev.neg (by omega) (Ev.val _)) (fun k => laws_markForkS.l0.eq_2 ..), hy, fun q h => hq q h (by omega)⟩
  | succ d ih =>
    intro i c ys hi hy hc hq
    have hwi := wnat i (by omega)
    have w1 : wrap64 (c + 1) = c + 1 := w_id (by omega) (by omega)
    have w2 : wrap64 (c + 1 + 1) = c + 1 + 1 := w_id (by omega) (by omega)
    have w3 : wrap64 (c + 1 + 1 + 1) = c + 1 + 1 + 1 := w_id (by omega) (by omega)
    have hil : i < ys.length := by omega
    have key := ih (i + 1) (c + 1 + 1 + 1) (ys.set i (markF i)) (by omega) (by simpa using hy) (by omega) (fun q h hqi => by
      rw [List.length_set] at h
      by_cases e : q = i
      · subst e
        rw [List.getElem_set_self]
      · rw [List.getElem_set_ne (fun e2 => e e2.symm)]
        exact hq q h (by omega))
    obtain ⟨zs, e1, e2, e3⟩ := key
    refine ⟨zs, Ev.step ?_ (fun k => laws_markForkS.l0.eq_2 ..), e2, e3⟩
    simp only [w1, w2, w3, hwi, Int.toNat_natCast, Option.bind_some]
    refine Ev.pos (by omega) (Ev.pos (by omega) ?_)
    have e : ((ys.set i (⟨c, (rd_T71 ys (i : Int)).f1, (rd_T71 ys (i : Int)).f2⟩ : S71)).set i (⟨(rd_T71 (ys.set i (⟨c, (rd_T71 ys (i : Int)).f1, (rd_T71 ys (i : Int)).f2⟩ : S71)) (i : Int)).f0, c + 1, (rd_T71 (ys.set i (⟨c, (rd_T71 ys (i : Int)).f1, (rd_T71 ys (i : Int)).f2⟩ : S71)) (i : Int)).f2⟩ : S71)) = ys.set i ⟨c, c + 1, (rd_T71 ys (i : Int)).f2⟩ := by
      rw [rdSetF _ hil, List.set_set]
    rw [e, rdSetF _ hil, List.set_set]
    have e4 : (⟨c, c + 1, c + 1 + 1⟩ : S71) = markF i := by
      unfold markF
      rw [hc]
      congr 1 <;> omega
    rw [e4]
    exact e1
theorem mark_diagram (a : Int) (l : List S71) (hl : l.length ≤ 1048576) : ∃ zs, Ev (fun k => laws_markDiagram.f k a l 1) (1 + 3 * (l.length : Int), zs) ∧ zs.length = l.length ∧ ∀ q (h : q < zs.length), zs[q] = markF q := by
  obtain ⟨zs, h1, h2, h3⟩ := mark_forks_loop l.length hl l.length 0 1 l (by omega) rfl (by omega) (fun q h hq => absurd hq (by omega))
  refine ⟨zs, ?_, h2, h3⟩
  unfold laws_markDiagram.f
  refine Ev.bind (a := (1 + 3 * (l.length : Int), zs)) ?_ (Ev.val _)
  unfold laws_markForkS.f
  exact h1
theorem held_forks_loop (zs : List S71) (hn : zs.length ≤ 1048576) (hz : ∀ q (h : q < zs.length), zs[q] = markF q) : ∀ (d i : Nat) (c : Int), i + d = zs.length → c = 1 + 3 * (i : Int) → Ev (fun k => laws_heldForkS.l0 k zs c (i : Int)) (1 + 3 * (zs.length : Int)) := by
  intro d
  induction d with
  | zero =>
    intro i c hi hc
    subst hc
    exact Ev.step (Ev.neg (by omega) (Ev.valEq (by omega))) (fun k => laws_heldForkS.l0.eq_2 ..)
  | succ d ih =>
    intro i c hi hc
    have hwi := wnat i (by omega)
    have w1 : wrap64 (c + 1) = c + 1 := w_id (by omega) (by omega)
    have w2 : wrap64 (c + 1 + 1) = c + 1 + 1 := w_id (by omega) (by omega)
    have w3 : wrap64 (c + 1 + 1 + 1) = c + 1 + 1 + 1 := w_id (by omega) (by omega)
    have hil : i < zs.length := by omega
    refine Ev.step ?_ (fun k => laws_heldForkS.l0.eq_2 ..)
    simp only [w1, w2, w3, hwi]
    rw [rdF hil, hz i hil]
    exact Ev.pos (by omega) (Ev.pos (by omega) (Ev.pos (by unfold markF; simp only; omega) (Ev.pos (by unfold markF; simp only; omega) (Ev.pos (by unfold markF; simp only; omega) (ih (i + 1) _ (by omega) (by omega))))))
theorem held_diagram (a : Int) (zs : List S71) (hn : zs.length ≤ 1048576) (hz : ∀ q (h : q < zs.length), zs[q] = markF q) : Ev (fun k => laws_heldDiagram.f k a zs 1) (1 + 3 * (zs.length : Int)) := by
  unfold laws_heldDiagram.f
  refine Ev.bind (a := 1 + 3 * (zs.length : Int)) ?_ (Ev.neg (by omega) (Ev.val _))
  unfold laws_heldForkS.f
  exact held_forks_loop zs hn hz zs.length 0 1 (by omega) (by omega)

theorem FnExactDiagramFix : laws_FnExactDiagramFix.Pure := by
  intro a0 l0 a1 a2 a3 _ hl _ _ _
  apply Ev.get
  unfold laws_FnExactDiagramFix.f
  obtain ⟨z, hz1, hz2⟩ := sz_diagram a0 l0 hl.1
  refine Ev.bind (Ev.const hz1) ?_
  by_cases c : z < 0
  · exact Ev.pos c (Ev.val _)
  refine Ev.neg c ?_
  have hl0 : l0.length ≤ 1048576 := by omega
  obtain ⟨L, hL, hLl⟩ := to_diagram a0 l0 hl0
  obtain ⟨⟨r1, R, r3⟩, ht, hR⟩ := fixIs_ex a0 L a1 a2 a3
  have hs : Ev (fun k => spec_DiagramFix.f k a0 L a1 a2 a3) (r1, R, r3) := by
    exact spec_fix ht
  have hi : Ev (fun k => impl_DiagramFix.f k a0 L a1 a2 a3) (r1, R, r3) := by
    exact fix_v ht
  have hR2 : R.length ≤ 2000 := hR
  obtain ⟨zs, hm, hml, _⟩ := mark_diagram a0 L (by omega)
  obtain ⟨ys, hn, hnl, hny⟩ := mark_diagram r1 R (by omega)
  have hh := held_diagram r1 ys (by omega) hny
  rw [hnl] at hh
  have j2 : Ev (fun k => laws_FnExactDiagramFix.j2 k (1 + 3 * (R.length : Int)) (r3 != r3) r1 ys) true := by
    refine Ev.step (Ev.neg (by simp) (Ev.bind hh (Ev.neg (by omega) (Ev.pos rfl (Ev.val _))))) (fun k => laws_FnExactDiagramFix.j2.eq_2 ..)
  have j1 : Ev (fun k => laws_FnExactDiagramFix.j1 k a1 a2 a3 r3 (r3 != r3) a0 l0 r1 R r1 R) true :=
    Ev.step (Ev.neg (by simp) (Ev.bind hn (Ev.bind hh (Ev.neg (by omega) (Ev.pos rfl (Ev.bind hL (Ev.bind hi (Ev.bind (eq_diagram r1 R (by omega)) (Ev.pos rfl j2))))))))) (fun k => laws_FnExactDiagramFix.j1.eq_2 ..)
  have j0 : Ev (fun k => laws_FnExactDiagramFix.j0 k a1 a2 a3 r3 r3 (r3 != r3) a0 l0 r1 R a0 L r1 R) true :=
    Ev.step (Ev.neg (by simp) (Ev.bind hL (Ev.bind (eq_diagram a0 L (by omega)) (Ev.pos rfl (Ev.bind hm (Ev.neg (by simp only; omega) (Ev.bind (eq_diagram r1 R (by omega)) (Ev.pos rfl j1)))))))) (fun k => laws_FnExactDiagramFix.j0.eq_2 ..)
  exact Ev.bind hL (Ev.bind hs (Ev.bind hL (Ev.bind hi (Ev.bind (eq_diagram r1 R (by omega)) (Ev.pos rfl j0)))))

end Go.Proofs.Ytpcompnmadpljaa.Pure
