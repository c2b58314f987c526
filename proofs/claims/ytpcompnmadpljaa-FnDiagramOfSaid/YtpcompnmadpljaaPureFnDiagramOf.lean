/- FnDiagramOf: the diagram of an edge has the edge's value for all rows of bits, on both sides the same diagram, whatever is drawn. -/
import Derived.Test.YtpcompnmadpljaaQFnDiagramOfx12
namespace Go.Proofs.Ytpcompnmadpljaa.Pure
open Go.RowKit Go.Proofs.Ytpcompnmadpljaa.QFnDiagramOf Go.Proofs.YtpcompnmadpljaaW.PrintWords Go.Proofs.YtpcompnmadpljaaW.PrintLast Go.Proofs.YtpcompnmadpljaaW.PrintMore
set_option linter.unusedVariables false
set_option linter.unusedSimpArgs false

/-! #### rounds -/
/-- From some number of rounds on, g tells r. -/
def Ev {α : Type} (g : Nat → Option α) (r : α) : Prop := ∃ K, ∀ k, K ≤ k → g k = some r
theorem Ev.val {α : Type} (r : α) : Ev (fun _ => some r) r := ⟨0, fun _ _ => rfl⟩
theorem Ev.valEq {α : Type} {r r' : α} (h : r = r') : Ev (fun _ => some r) r' := ⟨0, fun _ _ => by rw [h]⟩
theorem Ev.const {α : Type} {g : Option α} {r : α} (h : g = some r) : Ev (fun _ => g) r := ⟨0, fun _ _ => h⟩
theorem Ev.bind {α β : Type} {g : Nat → Option α} {f : Nat → α → Option β} {a : α} {b : β} (h : Ev g a) (h2 : Ev (fun k => f k a) b) : Ev (fun k => (g k).bind (f k)) b := by
  obtain ⟨K, hK⟩ := h
  obtain ⟨L, hL⟩ := h2
  exact ⟨max K L, fun k hk => by show (g k).bind (f k) = _; rw [hK k (by omega)]; exact hL k (by omega)⟩
theorem Ev.step {α : Type} {g g' : Nat → Option α} {r : α} (h : Ev g' r) (e : ∀ k, g (k + 1) = g' k) : Ev g r := by
  obtain ⟨K, hK⟩ := h
  exact ⟨K + 1, fun k hk => by
    obtain ⟨m, rfl⟩ : ∃ m, k = m + 1 := ⟨k - 1, by omega⟩
    rw [e]
    exact hK m (by omega)⟩
theorem Ev.pos {α : Type} {c : Prop} [Decidable c] {g g' : Nat → Option α} {r : α} (hc : c) (h : Ev g r) : Ev (fun k => if c then g k else g' k) r := by
  obtain ⟨K, hK⟩ := h
  exact ⟨K, fun k hk => by simp only [if_pos hc]; exact hK k hk⟩
theorem Ev.neg {α : Type} {c : Prop} [Decidable c] {g g' : Nat → Option α} {r : α} (hc : ¬ c) (h : Ev g' r) : Ev (fun k => if c then g k else g' k) r := by
  obtain ⟨K, hK⟩ := h
  exact ⟨K, fun k hk => by simp only [if_neg hc]; exact hK k hk⟩
theorem Ev.get {α : Type} {g : Nat → Option α} {r : α} (h : Ev g r) : ∃ k, g k = some r := by
  obtain ⟨K, hK⟩ := h
  exact ⟨K, hK K (Nat.le_refl _)⟩
theorem Ev.to {α : Type} {g : Nat → Option α} {r r' : α} (h : Ev g r) (e : r = r') : Ev g r' := e ▸ h
/-! #### numbers -/
theorem w_id {x : Int} (h0 : -9223372036854775808 ≤ x) (h1 : x ≤ 9223372036854775807) : wrap64 x = x := by
  unfold wrap64
  omega
/-! #### lists -/
theorem rd_nat (l : List Int) (i : Nat) : rd l (i : Int) = l.getD i 0 := by
  unfold rd
  rw [Int.toNat_natCast]
theorem getD_lt {α : Type} {l : List α} {i : Nat} (h : i < l.length) (d : α) : l.getD i d = l[i] := by
  rw [List.getD_eq_getElem?_getD, List.getElem?_eq_getElem h]
  rfl
theorem rd_lt {l : List Int} {i : Nat} (h : i < l.length) : rd l (i : Int) = l[i] := by rw [rd_nat, getD_lt h]
theorem wsucc (i : Nat) (h : i ≤ 4611686018427387904) : wrap64 ((i : Int) + 1) = ((i + 1 : Nat) : Int) := by
  unfold wrap64
  omega
/-- g tells in the end whether p is so. -/
def Dec (g : Nat → Option Bool) (p : Prop) : Prop := ∃ b, Ev g b ∧ (b = true ↔ p)
theorem Dec.no {g : Nat → Option Bool} {p : Prop} (h : Ev g false) (hp : ¬ p) : Dec g p := ⟨false, h, by simp [hp]⟩
/-! #### it tells something, of which P holds -/
def Tot {α : Type} (g : Nat → Option α) (P : α → Prop) : Prop := ∃ r, Ev g r ∧ P r
theorem Tot.of {α : Type} {g : Nat → Option α} {P : α → Prop} {r : α} (h : Ev g r) (hp : P r) : Tot g P := ⟨r, h, hp⟩
theorem Tot.val {α : Type} {P : α → Prop} {r : α} (h : P r) : Tot (fun _ => some r) P := ⟨r, Ev.val r, h⟩
theorem Tot.mono {α : Type} {g : Nat → Option α} {P Q : α → Prop} (h : Tot g P) (hq : ∀ r, P r → Q r) : Tot g Q := by
  obtain ⟨r, h1, h2⟩ := h
  exact ⟨r, h1, hq r h2⟩
theorem Tot.step {α : Type} {g g' : Nat → Option α} {P : α → Prop} (h : Tot g' P) (e : ∀ k, g (k + 1) = g' k) : Tot g P := by
  obtain ⟨r, h1, h2⟩ := h
  exact ⟨r, Ev.step h1 e, h2⟩
theorem Tot.bind {α β : Type} {g : Nat → Option α} {f : Nat → α → Option β} {Q : α → Prop} {P : β → Prop} (h : Tot g Q) (h2 : ∀ a, Q a → Tot (fun k => f k a) P) : Tot (fun k => (g k).bind (f k)) P := by
  obtain ⟨a, ha, hq⟩ := h
  obtain ⟨r, h1, h3⟩ := h2 a hq
  exact ⟨r, Ev.bind ha h1, h3⟩
theorem Tot.pos {α : Type} {c : Prop} [Decidable c] {g g' : Nat → Option α} {P : α → Prop} (hc : c) (h : Tot g P) : Tot (fun k => if c then g k else g' k) P := by
  obtain ⟨r, h1, h2⟩ := h
  exact ⟨r, Ev.pos hc h1, h2⟩
theorem Tot.neg {α : Type} {c : Prop} [Decidable c] {g g' : Nat → Option α} {P : α → Prop} (hc : ¬ c) (h : Tot g' P) : Tot (fun k => if c then g k else g' k) P := by
  obtain ⟨r, h1, h2⟩ := h
  exact ⟨r, Ev.neg hc h1, h2⟩
theorem Tot.ite {α : Type} {c : Prop} [Decidable c] {g g' : Nat → Option α} {P : α → Prop} (h1 : c → Tot g P) (h2 : ¬ c → Tot g' P) : Tot (fun k => if c then g k else g' k) P := by
  by_cases hc : c
  · exact Tot.pos hc (h1 hc)
  · exact Tot.neg hc (h2 hc)
theorem in_dec {x a b : Int} : Ev (fun _ => impl_in.f x a b) (decide (a ≤ x ∧ x ≤ b)) := by
  unfold impl_in.f
  by_cases h : x ≥ a
  · refine Ev.pos h (Ev.valEq ?_)
    simp only [decide_eq_decide]
    omega
  · refine Ev.neg h (Ev.valEq ?_)
    symm
    rw [decide_eq_false_iff_not]
    omega
theorem idx_tot (p : Nat → Int → Option Bool) (P : Nat → Prop) (m : Nat) (hp : ∀ j : Nat, j < m → Dec (fun k => p k (j : Int)) (P j)) : ∀ (d i : Nat), i + d = m →
    Tot (fun k => Copy.idxO (p k) d (i : Int)) (fun r => 0 ≤ r ↔ ∃ j : Nat, i ≤ j ∧ j < m ∧ P j) := by
  intro d
  induction d with
  | zero =>
    intro i hi
    exact Tot.val ⟨fun h => by omega, fun ⟨j, h1, h2, _⟩ => by omega⟩
  | succ d ih =>
    intro i hi
    obtain ⟨b, hb, hbi⟩ := hp i (by omega)
    cases b with
    | true => exact ⟨(i : Int), Ev.bind hb (Ev.pos rfl (Ev.val _)), fun _ => ⟨i, Nat.le_refl _, by omega, hbi.mp rfl⟩, fun _ => by omega⟩
    | false =>
      obtain ⟨r, hr, hri⟩ := ih (i + 1) (by omega)
      refine ⟨r, Ev.bind hb (Ev.neg (by decide) ?_), hri.trans ?_⟩
      · have e : ((i + 1 : Nat) : Int) = (i : Int) + 1 := by omega
        rw [← e]
        exact hr
      · constructor
        · rintro ⟨j, h1, h2, h3⟩
          exact ⟨j, by omega, h2, h3⟩
        · rintro ⟨j, h1, h2, h3⟩
          rcases Nat.lt_or_eq_of_le h1 with h4 | rfl
          · exact ⟨j, h4, h2, h3⟩
          · exact absurd (hbi.mpr h3) (by decide)
/-! #### the truth of clauses by a row of bits -/
def Bit01 (xs : List Int) : Prop := ∀ j : Nat, j < xs.length → rd xs (j : Int) = 0 ∨ rd xs (j : Int) = 1
theorem bits_valid (xs : List Int) (hl : xs.length ≤ 1048576) (hb : Bit01 xs) : Ev (fun _ => impl_bitsValid.f xs) true := by
  unfold impl_bitsValid.f
  obtain ⟨r, h1, h2⟩ := idx_tot (fun _ => impl_bitsValid.p xs) (fun _ => False) xs.length (fun j hj => by
    unfold impl_bitsValid.p
    refine Dec.no (Ev.bind in_dec (Ev.valEq ?_)) id
    have := hb j hj
    simp
    omega) xs.length 0 (by omega)
  refine Ev.bind h1 (Ev.valEq ?_)
  have : ¬ 0 ≤ r := fun h => by
    obtain ⟨j, _, _, h3⟩ := h2.mp h
    exact h3
  simp [this]
/-! #### the drawer of numbers -/
def Drawer (b : List Int) : Prop := b.length ≤ 2000 ∧ ∀ j : Nat, j < b.length → 0 ≤ rd b (j : Int) ∧ rd b (j : Int) ≤ 255
theorem xor_nonneg (a c : Int) (ha : 0 ≤ a) (ha2 : a < 4611686018427387904) (hc : 0 ≤ c) (hc2 : c < 4611686018427387904) : 0 ≤ Go.bits .xor .i64 a c := by
  obtain ⟨m, rfl⟩ := Int.eq_ofNat_of_zero_le ha
  obtain ⟨n, rfl⟩ := Int.eq_ofNat_of_zero_le hc
  have hm : m < 2 ^ 62 := by omega
  have hn : n < 2 ^ 62 := by omega
  have hx := Nat.xor_lt_two_pow hm hn
  have hm' : m % 2 ^ 64 = m := Nat.mod_eq_of_lt (by omega)
  have hn' : n % 2 ^ 64 = n := Nat.mod_eq_of_lt (by omega)
  have e : (BitVec.ofInt 64 (m : Int) ^^^ BitVec.ofInt 64 (n : Int)).toNat = m ^^^ n := by
    rw [BitVec.ofInt_natCast, BitVec.ofInt_natCast, BitVec.toNat_xor, BitVec.toNat_ofNat, BitVec.toNat_ofNat, hm', hn']
  have e2 : Go.bits .xor .i64 (m : Int) (n : Int) = IntKind.i64.wrap ((BitVec.ofInt 64 (m : Int) ^^^ BitVec.ofInt 64 (n : Int)).toNat : Int) := rfl
  rw [e2, e, IntKind.wrap_i64]
  omega
theorem tmod_range (x n : Int) (h0 : 0 ≤ x) (hn : 1 ≤ n) : 0 ≤ Int.tmod x n ∧ Int.tmod x n < n := by
  rw [Int.tmod_eq_emod_of_nonneg h0]
  exact ⟨Int.emod_nonneg _ (by omega), Int.emod_lt_of_pos _ (by omega)⟩
theorem pick_tot (b : List Int) (hb : Drawer b) (p n : Int) (hp : 0 ≤ p) (hp2 : p ≤ 1000000) :
    Tot (fun k => spec_l40Rd_pick.f k b p n) (fun r => r.2 = p + 1 ∧ 0 ≤ r.1 ∧ (1 ≤ n → r.1 < n)) := by
  obtain ⟨hl, hbb⟩ := hb
  have w1 : wrap64 (p + 1) = p + 1 := w_id (by omega) (by omega)
  have w2 : wrap64 (p + 1 - 1) = p := by rw [w_id (by omega) (by omega)]; omega
  have byte : ∀ z : Int, 0 ≤ z → z < (b.length : Int) → 0 ≤ rd b z ∧ rd b z ≤ 255 := by
    intro z h0 h1
    obtain ⟨m, rfl⟩ := Int.eq_ofNat_of_zero_le h0
    exact hbb m (by omega)
  unfold spec_l40Rd_pick.f
  rw [w1]
  refine Tot.ite (fun hn => ?_) (fun hn => ?_)
  · refine Tot.step (Tot.pos rfl (Tot.val ?_)) (fun k => spec_l40Rd_pick.j0.eq_2 ..)
    exact ⟨rfl, Int.le_refl _, fun h => by omega⟩
  · refine Tot.step ?_ (fun k => spec_l40Rd_pick.j0.eq_2 ..)
    refine Tot.ite (fun hz => Tot.val ⟨rfl, Int.le_refl _, fun h => by show (0 : Int) < n; omega⟩) (fun hz => ?_)
    have hlen : (b.length : Int) ≠ 0 := by simpa using hz
    rw [w2]
    refine Tot.ite (fun hpl => ?_) (fun hpl => ?_)
    · obtain ⟨y0, y1⟩ := byte p hp hpl
      refine Tot.pos hp (Tot.neg (by omega) (Tot.val ?_))
      rw [w_id (by omega) (by omega)]
      obtain ⟨z0, z1⟩ := tmod_range (rd b p) n y0 (by omega)
      exact ⟨rfl, z0, fun _ => z1⟩
    · obtain ⟨i0, i1⟩ := tmod_range p (b.length : Int) hp (by omega)
      have w3 : wrap64 (p * 7) = p * 7 := w_id (by omega) (by omega)
      have w4 : wrap64 (p * 7 + 3) = p * 7 + 3 := w_id (by omega) (by omega)
      rw [w3, w4]
      obtain ⟨j0, j1⟩ := tmod_range (p * 7 + 3) (b.length : Int) (by omega) (by omega)
      refine Tot.neg (by omega) (Tot.pos i0 (Tot.pos i1 (Tot.pos j0 (Tot.pos j1 (Tot.neg (by omega) (Tot.val ?_))))))
      obtain ⟨u0, u1⟩ := byte _ i0 i1
      obtain ⟨v0, v1⟩ := byte _ j0 j1
      generalize rd b (Int.tmod p (b.length : Int)) = u at u0 u1 ⊢
      generalize rd b (Int.tmod (p * 7 + 3) (b.length : Int)) = v at v0 v1 ⊢
      have q0 : 0 ≤ Int.tdiv p (b.length : Int) ∧ Int.tdiv p (b.length : Int) ≤ p := by
        rw [Int.tdiv_eq_ediv_of_nonneg hp]
        exact ⟨Int.ediv_nonneg hp (by omega), Int.ediv_le_self _ hp⟩
      generalize Int.tdiv p (b.length : Int) = q at q0 ⊢
      rw [w_id (x := u) (by omega) (by omega), w_id (x := v) (by omega) (by omega), w_id (x := q) (by omega) (by omega), w_id (x := u * 131) (by omega) (by omega), w_id (x := v * 1117) (by omega) (by omega),
        w_id (x := p * 29) (by omega) (by omega), w_id (x := q * 53) (by omega) (by omega), w_id (x := u * 131 + v * 1117) (by omega) (by omega), w_id (x := u * 131 + v * 1117 + p * 29) (by omega) (by omega), w_id (x := u * 131 + v * 1117 + p * 29 + q * 53) (by omega) (by omega)]
      generalize hA : u * 131 + v * 1117 + p * 29 + q * 53 = A
      have hA0 : 0 ≤ A ∧ A ≤ 1000000000 := by omega
      have hd : 0 ≤ Int.tdiv A 64 ∧ Int.tdiv A 64 ≤ A := by
        rw [Int.tdiv_eq_ediv_of_nonneg hA0.1]
        omega
      rw [w_id (x := Int.tdiv A 64) (by omega) (by omega)]
      have hx := xor_nonneg A (Int.tdiv A 64) hA0.1 (by omega) hd.1 (by omega)
      obtain ⟨z0, z1⟩ := tmod_range _ n hx (by omega)
      exact ⟨rfl, z0, fun _ => z1⟩
theorem num_tot (b : List Int) (hb : Drawer b) (p : Int) (l : List Int) (hp : 0 ≤ p) (hp2 : p ≤ 1000000) (hl : 1 ≤ l.length) :
    Tot (fun k => spec_l40Rd_num.f k b p l) (fun r => r.2 = p + 1 ∧ r.1 ∈ l) := by
  unfold spec_l40Rd_num.f
  refine Tot.bind (pick_tot b hb p (l.length : Int) hp hp2) ?_
  rintro ⟨x, q⟩ ⟨h1, h2, h3⟩
  have h4 := h3 (by omega)
  refine Tot.pos h2 (Tot.pos h4 (Tot.val ⟨h1, ?_⟩))
  show rd l x ∈ l
  obtain ⟨m, rfl⟩ := Int.eq_ofNat_of_zero_le h2
  rw [rd_lt (by show m < _; simp only at h4; omega)]
  exact List.getElem_mem _
theorem open_tot (code : List Int) (hc : ∀ x ∈ code, (Lit.int .u8 x).wf = true) : ∃ b, spec_l40Open.f code = some (b, 0) ∧ Drawer b := by
  have byte : ∀ b : List Int, (∀ x ∈ b, x ∈ code) → ∀ j : Nat, j < b.length → 0 ≤ rd b (j : Int) ∧ rd b (j : Int) ≤ 255 := by
    intro b hs j hj
    rw [rd_lt hj]
    have := hc _ (hs _ (List.getElem_mem hj))
    simp [Lit.wf, IntKind.min, IntKind.max, IntKind.signed, IntKind.bits] at this
    omega
  unfold spec_l40Open.f
  by_cases c : (code.length : Int) > 2000
  · rw [if_pos c, if_pos (by omega)]
    refine ⟨_, rfl, by simp; omega, byte _ (fun x hx => List.mem_of_mem_take hx)⟩
  · rw [if_neg c]
    exact ⟨_, rfl, by omega, byte _ (fun x hx => hx)⟩
/-! #### diagrams, plainly: forks that are added once -/
/-- A tree of decisions over places. -/
inductive DT where
  | leaf (n : Int)
  | fork (v : Int) (lo hi : DT)
def dfind (L : List S71) (x : S71) : Option Nat := L.findIdx? (fun y => decide (y = x))
def dadd (L : List S71) (v lo hi : Int) : List S71 × Int :=
  if lo < 0 ∨ hi < 0 then (L, -1) else if lo = hi then (L, lo) else
  match dfind L ⟨v, lo, hi⟩ with
  | some i => (L, (i : Int) + 2)
  | none => if 2000 ≤ L.length then (L, -1) else (L ++ [⟨v, lo, hi⟩], (L.length : Int) + 2)
def ins (L : List S71) : DT → List S71 × Int
  | .leaf n => (L, n)
  | .fork v lo hi => if (ins L lo).2 < 0 then (L, -1) else dadd (ins (ins L lo).1 hi).1 v (ins L lo).2 (ins (ins L lo).1 hi).2
theorem dfind_some {L : List S71} {x : S71} {i : Nat} (h : dfind L x = some i) : L[i]? = some x := by
  unfold dfind at h
  rw [List.findIdx?_eq_some_iff_getElem] at h
  obtain ⟨hi, h1, _⟩ := h
  rw [List.getElem?_eq_getElem hi]
  exact congrArg some (of_decide_eq_true h1)
theorem dfind_none {L : List S71} {x : S71} (h : dfind L x = none) : x ∉ L := by
  unfold dfind at h
  rw [List.findIdx?_eq_none_iff] at h
  intro hx
  have := h x hx
  simp at this
theorem dfind_append {L : List S71} {x : S71} {i : Nat} (h : dfind L x = some i) (t : List S71) : dfind (L ++ t) x = some i := by
  unfold dfind at h ⊢
  rw [List.findIdx?_append, h]
  rfl
theorem dfind_new {L : List S71} {x : S71} (h : dfind L x = none) (t : List S71) : dfind (L ++ x :: t) x = some L.length := by
  unfold dfind at h ⊢
  rw [List.findIdx?_append, h, List.findIdx?_cons]
  simp
def NoDup (L : List S71) : Prop := ∀ (i : Nat) x, L[i]? = some x → x ∉ L.take i
theorem neg1 {a : List S71} (h : 0 ≤ (a, (-1 : Int)).2) : False := absurd (show (0 : Int) ≤ -1 from h) (by decide)
theorem dadd_ext (L : List S71) (v lo hi : Int) : L <+: (dadd L v lo hi).1 := by
  unfold dadd
  split
  · exact List.prefix_refl _
  split
  · exact List.prefix_refl _
  split
  · exact List.prefix_refl _
  split
  · exact List.prefix_refl _
  · exact List.prefix_append _ _
theorem ins_ext (L : List S71) (t : DT) : L <+: (ins L t).1 := by
  induction t generalizing L with
  | leaf n => exact List.prefix_refl _
  | fork v lo hi ihl ihh =>
    unfold ins
    split
    · exact List.prefix_refl _
    · exact (ihl L).trans ((ihh _).trans (dadd_ext _ _ _ _))
theorem dadd_nn {L : List S71} {v lo hi : Int} (h : 0 ≤ (dadd L v lo hi).2) : 0 ≤ lo ∧ 0 ≤ hi := by
  unfold dadd at h
  by_cases c1 : lo < 0 ∨ hi < 0
  · rw [if_pos c1] at h
    exact (neg1 h).elim
  · omega
/-- The variable of a place; c at constants. -/
def dvar (c : Int) (L : List S71) (n : Int) : Int := if n < 2 then c else (L.getD (n - 2).toNat ⟨0, 0, 0⟩).f0
def Pl (L : List S71) (n : Int) : Prop := 0 ≤ n ∧ n ≤ (L.length : Int) + 1
structure DV (vars : Int) (L : List S71) : Prop where
  v0 : 0 ≤ vars
  v12 : vars ≤ 12
  len : L.length ≤ 2000
  nd : NoDup L
  ok : ∀ (i : Nat) x, L[i]? = some x → 0 ≤ x.f0 ∧ x.f0 < vars ∧ 0 ≤ x.f1 ∧ x.f1 ≤ (i : Int) + 1 ∧ 0 ≤ x.f2 ∧ x.f2 ≤ (i : Int) + 1 ∧ x.f1 ≠ x.f2 ∧ x.f0 < dvar vars L x.f1 ∧ x.f0 < dvar vars L x.f2
theorem Pl.ext {L L2 : List S71} {n : Int} (h : Pl L n) (he : L <+: L2) : Pl L2 n := ⟨h.1, by have := he.length_le; have := h.2; omega⟩
theorem getD_ext {L L2 : List S71} (he : L <+: L2) {i : Nat} (h : i < L.length) (z : S71) : L2.getD i z = L.getD i z := by
  obtain ⟨t, rfl⟩ := he
  rw [List.getD_eq_getElem?_getD, List.getD_eq_getElem?_getD, List.getElem?_append_left h]
theorem dvar_ext {c : Int} {L L2 : List S71} {n : Int} (h : Pl L n) (he : L <+: L2) : dvar c L2 n = dvar c L n := by
  unfold dvar
  by_cases h2 : n < 2
  · rw [if_pos h2, if_pos h2]
  · rw [if_neg h2, if_neg h2, getD_ext he (by have := h.2; omega)]
/-- The fork at a place that is none of the constants. -/
theorem DV.at_ {vars : Int} {L : List S71} (h : DV vars L) {n : Int} (hp : Pl L n) (h2 : ¬ n < 2) : ∃ x, L[(n - 2).toNat]? = some x ∧ L.getD (n - 2).toNat ⟨0, 0, 0⟩ = x ∧ dvar vars L n = x.f0 ∧ 0 ≤ x.f0 ∧ x.f0 < vars ∧ Pl L x.f1 ∧ Pl L x.f2 ∧ x.f1 < n ∧ x.f2 < n ∧ x.f1 ≠ x.f2 ∧ x.f0 < dvar vars L x.f1 ∧ x.f0 < dvar vars L x.f2 := by
  have hl : (n - 2).toNat < L.length := by have := hp.2; omega
  have hx : L[(n - 2).toNat]? = some L[(n - 2).toNat] := List.getElem?_eq_getElem hl
  obtain ⟨a1, a2, a3, a4, a5, a6, a7, a8, a9⟩ := h.ok _ _ hx
  have hd : L.getD (n - 2).toNat ⟨0, 0, 0⟩ = L[(n - 2).toNat] := by rw [List.getD_eq_getElem?_getD, hx]; rfl
  refine ⟨_, hx, hd, ?_, a1, a2, ⟨a3, ?_⟩, ⟨a5, ?_⟩, ?_, ?_, a7, a8, a9⟩
  · unfold dvar
    rw [if_neg h2, hd]
  all_goals (have := hp.2; omega)
theorem DV.dvar_le {vars : Int} {L : List S71} (h : DV vars L) {n : Int} (hp : Pl L n) : 0 ≤ dvar vars L n ∧ dvar vars L n ≤ vars := by
  by_cases h2 : n < 2
  · unfold dvar
    rw [if_pos h2]
    exact ⟨h.v0, Int.le_refl _⟩
  · obtain ⟨x, _, _, e, a, b, _⟩ := h.at_ hp h2
    omega
theorem dv_dadd {vars : Int} {L : List S71} (h : DV vars L) {v lo hi : Int} (hl : Pl L lo) (hh : Pl L hi) (v0 : 0 ≤ v) (v1 : v < vars) (hvl : v < dvar vars L lo) (hvh : v < dvar vars L hi) :
    DV vars (dadd L v lo hi).1 ∧ (0 ≤ (dadd L v lo hi).2 → Pl (dadd L v lo hi).1 (dadd L v lo hi).2 ∧ v ≤ dvar vars (dadd L v lo hi).1 (dadd L v lo hi).2) := by
  unfold dadd
  by_cases c1 : lo < 0 ∨ hi < 0
  · rw [if_pos c1]
    exact ⟨h, fun hn => (neg1 hn).elim⟩
  rw [if_neg c1]
  by_cases c2 : lo = hi
  · rw [if_pos c2]
    exact ⟨h, fun _ => ⟨hl, Int.le_of_lt hvl⟩⟩
  rw [if_neg c2]
  cases hf : dfind L ⟨v, lo, hi⟩ with
  | some i =>
    have hx := dfind_some hf
    obtain ⟨hi, _⟩ := List.getElem?_eq_some_iff.1 hx
    have hp : Pl L ((i : Int) + 2) := ⟨by omega, by omega⟩
    refine ⟨h, fun _ => ⟨hp, ?_⟩⟩
    show v ≤ dvar vars L ((i : Int) + 2)
    unfold dvar
    rw [if_neg (by omega), show ((i : Int) + 2 - 2).toNat = i by omega, List.getD_eq_getElem?_getD, hx]
    exact Int.le_refl _
  | none =>
    simp only
    by_cases c3 : 2000 ≤ L.length
    · rw [if_pos c3]
      exact ⟨h, fun hn => (neg1 hn).elim⟩
    rw [if_neg c3]
    have he : L <+: L ++ [⟨v, lo, hi⟩] := List.prefix_append _ _
    refine ⟨⟨h.v0, h.v12, by simp; omega, ?_, ?_⟩, fun _ => ⟨⟨by simp; omega, by simp; omega⟩, ?_⟩⟩
    · intro i x hx hm
      by_cases hil : i < L.length
      · rw [List.getElem?_append_left hil] at hx
        rw [List.take_append_of_le_length (by omega)] at hm
        exact h.nd i x hx hm
      · have hil : i = L.length := by
          have := (List.getElem?_eq_some_iff.1 hx).1
          simp at this
          omega
        subst hil
        have ex : x = ⟨v, lo, hi⟩ := by simpa using hx.symm
        subst ex
        rw [List.take_append_of_le_length (Nat.le_refl _), List.take_length] at hm
        exact dfind_none hf hm
    · intro i x hx
      by_cases hil : i < L.length
      · rw [List.getElem?_append_left hil] at hx
        obtain ⟨a1, a2, a3, a4, a5, a6, a7, a8, a9⟩ := h.ok _ _ hx
        have p1 : Pl L x.f1 := ⟨a3, by omega⟩
        have p2 : Pl L x.f2 := ⟨a5, by omega⟩
        rw [dvar_ext p1 he, dvar_ext p2 he]
        exact ⟨a1, a2, a3, a4, a5, a6, a7, a8, a9⟩
      · have hil : i = L.length := by
          have := (List.getElem?_eq_some_iff.1 hx).1
          simp at this
          omega
        subst hil
        have ex : x = ⟨v, lo, hi⟩ := by simpa using hx.symm
        subst ex
        refine ⟨v0, v1, hl.1, hl.2, hh.1, hh.2, c2, ?_, ?_⟩
        · rw [dvar_ext hl he]
          exact hvl
        · rw [dvar_ext hh he]
          exact hvh
    · show v ≤ dvar vars _ ((L.length : Int) + 2)
      unfold dvar
      rw [if_neg (by omega), show ((L.length : Int) + 2 - 2).toNat = L.length by omega, List.getD_eq_getElem?_getD]
      simp
/-- A tree whose leaves are places, its variables from m on, ascending. -/
def TOk (vars : Int) (L : List S71) : Int → DT → Prop
  | m, .leaf n => Pl L n ∧ m ≤ dvar vars L n
  | m, .fork v lo hi => m ≤ v ∧ 0 ≤ v ∧ v < vars ∧ TOk vars L (v + 1) lo ∧ TOk vars L (v + 1) hi
theorem TOk.ext {vars : Int} {L L2 : List S71} (he : L <+: L2) {t : DT} : ∀ {m : Int}, TOk vars L m t → TOk vars L2 m t := by
  induction t with
  | leaf n =>
    intro m h
    exact ⟨h.1.ext he, by rw [dvar_ext h.1 he]; exact h.2⟩
  | fork v lo hi ihl ihh =>
    intro m h
    exact ⟨h.1, h.2.1, h.2.2.1, ihl h.2.2.2.1, ihh h.2.2.2.2⟩
theorem dv_ins {vars : Int} {t : DT} : ∀ {L : List S71} {m : Int}, DV vars L → TOk vars L m t → DV vars (ins L t).1 ∧ (0 ≤ (ins L t).2 → Pl (ins L t).1 (ins L t).2 ∧ m ≤ dvar vars (ins L t).1 (ins L t).2) := by
  induction t with
  | leaf n =>
    intro L m h ht
    exact ⟨h, fun _ => ht⟩
  | fork v lo hi ihl ihh =>
    intro L m h ht
    obtain ⟨t1, t2, t3, t4, t5⟩ := ht
    unfold ins
    by_cases c : (ins L lo).2 < 0
    · rw [if_pos c]
      exact ⟨h, fun hn => (neg1 hn).elim⟩
    rw [if_neg c]
    obtain ⟨d1, p1⟩ := ihl h t4
    obtain ⟨p1, q1⟩ := p1 (by omega)
    obtain ⟨d2, p2⟩ := ihh d1 (t5.ext (ins_ext _ _))
    by_cases c2 : (ins (ins L lo).1 hi).2 < 0
    · have : dadd (ins (ins L lo).1 hi).1 v (ins L lo).2 (ins (ins L lo).1 hi).2 = ((ins (ins L lo).1 hi).1, -1) := by
        unfold dadd
        rw [if_pos (.inr c2)]
      rw [this]
      exact ⟨d2, fun hn => (neg1 hn).elim⟩
    obtain ⟨p2, q2⟩ := p2 (by omega)
    have he := ins_ext (ins L lo).1 hi
    obtain ⟨r1, r2⟩ := dv_dadd d2 (p1.ext he) p2 t2 t3 (by rw [dvar_ext p1 he]; omega) (by omega)
    exact ⟨r1, fun hn => ⟨(r2 hn).1, Int.le_trans t1 (r2 hn).2⟩⟩
/-! #### the reference's diagrams -/
theorem l1In_val (a b c : Int) : spec_l1In.f a b c = some (decide (b ≤ a ∧ a ≤ c)) := by
  unfold spec_l1In.f
  by_cases h : a ≥ b
  · rw [if_pos h]
    congr 1
    rw [decide_eq_decide]
    constructor
    · intro h2; exact ⟨h, h2⟩
    · intro h2; exact h2.2
  · rw [if_neg h]
    congr 1
    symm
    rw [decide_eq_false_iff_not]
    intro h2
    exact h h2.1
theorem rdF {L : List S71} {i : Nat} (h : i < L.length) : rd_T71 L (i : Int) = L[i] := by
  unfold rd_T71
  rw [Int.toNat_natCast, List.getD_eq_getElem?_getD, List.getElem?_eq_getElem h]
  rfl
theorem rdP {L : List S71} (n : Int) : rd_T71 L (n - 2) = L.getD (n - 2).toNat ⟨0, 0, 0⟩ := rfl
/-- What the reference asks of a fork, the places of which are ahead of it. -/
def FOk (vars : Int) (L : List S71) (x : S71) (most : Int) : Prop := (0 ≤ x.f0 ∧ x.f0 ≤ vars - 1) ∧ (0 ≤ x.f1 ∧ x.f1 ≤ most) ∧ (0 ≤ x.f2 ∧ x.f2 ≤ most) ∧ x.f0 < dvar vars L x.f1 ∧ x.f0 < dvar vars L x.f2
/-- What is asked of the fork at i. -/
def OkAt (vars : Int) (L : List S71) (i : Nat) (h : i < L.length) : Prop := FOk vars L L[i] ((i : Int) + 1) ∧ L[i].f1 ≠ L[i].f2 ∧ L[i] ∉ L.take i
theorem dv_iff (vars : Int) (L : List S71) : DV vars L ↔ (0 ≤ vars ∧ vars ≤ 12) ∧ L.length ≤ 2000 ∧ ∀ i (h : i < L.length), OkAt vars L i h := by
  constructor
  · intro h
    refine ⟨⟨h.v0, h.v12⟩, h.len, fun i hi => ?_⟩
    obtain ⟨a1, a2, a3, a4, a5, a6, a7, a8, a9⟩ := h.ok i _ (List.getElem?_eq_getElem hi)
    exact ⟨⟨⟨a1, by omega⟩, ⟨a3, a4⟩, ⟨a5, a6⟩, a8, a9⟩, a7, h.nd i _ (List.getElem?_eq_getElem hi)⟩
  · rintro ⟨⟨h1, h2⟩, h3, h4⟩
    refine ⟨h1, h2, h3, fun i x hx => ?_, fun i x hx => ?_⟩
    · obtain ⟨hi, rfl⟩ := List.getElem?_eq_some_iff.1 hx
      exact (h4 i hi).2.2
    · obtain ⟨hi, rfl⟩ := List.getElem?_eq_some_iff.1 hx
      obtain ⟨⟨a1, a2, a3, a4, a5⟩, b, _⟩ := h4 i hi
      exact ⟨a1.1, by omega, a2.1, a2.2, a3.1, a3.2, b, a4, a5⟩
theorem dfind_no {L : List S71} {x : S71} (hn : ∀ q (hq : q < L.length), L[q] ≠ x) : dfind L x = none := by
  unfold dfind
  rw [List.findIdx?_eq_none_iff]
  intro y hy
  obtain ⟨q, hq, rfl⟩ := List.mem_iff_getElem.1 hy
  simpa using hn q hq
/-! #### the program's diagrams -/
theorem in_val (a b c : Int) : impl_in.f a b c = some (decide (b ≤ a ∧ a ≤ c)) := by
  unfold impl_in.f
  by_cases h : a ≥ b
  · rw [if_pos h]
    congr 1
    rw [decide_eq_decide]
    constructor
    · intro h2; exact ⟨h, h2⟩
    · intro h2; exact h2.2
  · rw [if_neg h]
    congr 1
    symm
    rw [decide_eq_false_iff_not]
    intro h2
    exact h h2.1
theorem varAt_val (a : Int) {L : List S71} {n : Int} (hp : Pl L n) (hl : L.length ≤ 1000000000) : impl_Diagram_varAt.f a L n = some (dvar 12 L n) := by
  unfold impl_Diagram_varAt.f dvar
  have h1 := hp.1
  have h2 := hp.2
  by_cases h : n < 2
  · rw [if_pos h, if_pos h]
  · rw [if_neg h, if_neg h, w_id (by omega) (by omega), if_pos (by omega), if_pos (by omega), rdP]
def decPl (L : List S71) (n : Int) : Decidable (Pl L n) := inferInstanceAs (Decidable (_ ∧ _))
theorem isPlace_val (a : Int) {L : List S71} (n : Int) (hl : L.length ≤ 1000000000) : impl_Diagram_isPlace.f a L n = some (@decide (Pl L n) (decPl L n)) := by
  unfold impl_Diagram_isPlace.f
  rw [in_val, w_id (by omega) (by omega)]
  rfl
/-- Where variables are few, it is the same to what the constants are held. -/
theorem dvar_lt {vars v : Int} (L : List S71) (n : Int) (h : v < vars) (h12 : vars ≤ 12) : v < dvar 12 L n ↔ v < dvar vars L n := by
  unfold dvar
  split
  · omega
  · exact Iff.rfl
theorem keyI {n : Int} (h : 0 ≤ n) (h2 : n ≤ 1000000000) : KeyI n := ⟨h, by omega⟩
theorem iv_bad (vars : Int) (L : List S71) (hv : 0 ≤ vars ∧ vars ≤ 12) (hl : L.length ≤ 2000) (i : Nat) (hi : i < L.length) : ∃ b, impl_DiagramValid.bad vars L i L[i] = some b ∧ (b = false ↔ OkAt vars L i hi) := by
  unfold impl_DiagramValid.bad OkAt FOk
  simp only [in_val, Option.bind_some, w_id (show -9223372036854775808 ≤ vars - 1 by omega) (by omega), w_id (show -9223372036854775808 ≤ (i : Int) + 1 by omega) (by omega), decide_eq_false_iff_not]
  by_cases c1 : 0 ≤ L[i].f0 ∧ L[i].f0 ≤ vars - 1
  · rw [if_neg (by simpa using c1)]
    by_cases c2 : 0 ≤ L[i].f1 ∧ L[i].f1 ≤ (i : Int) + 1
    · rw [if_neg (by simpa using c2)]
      by_cases c3 : 0 ≤ L[i].f2 ∧ L[i].f2 ≤ (i : Int) + 1
      · rw [if_neg (by simpa using c3)]
        have p1 : Pl L L[i].f1 := ⟨c2.1, by omega⟩
        have p2 : Pl L L[i].f2 := ⟨c3.1, by omega⟩
        by_cases c4 : L[i].f1 = L[i].f2
        · rw [if_pos c4]
          exact ⟨true, rfl, fun h => (by cases h), fun h => absurd c4 h.2.1⟩
        · rw [if_neg c4, varAt_val _ p1 (by omega), Option.bind_some]
          by_cases c5 : dvar 12 L L[i].f1 ≤ L[i].f0
          · rw [if_pos c5]
            exact ⟨true, rfl, fun h => (by cases h), fun h => absurd ((dvar_lt L _ (by omega) hv.2).2 h.1.2.2.2.1) (by omega)⟩
          · rw [if_neg c5, varAt_val _ p2 (by omega), Option.bind_some]
            by_cases c6 : dvar 12 L L[i].f2 ≤ L[i].f0
            · rw [if_pos c6]
              exact ⟨true, rfl, fun h => (by cases h), fun h => absurd ((dvar_lt L _ (by omega) hv.2).2 h.1.2.2.2.2) (by omega)⟩
            · rw [if_neg c6, if_pos ⟨keyI c1.1 (by omega), keyI c2.1 (by omega), keyI c3.1 (by omega)⟩]
              refine ⟨_, rfl, ?_⟩
              rw [decide_eq_false_iff_not]
              exact ⟨fun h => ⟨⟨c1, c2, c3, (dvar_lt L _ (by omega) hv.2).1 (by omega), (dvar_lt L _ (by omega) hv.2).1 (by omega)⟩, c4, h⟩, fun h => h.2.2⟩
      · rw [if_pos (by simpa using c3)]
        exact ⟨true, rfl, fun h => (by cases h), fun h => absurd h.1.2.2.1 c3⟩
    · rw [if_pos (by simpa using c2)]
      exact ⟨true, rfl, fun h => (by cases h), fun h => absurd h.1.2.1 c2⟩
  · rw [if_pos (by simpa using c1)]
    exact ⟨true, rfl, fun h => (by cases h), fun h => absurd h.1.1 c1⟩
theorem iv_l0 (vars : Int) (L : List S71) (hv : 0 ≤ vars ∧ vars ≤ 12) (hl : L.length ≤ 2000) : ∀ (d i : Nat), i + d = L.length → ∃ b, impl_DiagramValid.l0 vars L d i = some b ∧ (b = true ↔ ∀ q (h : q < L.length), i ≤ q → OkAt vars L q h) := by
  intro d
  induction d with
  | zero =>
    intro i hi
    exact ⟨true, rfl, fun _ q h hq => absurd h (by omega), fun _ => rfl⟩
  | succ d ih =>
    intro i hi
    have hil : i < L.length := by omega
    obtain ⟨rest, er, hr⟩ := ih (i + 1) (by omega)
    obtain ⟨b, eb, hb⟩ := iv_bad vars L hv hl i hil
    unfold impl_DiagramValid.l0
    rw [rdF hil, eb, Option.bind_some]
    cases b with
    | true =>
      refine ⟨false, rfl, fun h => (by cases h), fun h => ?_⟩
      exact absurd (hb.2 (h i hil (Nat.le_refl _))) (by decide)
    | false =>
      refine ⟨rest, er, ?_⟩
      rw [hr]
      constructor
      · intro h q hq hq2
        by_cases c : i = q
        · subst c
          exact hb.1 rfl
        · exact h q hq (by omega)
      · intro h q hq hq2
        exact h q hq (by omega)
theorem impl_dv (vars : Int) (L : List S71) : ∃ b, impl_DiagramValid.f vars L = some b ∧ (b = true ↔ DV vars L) := by
  unfold impl_DiagramValid.f
  simp only [in_val, Option.bind_some]
  by_cases c1 : 0 ≤ vars ∧ vars ≤ 12
  · rw [if_neg (by simpa using c1)]
    by_cases c2 : (L.length : Int) > 2000
    · rw [if_pos c2]
      exact ⟨false, rfl, fun h => (by cases h), fun h => by have := h.len; omega⟩
    · rw [if_neg c2]
      obtain ⟨b, hb, h2⟩ := iv_l0 vars L c1 (by omega) L.length 0 (by omega)
      refine ⟨b, hb, ?_⟩
      rw [h2, dv_iff]
      exact ⟨fun h => ⟨c1, by omega, fun i hi => h i hi (Nat.zero_le _)⟩, fun h q hq _ => h.2.2 q hq⟩
  · rw [if_pos (by simpa using c1)]
    exact ⟨false, rfl, fun h => (by cases h), fun h => absurd ⟨h.v0, h.v12⟩ c1⟩
/-- Where each fork stands. -/
def seenP (L : List S71) (x : S71) : Option Int := (dfind L x).map (fun i => (i : Int) + 2)
theorem seen_take {L : List S71} (hn : NoDup L) : ∀ i, i ≤ L.length → impl_forkingOf.seen L i = seenP (L.take i) := by
  intro i
  induction i with
  | zero =>
    intro _
    funext x
    rfl
  | succ i ih =>
    intro hi
    have hil : i < L.length := by omega
    funext x
    show (if x = rd_T71 L (i : Int) then some ((i : Int) + 2) else impl_forkingOf.seen L i x) = _
    rw [rdF hil, ih (by omega)]
    have e : L.take (i + 1) = L.take i ++ [L[i]] := by
      rw [List.take_add_one, List.getElem?_eq_getElem hil]
      rfl
    have hlen : (L.take i).length = i := by rw [List.length_take]; omega
    have hno : dfind (L.take i) L[i] = none := by
      cases hd : dfind (L.take i) L[i] with
      | none => rfl
      | some j =>
        have := dfind_some hd
        exact absurd (List.mem_of_getElem? this) (hn i _ (List.getElem?_eq_getElem hil))
    unfold seenP
    rw [e]
    by_cases c : x = L[i]
    · rw [if_pos c, c, dfind_new hno []]
      simp [hlen]
    · rw [if_neg c]
      cases hd : dfind (L.take i) x with
      | some j => rw [dfind_append hd]
      | none =>
        have : dfind (L.take i ++ [L[i]]) x = none := dfind_no (fun q hq e2 => by
          by_cases hqi : q < (L.take i).length
          · rw [List.getElem_append_left hqi] at e2
            exact dfind_none hd (e2 ▸ List.getElem_mem hqi)
          · have hq' : q = (L.take i).length := by
              have := hq
              rw [List.length_append, List.length_singleton] at this
              omega
            subst hq'
            rw [List.getElem_append_right (Nat.le_refl _)] at e2
            simp at e2
            exact c e2.symm)
        rw [this]
theorem okF_of {vars : Int} {L : List S71} (h : DV vars L) {x : S71} (hx : x ∈ L) : okF x := by
  obtain ⟨i, hi⟩ := List.mem_iff_getElem?.1 hx
  obtain ⟨a1, a2, a3, a4, a5, a6, _⟩ := h.ok i x hi
  have := h.v12
  have := (List.getElem?_eq_some_iff.1 hi).1
  have := h.len
  exact ⟨keyI a1 (by omega), keyI a3 (by omega), keyI a5 (by omega)⟩
/-- A diagram that grows, as the program holds it: nothing is done with it yet that is not so. -/
def fs0 (vars : Int) (L : List S71) : FS := ⟨vars, L, seenP L, false, fun _ => none⟩
theorem clone_val (L : List S71) (h : L.length ≤ 1000000000) : impl_Fork_97.f L = some L := by
  unfold impl_Fork_97.f
  simp only [Option.bind_some, List.length_nil, List.nil_append]
  rw [if_pos (by omega)]
theorem clone2_val (L : List S71) (h : L.length ≤ 1000000000) : impl_Fork_98.f L = some L := by
  unfold impl_Fork_98.f
  rw [if_pos (by omega)]
theorem forkingOf_val {vars : Int} {L : List S71} (h : DV vars L) : impl_forkingOf.f vars L = some (fs0 vars L) := by
  unfold impl_forkingOf.f
  rw [clone_val L (by have := h.len; omega), Option.bind_some, if_pos (fun x hx => okF_of h hx), seen_take h.nd _ (Nat.le_refl _), List.take_length]
  rfl
theorem fork_val (s : FS) (v lo hi : Int) (hk : okF ⟨v, lo, hi⟩) (hlo : 0 ≤ lo) (hhi : 0 ≤ hi) (hs : s.seen = seenP s.forks) :
    ∃ s' r, impl_forking_fork.f s v lo hi = some (s', r) ∧ s'.vars = s.vars ∧ s'.memo = s.memo ∧ s'.seen = seenP s'.forks ∧ s'.forks = (dadd s.forks v lo hi).1 ∧ (if (dadd s.forks v lo hi).2 < 0 then s'.full = true ∧ r = 0 else s'.full = s.full ∧ r = (dadd s.forks v lo hi).2) := by
  unfold impl_forking_fork.f dadd
  rw [if_neg (show ¬ (lo < 0 ∨ hi < 0) by omega)]
  by_cases c1 : lo = hi
  · rw [if_pos c1, if_pos c1]
    exact ⟨s, lo, rfl, rfl, rfl, hs, rfl, by rw [if_neg (by omega)]; exact ⟨rfl, rfl⟩⟩
  rw [if_neg c1, if_neg c1, if_pos hk, hs]
  cases hd : dfind s.forks ⟨v, lo, hi⟩ with
  | some i =>
    have e : seenP s.forks ⟨v, lo, hi⟩ = some ((i : Int) + 2) := by unfold seenP; rw [hd]; rfl
    rw [e]
    exact ⟨s, _, rfl, rfl, rfl, hs, rfl, by rw [if_neg (by show ¬ ((_ : Nat) : Int) + 2 < 0; omega)]; exact ⟨rfl, rfl⟩⟩
  | none =>
    have e : seenP s.forks ⟨v, lo, hi⟩ = none := by unfold seenP; rw [hd]; rfl
    rw [e]
    by_cases c2 : 2000 ≤ s.forks.length
    · simp only
      rw [if_pos (by omega), if_pos c2]
      exact ⟨_, _, rfl, rfl, rfl, rfl, rfl, by rw [if_pos (show (-1 : Int) < 0 by decide)]; exact ⟨rfl, rfl⟩⟩
    · simp only
      rw [if_neg (by omega), if_neg c2]
      refine ⟨_, _, rfl, rfl, rfl, ?_, rfl, by rw [if_neg (by show ¬ ((_ : Nat) : Int) + 2 < 0; omega)]; exact ⟨rfl, rfl⟩⟩
      funext y
      show (if y = ⟨v, lo, hi⟩ then some ((s.forks.length : Int) + 2) else seenP s.forks y) = seenP (s.forks ++ [⟨v, lo, hi⟩]) y
      unfold seenP
      by_cases c : y = ⟨v, lo, hi⟩
      · rw [if_pos c, c, dfind_new hd []]
        rfl
      · rw [if_neg c]
        cases hy : dfind s.forks y with
        | some j => rw [dfind_append hy]
        | none =>
          have : dfind (s.forks ++ [⟨v, lo, hi⟩]) y = none := dfind_no (fun q hq e2 => by
            by_cases hqi : q < s.forks.length
            · rw [List.getElem_append_left hqi] at e2
              exact dfind_none hy (e2 ▸ List.getElem_mem hqi)
            · have hq' : q = s.forks.length := by
                have := hq
                rw [List.length_append, List.length_singleton] at this
                omega
              subst hq'
              rw [List.getElem_append_right (Nat.le_refl _)] at e2
              simp at e2
              exact c e2.symm)
          rw [this]
theorem done_val (s : FS) (n : Int) (hl : s.forks.length ≤ 2000) : impl_forking_done.f s n = some (if s.full = true then (0, [], -1) else (s.vars, s.forks, n)) := by
  unfold impl_forking_done.f
  by_cases c : s.full = true
  · rw [if_pos c, if_pos c]
  · rw [if_neg c, if_neg c, clone2_val _ (by omega)]
    rfl
/-- A diagram and a place, or nothing and -1. -/
def told (vars : Int) (p : List S71 × Int) : Int × List S71 × Int := if p.2 < 0 then (0, [], -1) else (vars, p.1, p.2)
/-! #### what is done with two places, as a tree of decisions (0 and, 1 or, 2 exactly one) -/
def gat (L : List S71) (n v : Int) (hi : Bool) : Int :=
  if n < 2 then n else if (L.getD (n - 2).toNat ⟨0, 0, 0⟩).f0 = v then (if hi = true then (L.getD (n - 2).toNat ⟨0, 0, 0⟩).f2 else (L.getD (n - 2).toNat ⟨0, 0, 0⟩).f1) else n
theorem gat_ext {L L2 : List S71} {n : Int} (h : Pl L n) (he : L <+: L2) (v : Int) (hi : Bool) : gat L2 n v hi = gat L n v hi := by
  unfold gat
  by_cases h2 : n < 2
  · rw [if_pos h2, if_pos h2]
  · rw [if_neg h2, if_neg h2, getD_ext he (by have := h.2; omega)]
theorem gat_ok {vars : Int} {L : List S71} (h : DV vars L) {n v : Int} (hp : Pl L n) (hv : v ≤ dvar vars L n) (hvv : v < vars) (hi : Bool) : Pl L (gat L n v hi) ∧ v < dvar vars L (gat L n v hi) := by
  unfold gat
  by_cases h2 : n < 2
  · rw [if_pos h2]
    refine ⟨hp, ?_⟩
    unfold dvar
    rw [if_pos h2]
    exact hvv
  · rw [if_neg h2]
    obtain ⟨x, hx, hd, e, a0, a1, p1, p2, _, _, _, q1, q2⟩ := h.at_ hp h2
    rw [hd]
    by_cases c : x.f0 = v
    · rw [if_pos c]
      cases hi with
      | true => rw [if_pos rfl]; exact ⟨p2, by omega⟩
      | false => rw [if_neg (by decide)]; exact ⟨p1, by omega⟩
    · rw [if_neg c]
      exact ⟨hp, by omega⟩
theorem dvar_two {vars : Int} {L : List S71} (h : DV vars L) {n : Int} (hp : Pl L n) : dvar vars L n < vars ↔ ¬ n < 2 := by
  constructor
  · intro h1 h2
    unfold dvar at h1
    rw [if_pos h2] at h1
    omega
  · intro h2
    obtain ⟨x, _, _, e, _, a1, _⟩ := h.at_ hp h2
    omega
theorem dvar_const {vars : Int} {L : List S71} {n : Int} (h : n < 2) : dvar vars L n = vars := by
  unfold dvar
  rw [if_pos h]
/-! #### what is done with two places: the reference and the program -/
theorem add_val (vars v lo hi : Int) (L : List S71) (hl : L.length ≤ 2000) : spec_l8Add.f vars L v lo hi = some (vars, (dadd L v lo hi).1, (dadd L v lo hi).2) := by
  unfold spec_l8Add.f dadd
  by_cases c1 : lo < 0 ∨ hi < 0
  · rw [if_pos c1, if_pos c1]
  rw [if_neg c1, if_neg c1]
  by_cases c2 : lo = hi
  · rw [if_pos c2, if_pos c2]
  rw [if_neg c2, if_neg c2, if_pos (show L.length ≤ 1000000000000 by omega)]
  show (match dfind L ⟨v, lo, hi⟩ with | some i => _ | none => _) = _
  cases dfind L ⟨v, lo, hi⟩ with
  | some i => rfl
  | none =>
    simp only
    by_cases c3 : 2000 ≤ L.length
    · rw [if_pos c3, if_pos c3]
    · rw [if_neg c3, if_neg c3]
theorem ins_fork (L : List S71) (v : Int) (lo hi : DT) : ins L (.fork v lo hi) = if (ins L lo).2 < 0 then (L, -1) else dadd (ins (ins L lo).1 hi).1 v (ins L lo).2 (ins (ins L lo).1 hi).2 := by rw [ins]
/-! #### rows of values as a tree -/
def rowsT : Nat → Int → List Int → DT
  | 0, _, vs => .leaf (rd vs 0)
  | m + 1, v, vs => .fork v (rowsT m (v + 1) (vs.take (vs.length / 2))) (rowsT m (v + 1) (vs.drop (vs.length / 2)))
def BitRow (vs : List Int) : Prop := ∀ x ∈ vs, x = 0 ∨ x = 1
theorem BitRow.take {vs : List Int} (h : BitRow vs) (n : Nat) : BitRow (vs.take n) := fun x hx => h x (List.mem_of_mem_take hx)
theorem BitRow.drop {vs : List Int} (h : BitRow vs) (n : Nat) : BitRow (vs.drop n) := fun x hx => h x (List.mem_of_mem_drop hx)
theorem half_len {vs : List Int} {m : Nat} (h : vs.length = 2 ^ (m + 1)) : (vs.take (vs.length / 2)).length = 2 ^ m ∧ (vs.drop (vs.length / 2)).length = 2 ^ m := by
  rw [List.length_take, List.length_drop, h, Nat.pow_succ]
  omega
theorem rowsT_ok {vars : Int} {L : List S71} (hL : DV vars L) : ∀ (m : Nat) (v : Int) (vs : List Int), 0 ≤ v → v + m = vars → vs.length = 2 ^ m → BitRow vs → TOk vars L v (rowsT m v vs) := by
  intro m
  induction m with
  | zero =>
    intro v vs h0 hv hl hb
    unfold rowsT
    have hm : rd vs 0 ∈ vs := by
      have : 0 < vs.length := by rw [hl]; decide
      rw [show rd vs 0 = vs[0] from rd_lt this]
      exact List.getElem_mem _
    have hx := hb _ hm
    have hd : dvar vars L (rd vs 0) = vars := by
      unfold dvar
      rw [if_pos (by omega)]
    refine ⟨⟨by omega, by omega⟩, ?_⟩
    rw [hd]
    omega
  | succ m ih =>
    intro v vs h0 hv hl hb
    obtain ⟨h1, h2⟩ := half_len hl
    unfold rowsT
    exact ⟨Int.le_refl _, h0, by omega, ih (v + 1) _ (by omega) (by omega) h1 (hb.take _), ih (v + 1) _ (by omega) (by omega) h2 (hb.drop _)⟩
theorem spec_rows {vars : Int} : ∀ (m : Nat) (L : List S71) (v : Int) (vs : List Int), DV vars L → 0 ≤ v → v + m = vars → vs.length = 2 ^ m → BitRow vs →
    Ev (fun k => spec_l8Rows.f k vars L vs v) (vars, (ins L (rowsT m v vs)).1, (ins L (rowsT m v vs)).2) := by
  intro m
  induction m with
  | zero =>
    intro L v vs h h0 hv hl hb
    refine Ev.step (Ev.pos (by omega) (Ev.pos (by rw [hl]; decide) (Ev.val _))) (fun k => spec_l8Rows.f.eq_2 ..)
  | succ m ih =>
    intro L v vs h h0 hv hl hb
    have h12 := h.v12
    obtain ⟨h1, h2⟩ := half_len hl
    have hp : (2 : Nat) ^ (m + 1) ≤ 1000000000000 := Nat.le_trans (Nat.pow_le_pow_right (by decide) (show m + 1 ≤ 12 by omega)) (by decide)
    refine Ev.step (Ev.neg (by omega) (Ev.pos (by omega) ?_)) (fun k => spec_l8Rows.f.eq_2 ..)
    rw [w_id (by omega) (by omega)]
    refine Ev.bind (ih L (v + 1) _ h (by omega) (by omega) h1 (hb.take _)) ?_
    obtain ⟨d1, _⟩ := dv_ins h (rowsT_ok h m (v + 1) _ (by omega) (by omega) h1 (hb.take _))
    rw [show rowsT (m + 1) v vs = .fork v (rowsT m (v + 1) (vs.take (vs.length / 2))) (rowsT m (v + 1) (vs.drop (vs.length / 2))) from rfl]
    rw [ins_fork]
    by_cases c4 : (ins L (rowsT m (v + 1) (vs.take (vs.length / 2)))).2 < 0
    · rw [if_pos c4]
      exact Ev.pos c4 (Ev.val _)
    rw [if_neg c4]
    obtain ⟨d2, _⟩ := dv_ins d1 (rowsT_ok d1 m (v + 1) _ (by omega) (by omega) h2 (hb.drop _))
    exact Ev.neg c4 (Ev.bind (ih _ (v + 1) _ d1 (by omega) (by omega) h2 (hb.drop _)) (Ev.const (add_val vars v _ _ _ d2.len)))
/-! #### drawn diagrams -/
theorem dv_nil {vars : Int} (h0 : 0 ≤ vars) (h12 : vars ≤ 12) : DV vars [] := ⟨h0, h12, Nat.zero_le _, fun i x hx => by simp at hx, fun i x hx => by simp at hx⟩
/-! #### the value of a place -/
def dval (vars : Int) (L : List S71) (bits : List Int) : Nat → Int → Int
  | 0, n => n
  | m + 1, n => if n < 2 then n else dval vars L bits m (gat L n (dvar vars L n) (decide (rd bits (dvar vars L n) = 1)))
theorem dval_const {vars : Int} {L : List S71} {bits : List Int} {n : Int} (h : n < 2) : ∀ m, dval vars L bits m n = n := by
  intro m
  cases m with
  | zero => rfl
  | succ m =>
    unfold dval
    rw [if_pos h]
theorem dval_same {vars : Int} {L : List S71} (h : DV vars L) (bits : List Int) : ∀ (m m2 : Nat) (n : Int), Pl L n → vars - dvar vars L n < m → vars - dvar vars L n < m2 → dval vars L bits m n = dval vars L bits m2 n := by
  intro m
  induction m with
  | zero =>
    intro m2 n p h1 _
    have := (h.dvar_le p).2
    omega
  | succ m ih =>
    intro m2 n p h1 h2
    cases m2 with
    | zero =>
      have := (h.dvar_le p).2
      omega
    | succ m2 =>
      unfold dval
      by_cases c : n < 2
      · rw [if_pos c, if_pos c]
      · rw [if_neg c, if_neg c]
        have f := gat_ok h p (Int.le_refl _) ((dvar_two h p).2 c) (decide (rd bits (dvar vars L n) = 1))
        exact ih m2 _ f.1 (by omega) (by omega)
theorem dval_ext {vars : Int} {L L2 : List S71} (h : DV vars L) (he : L <+: L2) (bits : List Int) : ∀ (m : Nat) (n : Int), Pl L n → dval vars L2 bits m n = dval vars L bits m n := by
  intro m
  induction m with
  | zero => intro n _; rfl
  | succ m ih =>
    intro n p
    unfold dval
    by_cases c : n < 2
    · rw [if_pos c, if_pos c]
    · rw [if_neg c, if_neg c, dvar_ext p he, gat_ext p he]
      exact ih _ (gat_ok h p (Int.le_refl _) ((dvar_two h p).2 c) _).1
/-- The constant to which one comes from a place. -/
def dvP (vars : Int) (L : List S71) (bits : List Int) (n : Int) : Int := dval vars L bits 13 n
theorem dvP_const {vars : Int} {L : List S71} {bits : List Int} {n : Int} (h : n < 2) : dvP vars L bits n = n := dval_const h 13
theorem dvP_ext {vars : Int} {L L2 : List S71} (h : DV vars L) (he : L <+: L2) (bits : List Int) {n : Int} (p : Pl L n) : dvP vars L2 bits n = dvP vars L bits n := dval_ext h he bits 13 n p
theorem dvP_fork {vars : Int} {L : List S71} (h : DV vars L) (bits : List Int) {n : Int} (p : Pl L n) (c : ¬ n < 2) : dvP vars L bits n = dvP vars L bits (gat L n (dvar vars L n) (decide (rd bits (dvar vars L n) = 1))) := by
  have f := gat_ok h p (Int.le_refl _) ((dvar_two h p).2 c) (decide (rd bits (dvar vars L n) = 1))
  have a0 := (h.dvar_le p).1
  have a1 := h.v12
  unfold dvP
  rw [dval.eq_2, if_neg c, dval_same h bits 12 13 _ f.1 (by omega) (by omega)]
theorem dval_01 {vars : Int} {L : List S71} (h : DV vars L) (bits : List Int) : ∀ (m : Nat) (n : Int), Pl L n → vars - dvar vars L n < m → dval vars L bits m n = 0 ∨ dval vars L bits m n = 1 := by
  intro m
  induction m with
  | zero =>
    intro n p h1
    have := (h.dvar_le p).2
    omega
  | succ m ih =>
    intro n p h1
    unfold dval
    by_cases c : n < 2
    · rw [if_pos c]
      have := p.1
      omega
    · rw [if_neg c]
      have f := gat_ok h p (Int.le_refl _) ((dvar_two h p).2 c) (decide (rd bits (dvar vars L n) = 1))
      exact ih _ f.1 (by omega)
theorem dvP_01 {vars : Int} {L : List S71} (h : DV vars L) (bits : List Int) {n : Int} (p : Pl L n) : dvP vars L bits n = 0 ∨ dvP vars L bits n = 1 := by
  have a0 := (h.dvar_le p).1
  have a1 := h.v12
  exact dval_01 h bits 13 n p (by omega)
/-- A step toward a variable that stands no later than the place's own. -/
theorem dvP_gat {vars v : Int} {L : List S71} (h : DV vars L) (bits : List Int) {n : Int} (p : Pl L n) : dvP vars L bits (gat L n v (decide (rd bits v = 1))) = dvP vars L bits n := by
  by_cases c : n < 2
  · unfold gat
    rw [if_pos c]
  · by_cases e : dvar vars L n = v
    · subst e
      exact (dvP_fork h bits p c).symm
    · have e2 : (L.getD (n - 2).toNat ⟨0, 0, 0⟩).f0 ≠ v := by
        unfold dvar at e
        rw [if_neg c] at e
        exact e
      unfold gat
      rw [if_neg c, if_neg e2]
/-- The value of a tree. -/
def tval (vars : Int) (L : List S71) (bits : List Int) : DT → Int
  | .leaf n => dvP vars L bits n
  | .fork v lo hi => if rd bits v = 1 then tval vars L bits hi else tval vars L bits lo
theorem tval_ext {vars : Int} {L L2 : List S71} (h : DV vars L) (he : L <+: L2) (bits : List Int) {t : DT} : ∀ {m : Int}, TOk vars L m t → tval vars L2 bits t = tval vars L bits t := by
  induction t with
  | leaf n =>
    intro m ht
    exact dvP_ext h he bits ht.1
  | fork v lo hi ihl ihh =>
    intro m ht
    unfold tval
    rw [ihl ht.2.2.2.1, ihh ht.2.2.2.2]
/-- Where a fork is that was added. -/
theorem dadd_at {vars v lo hi : Int} {L : List S71} (hne : lo ≠ hi) (h : 0 ≤ (dadd L v lo hi).2) : 2 ≤ (dadd L v lo hi).2 ∧ dvar vars (dadd L v lo hi).1 (dadd L v lo hi).2 = v ∧ gat (dadd L v lo hi).1 (dadd L v lo hi).2 v false = lo ∧ gat (dadd L v lo hi).1 (dadd L v lo hi).2 v true = hi := by
  have key : ∀ (M : List S71) (i : Nat), M[i]? = some ⟨v, lo, hi⟩ → 2 ≤ (i : Int) + 2 ∧ dvar vars M ((i : Int) + 2) = v ∧ gat M ((i : Int) + 2) v false = lo ∧ gat M ((i : Int) + 2) v true = hi := by
    intro M i hx
    have hd : M.getD ((i : Int) + 2 - 2).toNat ⟨0, 0, 0⟩ = ⟨v, lo, hi⟩ := by
      rw [show ((i : Int) + 2 - 2).toNat = i by omega, List.getD_eq_getElem?_getD, hx]
      rfl
    refine ⟨by omega, ?_, ?_, ?_⟩
    · unfold dvar
      rw [if_neg (by omega), hd]
    · unfold gat
      rw [if_neg (by omega), hd, if_pos rfl, if_neg (by decide)]
    · unfold gat
      rw [if_neg (by omega), hd, if_pos rfl, if_pos rfl]
  have hnn := dadd_nn h
  unfold dadd at h ⊢
  rw [if_neg (by omega), if_neg hne] at h ⊢
  cases hf : dfind L ⟨v, lo, hi⟩ with
  | some i => exact key L i (dfind_some hf)
  | none =>
    rw [hf] at h
    simp only at h ⊢
    by_cases c : 2000 ≤ L.length
    · rw [if_pos c] at h
      exact (neg1 h).elim
    · rw [if_neg c]
      exact key _ _ (by simp)
theorem dadd_val {vars v lo hi : Int} {L : List S71} (h : DV vars L) (hl : Pl L lo) (hh : Pl L hi) (v0 : 0 ≤ v) (v1 : v < vars) (hvl : v < dvar vars L lo) (hvh : v < dvar vars L hi) (hn : 0 ≤ (dadd L v lo hi).2) (bits : List Int) :
    dvP vars (dadd L v lo hi).1 bits (dadd L v lo hi).2 = if rd bits v = 1 then dvP vars L bits hi else dvP vars L bits lo := by
  by_cases c : lo = hi
  · subst c
    have e : dadd L v lo lo = (L, lo) := by
      unfold dadd
      rw [if_neg (by have := hl.1; omega), if_pos rfl]
    rw [e, ite_self]
  · obtain ⟨q1, q2, q3, q4⟩ := dadd_at (vars := vars) c hn
    obtain ⟨dd, hp⟩ := dv_dadd h hl hh v0 v1 hvl hvh
    have he := dadd_ext L v lo hi
    rw [dvP_fork dd bits (hp hn).1 (by omega), q2]
    by_cases cb : rd bits v = 1
    · rw [decide_eq_true cb, q4, if_pos cb, dvP_ext h he bits hh]
    · rw [decide_eq_false cb, q3, if_neg cb, dvP_ext h he bits hl]
/-- What was added has the tree's values. -/
theorem ins_val {vars : Int} (bits : List Int) {t : DT} : ∀ {L : List S71} {m : Int}, DV vars L → TOk vars L m t → 0 ≤ (ins L t).2 → dvP vars (ins L t).1 bits (ins L t).2 = tval vars L bits t := by
  induction t with
  | leaf n =>
    intro L m h ht hn
    rfl
  | fork v lo hi ihl ihh =>
    intro L m h ht hn
    obtain ⟨t1, t2, t3, t4, t5⟩ := ht
    rw [ins_fork] at hn ⊢
    by_cases c : (ins L lo).2 < 0
    · rw [if_pos c] at hn
      exact (neg1 hn).elim
    rw [if_neg c] at hn ⊢
    obtain ⟨d1, p1⟩ := dv_ins h t4
    obtain ⟨p1, q1⟩ := p1 (by omega)
    have e1 := ins_ext L lo
    obtain ⟨d2, p2⟩ := dv_ins d1 (t5.ext e1)
    have hnn := dadd_nn hn
    obtain ⟨p2, q2⟩ := p2 hnn.2
    have e2 := ins_ext (ins L lo).1 hi
    rw [dadd_val d2 (p1.ext e2) p2 t2 t3 (by rw [dvar_ext p1 e2]; omega) (by omega) hn bits]
    unfold tval
    rw [dvP_ext d1 e2 bits p1, ihl h t4 (by omega), ihh d1 (t5.ext e1) hnn.2, tval_ext h e1 bits t5]
theorem gat_self {L : List S71} {vars n : Int} (c : ¬ n < 2) (hi : Bool) : gat L n (dvar vars L n) hi = if hi = true then (rd_T71 L (n - 2)).f2 else (rd_T71 L (n - 2)).f1 := by
  unfold gat dvar
  rw [if_neg c, if_neg c, if_pos rfl, rdP]
theorem dvar_self {L : List S71} {vars n : Int} (c : ¬ n < 2) : dvar vars L n = (rd_T71 L (n - 2)).f0 := by
  unfold dvar
  rw [if_neg c, rdP]
/-! #### the program's value of a place -/
theorem value_l0 {vars : Int} {L : List S71} (h : DV vars L) (bits : List Int) (hb : (bits.length : Int) = vars) : ∀ (m : Nat) (n : Int), Pl L n → vars - dvar vars L n < m → Ev (fun k => impl_Diagram_value.l0 k n bits vars L) (dval vars L bits m n) := by
  intro m
  induction m with
  | zero =>
    intro n p h1
    have := (h.dvar_le p).2
    omega
  | succ m ih =>
    intro n p h1
    have p0 := p.1
    have p1 := p.2
    have hl := h.len
    unfold dval
    by_cases c : n < 2
    · rw [if_pos c]
      exact Ev.step (Ev.neg (by omega) (Ev.val _)) (fun k => impl_Diagram_value.l0.eq_2 ..)
    · rw [if_neg c]
      have hv := (dvar_two h p).2 c
      have hv0 := (h.dvar_le p).1
      have g0 : (rd_T71 L (n - 2)).f0 = dvar vars L n := (dvar_self c).symm
      have g1 : (rd_T71 L (n - 2)).f1 = gat L n (dvar vars L n) false := by rw [gat_self c]; rfl
      have g2 : (rd_T71 L (n - 2)).f2 = gat L n (dvar vars L n) true := by rw [gat_self c]; rfl
      refine Ev.step ?_ (fun k => impl_Diagram_value.l0.eq_2 ..)
      rw [w_id (by omega) (by omega), g0, g1, g2]
      refine Ev.pos (by omega) (Ev.pos (by omega) (Ev.pos (by omega) (Ev.pos hv0 (Ev.pos (by omega) ?_))))
      have f := fun hi => gat_ok h p (Int.le_refl _) hv hi
      by_cases cb : rd bits (dvar vars L n) = 1
      · rw [decide_eq_true cb]
        exact Ev.pos cb (ih _ (f true).1 (by have := (f true).2; omega))
      · rw [decide_eq_false cb]
        exact Ev.neg cb (ih _ (f false).1 (by have := (f false).2; omega))
theorem diagramValue_val {vars : Int} {L : List S71} (h : DV vars L) {n : Int} (p : Pl L n) (bits : List Int) (hb : (bits.length : Int) = vars) (h01 : Bit01 bits) : Ev (fun k => impl_DiagramValue.f k vars L n bits) (dvP vars L bits n) := by
  unfold impl_DiagramValue.f
  have hl := h.len
  have a0 := (h.dvar_le p).1
  have a1 := h.v12
  obtain ⟨q, hq, h1⟩ := impl_dv vars L
  have hq1 : q = true := h1.2 h
  subst hq1
  refine Ev.bind (Ev.const hq) (Ev.pos rfl (Ev.bind (Ev.const (isPlace_val vars n (by omega))) ?_))
  rw [@decide_eq_true _ (decPl L n) p]
  refine Ev.pos rfl (Ev.pos hb (Ev.bind (bits_valid bits (by omega) h01) (Ev.pos rfl (Ev.bind (a := dvP vars L bits n) ?_ (Ev.val _)))))
  unfold impl_Diagram_value.f
  exact value_l0 h bits hb 13 n p (by omega)
theorem gat_above {vars : Int} {L : List S71} {q v : Int} (h : v < dvar vars L q) (hi : Bool) : gat L q v hi = q := by
  unfold gat
  by_cases c2 : q < 2
  · rw [if_pos c2]
  · unfold dvar at h
    rw [if_neg c2] at h
    rw [if_neg c2, if_neg (by omega)]
/-! #### for how many rows of bits a place is true -/
def sc (vars : Int) (L : List S71) : Nat → Int → Int → Int
  | 0, _, _ => 0
  | m + 1, n, v => if n < 2 then n * 2 ^ (vars - v).toNat else (sc vars L m (gat L n (dvar vars L n) false) (dvar vars L n + 1) + sc vars L m (gat L n (dvar vars L n) true) (dvar vars L n + 1)) * 2 ^ (dvar vars L n - v).toNat
theorem sc_same {vars : Int} {L : List S71} (h : DV vars L) : ∀ (m m2 : Nat) (n v : Int), Pl L n → vars - dvar vars L n < m → vars - dvar vars L n < m2 → sc vars L m n v = sc vars L m2 n v := by
  intro m
  induction m with
  | zero =>
    intro m2 n v p h1 _
    have := (h.dvar_le p).2
    omega
  | succ m ih =>
    intro m2 n v p h1 h2
    cases m2 with
    | zero =>
      have := (h.dvar_le p).2
      omega
    | succ m2 =>
      unfold sc
      by_cases c : n < 2
      · rw [if_pos c, if_pos c]
      · have f := fun hi => gat_ok h p (Int.le_refl _) ((dvar_two h p).2 c) hi
        rw [if_neg c, if_neg c, ih m2 _ _ (f false).1 (by have := (f false).2; omega) (by have := (f false).2; omega), ih m2 _ _ (f true).1 (by have := (f true).2; omega) (by have := (f true).2; omega)]
def scP (vars : Int) (L : List S71) (n v : Int) : Int := sc vars L 13 n v
theorem scP_const {vars : Int} {L : List S71} {n : Int} (c : n < 2) (v : Int) : scP vars L n v = n * 2 ^ (vars - v).toNat := by
  unfold scP sc
  rw [if_pos c]
theorem scP_fork {vars : Int} {L : List S71} (h : DV vars L) {n : Int} (p : Pl L n) (c : ¬ n < 2) (v : Int) : scP vars L n v = (scP vars L (gat L n (dvar vars L n) false) (dvar vars L n + 1) + scP vars L (gat L n (dvar vars L n) true) (dvar vars L n + 1)) * 2 ^ (dvar vars L n - v).toNat := by
  have f := fun hi => gat_ok h p (Int.le_refl _) ((dvar_two h p).2 c) hi
  have a0 := (h.dvar_le p).1
  have a1 := h.v12
  unfold scP
  rw [sc.eq_2, if_neg c, sc_same h 12 13 _ _ (f false).1 (by have := (f false).2; omega) (by have := (f false).2; omega), sc_same h 12 13 _ _ (f true).1 (by have := (f true).2; omega) (by have := (f true).2; omega)]
theorem two_split (a b : Nat) : (2 : Int) ^ (a + b) = 2 ^ a * 2 ^ b := Int.pow_add 2 a b
theorem sc_shift {vars : Int} {L : List S71} (h : DV vars L) {n v w : Int} (p : Pl L n) (h1 : v ≤ w) (h2 : w ≤ dvar vars L n) : scP vars L n v = scP vars L n w * 2 ^ (w - v).toNat := by
  by_cases c : n < 2
  · have hd := dvar_const (vars := vars) (L := L) c
    rw [scP_const c, scP_const c, show (vars - v).toNat = (vars - w).toNat + (w - v).toNat by omega, two_split, Int.mul_assoc]
  · rw [scP_fork h p c, scP_fork h p c, show (dvar vars L n - v).toNat = (dvar vars L n - w).toNat + (w - v).toNat by omega, two_split, Int.mul_assoc]
theorem pow_small {m : Nat} (h : m ≤ 12) : 1 ≤ (2 : Int) ^ m ∧ (2 : Int) ^ m ≤ 4096 := by
  have e : (2 : Int) ^ m = ((2 ^ m : Nat) : Int) := by simp
  have h1 : (2 : Nat) ^ m ≤ 2 ^ 12 := Nat.pow_le_pow_right (by decide) h
  have h2 : 0 < (2 : Nat) ^ m := Nat.pow_pos (by decide)
  have e12 : (2 : Nat) ^ 12 = 4096 := by decide
  rw [e]
  omega
theorem sc_bound {vars : Int} {L : List S71} (h : DV vars L) : ∀ (m : Nat) (n v : Int), Pl L n → vars - dvar vars L n < m → 0 ≤ v → v ≤ dvar vars L n → 0 ≤ scP vars L n v ∧ scP vars L n v ≤ 2 ^ (vars - v).toNat := by
  intro m
  induction m with
  | zero =>
    intro n v p h1 _ _
    have := (h.dvar_le p).2
    omega
  | succ m ih =>
    intro n v p h1 v0 v1
    have h12 := h.v12
    have hd2 := (h.dvar_le p).2
    have pw := (pow_small (m := (vars - v).toNat) (by omega)).1
    by_cases c : n < 2
    · rw [scP_const c]
      have hn : n = 0 ∨ n = 1 := by have := p.1; omega
      rcases hn with rfl | rfl
      · rw [Int.zero_mul]
        omega
      · rw [Int.one_mul]
        omega
    · have hv := (dvar_two h p).2 c
      have f := fun hi => gat_ok h p (Int.le_refl _) hv hi
      obtain ⟨a0, a1⟩ := ih _ (dvar vars L n + 1) (f false).1 (by have := (f false).2; omega) (by omega) (by have := (f false).2; omega)
      obtain ⟨b0, b1⟩ := ih _ (dvar vars L n + 1) (f true).1 (by have := (f true).2; omega) (by omega) (by have := (f true).2; omega)
      rw [scP_fork h p c]
      have e : (2 : Int) ^ (vars - v).toNat = (2 ^ (vars - (dvar vars L n + 1)).toNat + 2 ^ (vars - (dvar vars L n + 1)).toNat) * 2 ^ (dvar vars L n - v).toNat := by
        rw [show (vars - v).toNat = (vars - (dvar vars L n + 1)).toNat + 1 + (dvar vars L n - v).toNat by omega, two_split, Int.pow_succ]
        congr 1
        omega
      rw [e]
      have hp := (pow_small (m := (dvar vars L n - v).toNat) (by omega)).1
      exact ⟨Int.mul_nonneg (by omega) (by omega), Int.mul_le_mul_of_nonneg_right (by omega) (by omega)⟩
theorem scP_bound {vars : Int} {L : List S71} (h : DV vars L) {n : Int} (p : Pl L n) : 0 ≤ scP vars L n 0 ∧ scP vars L n 0 ≤ 4096 := by
  have a0 := (h.dvar_le p).1
  have a1 := h.v12
  have hb := sc_bound h 13 n 0 p (by omega) (Int.le_refl _) a0
  have := (pow_small (m := (vars - 0).toNat) (by omega)).2
  omega
theorem shl_bit {n : Int} (hn : n = 0 ∨ n = 1) {vars : Int} (h0 : 0 ≤ vars) (h1 : vars ≤ 12) : shl .i64 n vars = n * 2 ^ vars.toNat := by
  obtain ⟨m, rfl⟩ := Int.eq_ofNat_of_zero_le h0
  have : m = 0 ∨ m = 1 ∨ m = 2 ∨ m = 3 ∨ m = 4 ∨ m = 5 ∨ m = 6 ∨ m = 7 ∨ m = 8 ∨ m = 9 ∨ m = 10 ∨ m = 11 ∨ m = 12 := by omega
  rcases hn with rfl | rfl <;> rcases this with rfl | rfl | rfl | rfl | rfl | rfl | rfl | rfl | rfl | rfl | rfl | rfl | rfl <;> decide +kernel
theorem count_cl {vars : Int} {L : List S71} (h : DV vars L) : ∀ (m : Nat) (n : Int) (mm : Int → Option Int), (∀ q r, mm q = some r → Pl L q ∧ r = scP vars L q 0) → Pl L n → vars - dvar vars L n < m →
    ∃ mm', Ev (fun k => impl_Diagram_count.cl k vars L n mm) (mm', scP vars L n 0) ∧ ∀ q r, mm' q = some r → Pl L q ∧ r = scP vars L q 0 := by
  intro m
  induction m with
  | zero =>
    intro n mm _ p h1
    have := (h.dvar_le p).2
    omega
  | succ m ih =>
    intro n mm hm p h1
    have p0 := p.1
    have p1 := p.2
    have hl := h.len
    have v0 := h.v0
    have v12 := h.v12
    by_cases c : n < 2
    · refine ⟨mm, Ev.step (Ev.pos c (Ev.pos (by omega) (Ev.valEq ?_))) (fun k => impl_Diagram_count.cl.eq_2 ..), hm⟩
      rw [shl_bit (by omega) v0 v12, scP_const c, show (vars - 0).toNat = vars.toNat by omega]
    · have hk : KeyI n := keyI p0 (by omega)
      cases hq : mm n with
      | some r =>
        refine ⟨mm, Ev.step (Ev.neg c (Ev.pos hk ?_)) (fun k => impl_Diagram_count.cl.eq_2 ..), hm⟩
        rw [hq, (hm n r hq).2]
        exact Ev.val _
      | none =>
        have hv := (dvar_two h p).2 c
        have hd0 := (h.dvar_le p).1
        have f := fun hi => gat_ok h p (Int.le_refl _) hv hi
        have g1 : (rd_T71 L (n - 2)).f1 = gat L n (dvar vars L n) false := by rw [gat_self c]; rfl
        have g2 : (rd_T71 L (n - 2)).f2 = gat L n (dvar vars L n) true := by rw [gat_self c]; rfl
        obtain ⟨m1, e1, k1⟩ := ih _ mm hm (f false).1 (by have := (f false).2; omega)
        obtain ⟨m2, e2, k2⟩ := ih _ m1 k1 (f true).1 (by have := (f true).2; omega)
        have b1 := scP_bound h (f false).1
        have b2 := scP_bound h (f true).1
        have s1 := sc_shift h (v := 0) (w := dvar vars L n + 1) (f false).1 (by omega) (by have := (f false).2; omega)
        have s2 := sc_shift h (v := 0) (w := dvar vars L n + 1) (f true).1 (by omega) (by have := (f true).2; omega)
        have hr : wrap64 ((wrap64 (scP vars L (gat L n (dvar vars L n) false) 0 + scP vars L (gat L n (dvar vars L n) true) 0)).tdiv 2) = scP vars L n 0 := by
          rw [w_id (x := scP vars L (gat L n (dvar vars L n) false) 0 + scP vars L (gat L n (dvar vars L n) true) 0) (by omega) (by omega), Int.tdiv_eq_ediv_of_nonneg (by omega), w_id (by omega) (by omega), scP_fork h p c, s1, s2, ← Int.add_mul, show (dvar vars L n + 1 - 0).toNat = (dvar vars L n - 0).toNat + 1 by omega, Int.pow_succ, ← Int.mul_assoc, Int.mul_ediv_cancel _ (by decide)]
        refine ⟨fun y => if y = n then some (scP vars L n 0) else m2 y, Ev.step (Ev.neg c (Ev.pos hk ?_)) (fun k => impl_Diagram_count.cl.eq_2 ..), fun q r hq2 => ?_⟩
        · rw [hq, w_id (by omega) (by omega), g1, g2]
          refine Ev.pos (by omega) (Ev.pos (by omega) (Ev.bind e1 (Ev.bind e2 (Ev.valEq ?_))))
          simp only [hr]
        · by_cases e : q = n
          · subst e
            have : scP vars L q 0 = r := by simpa using hq2
            exact ⟨p, this.symm⟩
          · have : m2 q = some r := by simpa [e] using hq2
            exact k2 q r this
theorem diagramCount_val {vars : Int} {L : List S71} (h : DV vars L) {n : Int} (p : Pl L n) : Ev (fun k => impl_DiagramCount.f k vars L n) (scP vars L n 0) := by
  unfold impl_DiagramCount.f
  have hl := h.len
  have a0 := (h.dvar_le p).1
  have a1 := h.v12
  obtain ⟨q, hq, h1⟩ := impl_dv vars L
  have hq1 : q = true := h1.2 h
  subst hq1
  obtain ⟨mm', e, _⟩ := count_cl h 13 n (fun _ => none) (fun q r hq => by cases hq) p (by omega)
  refine Ev.bind (Ev.const hq) (Ev.pos rfl (Ev.bind (Ev.const (isPlace_val vars n (by omega))) ?_))
  rw [@decide_eq_true _ (decPl L n) p]
  refine Ev.pos rfl (Ev.bind (a := scP vars L n 0) ?_ (Ev.val _))
  unfold impl_Diagram_count.f
  exact Ev.bind e (Ev.val _)
theorem rd_mid (pre t : List Int) (b : Int) : rd (pre ++ b :: t) ((pre.length : Nat) : Int) = b := by
  rw [rd_lt (by simp)]
  simp
/-- A number's lower bits, the highest one first. -/
def bitsD (n : Int) : Nat → List Int
  | 0 => []
  | d + 1 => (n / 2 ^ d % 2) :: bitsD n d
theorem bitsD_length (n : Int) : ∀ d, (bitsD n d).length = d := by
  intro d
  induction d with
  | zero => rfl
  | succ d ih => simp [bitsD, ih]
theorem shr_eq (n : Int) (d : Nat) (h : d ≤ 64) : shr .i64 n (d : Int) = n / 2 ^ d := by
  unfold shr
  rw [Int.toNat_natCast, Nat.min_eq_left (by simpa [IntKind.bits] using h)]
theorem spec_value_loop (n : Int) (hn : 0 ≤ n) : ∀ (d : Nat) (acc : List Int), d ≤ 60 → acc.length ≤ 1000 - d →
    Ev (fun k => spec_l6Value.l0 k n acc ((d : Int) - 1)) (acc ++ bitsD n d) := by
  intro d
  induction d with
  | zero =>
    intro acc _ _
    refine Ev.step (Ev.neg (by omega) (Ev.valEq (by simp [bitsD]))) (fun k => spec_l6Value.l0.eq_2 ..)
  | succ d ih =>
    intro acc hd ha
    refine Ev.step ?_ (fun k => spec_l6Value.l0.eq_2 ..)
    rw [show ((d + 1 : Nat) : Int) - 1 = (d : Int) by omega, shr_eq n d (by omega), w_id (by omega) (by omega)]
    refine Ev.pos (by omega) (Ev.pos (by omega) (Ev.pos (by omega) ?_))
    have := ih (acc ++ [n / 2 ^ d % 2]) (by omega) (by simp; omega)
    have e : Int.tmod (n / 2 ^ d) 2 = n / 2 ^ d % 2 := by
      rw [Int.tmod_eq_emod_of_nonneg]
      exact Int.ediv_nonneg hn (by exact_mod_cast Nat.zero_le _)
    rw [e]
    refine this.to ?_
    simp [bitsD]
theorem spec_value (n : Int) (hn : 0 ≤ n) (m : Nat) (hm : m ≤ 60) : Ev (fun k => spec_l6Value.f k n (m : Int)) (bitsD n m) := by
  unfold spec_l6Value.f
  rw [w_id (by omega) (by omega)]
  exact (spec_value_loop n hn m [] hm (by simp)).to (by simp)
theorem and_one (x : Int) (h0 : 0 ≤ x) (h1 : x < 9223372036854775808) : Go.bits .and .i64 x 1 = x % 2 := by
  have := bits_mask .i64 63 (by decide) (fun n a b => by rw [IntKind.wrap_i64]; omega) 1 (by decide) x h0 (by omega)
  simpa using this
/-! #### circuits: which are valid, and what their nodes are -/
def GOk (inputs : Int) (i : Nat) (g : S121) : Prop := (0 ≤ g.f0 ∧ g.f0 ≤ 2 * (1 + inputs + i) - 1) ∧ (0 ≤ g.f1 ∧ g.f1 ≤ 2 * (1 + inputs + i) - 1)
structure CV (inputs : Int) (L : List S121) : Prop where
  i0 : 0 ≤ inputs
  i12 : inputs ≤ 12
  len : L.length ≤ 600
  ok : ∀ (i : Nat) (h : i < L.length), GOk inputs i L[i]
theorem rdG {L : List S121} {i : Nat} (h : i < L.length) : rd_T121 L (i : Int) = L[i] := by
  unfold rd_T121
  rw [Int.toNat_natCast, List.getD_eq_getElem?_getD, List.getElem?_eq_getElem h]
  rfl
theorem gate_split {inputs : Int} {L : List S121} {i : Nat} (hi : i < L.length) : (∀ q (h : q < L.length), i ≤ q → GOk inputs q L[q]) ↔ GOk inputs i L[i] ∧ ∀ q (h : q < L.length), i + 1 ≤ q → GOk inputs q L[q] := by
  constructor
  · intro h
    exact ⟨h i hi (Nat.le_refl _), fun q hq hq2 => h q hq (by omega)⟩
  · rintro ⟨ha, hb⟩ q hq hq2
    by_cases c : i = q
    · subst c
      exact ha
    · exact hb q hq (by omega)
theorem most_w {inputs : Int} (h0 : 0 ≤ inputs) (h1 : inputs ≤ 12) (i : Nat) (hi : i ≤ 600) : wrap64 (wrap64 (2 * wrap64 (wrap64 (1 + inputs) + (i : Int))) - 1) = 2 * (1 + inputs + i) - 1 := by
  rw [w_id (x := 1 + inputs) (by omega) (by omega), w_id (x := 1 + inputs + (i : Int)) (by omega) (by omega), w_id (x := 2 * (1 + inputs + (i : Int))) (by omega) (by omega), w_id (by omega) (by omega)]
theorem impl_cv_loop {inputs : Int} (h0 : 0 ≤ inputs) (h1 : inputs ≤ 12) (L : List S121) (hl : L.length ≤ 600) : ∀ (d i : Nat), i + d = L.length → ∃ b, Ev (fun k => impl_CircuitValid.l0 k L (L.length : Int) (i : Int) inputs L) b ∧ (b = true ↔ ∀ q (h : q < L.length), i ≤ q → GOk inputs q L[q]) := by
  intro d
  induction d with
  | zero =>
    intro i hi
    exact ⟨true, Ev.step (Ev.neg (by omega) (Ev.val _)) (fun k => impl_CircuitValid.l0.eq_2 ..), fun _ q h hq => absurd h (by omega), fun _ => rfl⟩
  | succ d ih =>
    intro i hi
    have hil : i < L.length := by omega
    obtain ⟨rest, er, hr⟩ := ih (i + 1) (by omega)
    rw [gate_split hil]
    unfold GOk at hr ⊢
    have st : ∀ b, Ev (fun k => (impl_in.f L[i].f0 0 (2 * (1 + inputs + (i : Int)) - 1)).bind fun t => if t = true then (impl_in.f L[i].f1 0 (2 * (1 + inputs + (i : Int)) - 1)).bind fun t => if t = true then impl_CircuitValid.l0 k L (L.length : Int) (wrap64 ((i : Int) + 1)) inputs L else some false else some false) b → Ev (fun k => impl_CircuitValid.l0 k L (L.length : Int) (i : Int) inputs L) b := fun b hb => by
      refine Ev.step (Ev.pos (by omega) (Ev.pos (by omega) (Ev.pos (by omega) ?_))) (fun k => impl_CircuitValid.l0.eq_2 ..)
      rw [rdG hil, most_w h0 h1 i (by omega)]
      exact hb
    by_cases c1 : 0 ≤ L[i].f0 ∧ L[i].f0 ≤ 2 * (1 + inputs + (i : Int)) - 1
    · by_cases c2 : 0 ≤ L[i].f1 ∧ L[i].f1 ≤ 2 * (1 + inputs + (i : Int)) - 1
      · refine ⟨rest, st _ ?_, ?_⟩
        · simp only [in_val, Option.bind_some, decide_eq_true_eq]
          refine Ev.pos c1 (Ev.pos c2 ?_)
          rw [wsucc i (by omega)]
          exact er
        · rw [hr]
          exact ⟨fun h => ⟨⟨c1, c2⟩, h⟩, fun h => h.2⟩
      · refine ⟨false, st _ ?_, fun h => (by cases h), fun h => absurd h.1.2 c2⟩
        simp only [in_val, Option.bind_some, decide_eq_true_eq]
        exact Ev.pos c1 (Ev.neg c2 (Ev.val _))
    · refine ⟨false, st _ ?_, fun h => (by cases h), fun h => absurd h.1.1 c1⟩
      simp only [in_val, Option.bind_some, decide_eq_true_eq]
      exact Ev.neg c1 (Ev.val _)
theorem impl_cv (inputs : Int) (L : List S121) : ∃ b, Ev (fun k => impl_CircuitValid.f k inputs L) b ∧ (b = true ↔ CV inputs L) := by
  unfold impl_CircuitValid.f
  simp only [in_val, Option.bind_some]
  have e0 : Ev (fun k => impl_CircuitValid.j0 k true inputs L) false := Ev.step (Ev.pos rfl (Ev.val _)) (fun k => impl_CircuitValid.j0.eq_2 ..)
  by_cases c1 : 0 ≤ inputs ∧ inputs ≤ 12
  · rw [decide_eq_true c1]
    by_cases c2 : (L.length : Int) > 600
    · rw [decide_eq_true c2]
      exact ⟨false, Ev.pos rfl e0, fun h => (by cases h), fun h => by have := h.len; omega⟩
    · rw [decide_eq_false c2]
      obtain ⟨b, hb, h2⟩ := impl_cv_loop c1.1 c1.2 L (by omega) L.length 0 (by omega)
      refine ⟨b, Ev.pos rfl (Ev.step (Ev.neg (by decide) hb) (fun k => impl_CircuitValid.j0.eq_2 ..)), ?_⟩
      rw [h2]
      exact ⟨fun h => ⟨c1.1, c1.2, by omega, fun i hi => h i hi (Nat.zero_le _)⟩, fun h q hq _ => h.ok q hq⟩
  · rw [decide_eq_false c1]
    exact ⟨false, Ev.neg (by decide) e0, fun h => (by cases h), fun h => absurd ⟨h.i0, h.i12⟩ c1⟩
theorem spec_cv_loop {inputs : Int} (h0 : 0 ≤ inputs) (h1 : inputs ≤ 12) (L : List S121) (hl : L.length ≤ 600) : ∀ (d i : Nat), i + d = L.length → ∃ b, Ev (fun k => spec_CircuitValid.l0 k (i : Int) inputs L) b ∧ (b = true ↔ ∀ q (h : q < L.length), i ≤ q → GOk inputs q L[q]) := by
  intro d
  induction d with
  | zero =>
    intro i hi
    exact ⟨true, Ev.step (Ev.neg (by omega) (Ev.val _)) (fun k => spec_CircuitValid.l0.eq_2 ..), fun _ q h hq => absurd h (by omega), fun _ => rfl⟩
  | succ d ih =>
    intro i hi
    have hil : i < L.length := by omega
    obtain ⟨rest, er, hr⟩ := ih (i + 1) (by omega)
    rw [gate_split hil]
    unfold GOk at hr ⊢
    have st : ∀ b, Ev (fun k => (spec_l1In.f L[i].f0 0 (2 * (1 + inputs + (i : Int)) - 1)).bind fun t => if t = true then (spec_l1In.f L[i].f1 0 (2 * (1 + inputs + (i : Int)) - 1)).bind fun t => if t = true then spec_CircuitValid.l0 k (wrap64 ((i : Int) + 1)) inputs L else some false else some false) b → Ev (fun k => spec_CircuitValid.l0 k (i : Int) inputs L) b := fun b hb => by
      refine Ev.step (Ev.pos (by omega) (Ev.pos (by omega) ?_)) (fun k => spec_CircuitValid.l0.eq_2 ..)
      rw [rdG hil, most_w h0 h1 i (by omega)]
      exact hb
    by_cases c1 : 0 ≤ L[i].f0 ∧ L[i].f0 ≤ 2 * (1 + inputs + (i : Int)) - 1
    · by_cases c2 : 0 ≤ L[i].f1 ∧ L[i].f1 ≤ 2 * (1 + inputs + (i : Int)) - 1
      · refine ⟨rest, st _ ?_, ?_⟩
        · simp only [l1In_val, Option.bind_some, decide_eq_true_eq]
          refine Ev.pos c1 (Ev.pos c2 ?_)
          rw [wsucc i (by omega)]
          exact er
        · rw [hr]
          exact ⟨fun h => ⟨⟨c1, c2⟩, h⟩, fun h => h.2⟩
      · refine ⟨false, st _ ?_, fun h => (by cases h), fun h => absurd h.1.2 c2⟩
        simp only [l1In_val, Option.bind_some, decide_eq_true_eq]
        exact Ev.pos c1 (Ev.neg c2 (Ev.val _))
    · refine ⟨false, st _ ?_, fun h => (by cases h), fun h => absurd h.1.1 c1⟩
      simp only [l1In_val, Option.bind_some, decide_eq_true_eq]
      exact Ev.neg c1 (Ev.val _)
theorem spec_cv (inputs : Int) (L : List S121) : ∃ b, Ev (fun k => spec_CircuitValid.f k inputs L) b ∧ (b = true ↔ CV inputs L) := by
  unfold spec_CircuitValid.f
  simp only [l1In_val, Option.bind_some]
  have e0 : Ev (fun k => spec_CircuitValid.j0 k true inputs L) false := Ev.step (Ev.pos rfl (Ev.val _)) (fun k => spec_CircuitValid.j0.eq_2 ..)
  by_cases c1 : 0 ≤ inputs ∧ inputs ≤ 12
  · rw [decide_eq_true c1]
    by_cases c2 : (L.length : Int) > 600
    · rw [decide_eq_true c2]
      exact ⟨false, Ev.pos rfl e0, fun h => (by cases h), fun h => by have := h.len; omega⟩
    · rw [decide_eq_false c2]
      obtain ⟨b, hb, h2⟩ := spec_cv_loop c1.1 c1.2 L (by omega) L.length 0 (by omega)
      refine ⟨b, Ev.pos rfl (Ev.step (Ev.neg (by decide) hb) (fun k => spec_CircuitValid.j0.eq_2 ..)), ?_⟩
      rw [h2]
      exact ⟨fun h => ⟨c1.1, c1.2, by omega, fun i hi => h i hi (Nat.zero_le _)⟩, fun h q hq _ => h.ok q hq⟩
  · rw [decide_eq_false c1]
    exact ⟨false, Ev.neg (by decide) e0, fun h => (by cases h), fun h => absurd ⟨h.i0, h.i12⟩ c1⟩
theorem impl_edge {inputs : Int} {L : List S121} (h : CV inputs L) (e : Int) : impl_Circuit_isEdge.f inputs L e = some (decide (0 ≤ e ∧ e ≤ 2 * (1 + inputs + (L.length : Int)) - 1)) := by
  unfold impl_Circuit_isEdge.f
  rw [most_w h.i0 h.i12 L.length h.len, in_val]
  rfl
theorem spec_edge {inputs : Int} {L : List S121} (h : CV inputs L) (e : Int) : spec_l7Edge.f inputs L e = some (decide (0 ≤ e ∧ e ≤ 2 * (1 + inputs + (L.length : Int)) - 1)) := by
  unfold spec_l7Edge.f spec_l7Nodes.f
  simp only [Option.bind_some]
  rw [most_w h.i0 h.i12 L.length h.len, l1In_val]
  rfl
/-- The value of an edge by the values of nodes. -/
def edv (vs : List Int) (e : Int) : Int := if e % 2 = 1 then 1 - rd vs (e / 2) else rd vs (e / 2)
/-- The values of the nodes behind some. -/
def nodesV : List S121 → List Int → List Int
  | [], vs => vs
  | g :: gs, vs => nodesV gs (vs ++ [edv vs g.f0 * edv vs g.f1])
theorem bits_rd {vs : List Int} (h : BitRow vs) {z : Int} (h0 : 0 ≤ z) (h1 : z < (vs.length : Int)) : rd vs z = 0 ∨ rd vs z = 1 := by
  obtain ⟨m, rfl⟩ := Int.eq_ofNat_of_zero_le h0
  have hm : m < vs.length := by omega
  rw [rd_lt hm]
  exact h _ (List.getElem_mem hm)
theorem edv_01 {vs : List Int} (h : BitRow vs) {e : Int} (h0 : 0 ≤ e) (h1 : e ≤ 2 * (vs.length : Int) - 1) : edv vs e = 0 ∨ edv vs e = 1 := by
  have := bits_rd h (z := e / 2) (by omega) (by omega)
  unfold edv
  split <;> omega
theorem BitRow.snoc {vs : List Int} (h : BitRow vs) {x : Int} (hx : x = 0 ∨ x = 1) : BitRow (vs ++ [x]) := fun y hy => by
  rcases List.mem_append.mp hy with h2 | h2
  · exact h y h2
  · rw [List.mem_singleton.mp h2]
    exact hx
theorem impl_edgeOf_val {vs : List Int} (h : BitRow vs) (hl : vs.length ≤ 1000000) {e : Int} (h0 : 0 ≤ e) (h1 : e ≤ 2 * (vs.length : Int) - 1) : impl_edgeOf.f vs e = some (edv vs e) := by
  have ht : Int.tdiv e 2 = e / 2 := Int.tdiv_eq_ediv_of_nonneg h0
  have hb := bits_rd h (z := e / 2) (by omega) (by omega)
  unfold impl_edgeOf.f edv
  rw [ht, w_id (by omega) (by omega), if_pos (by omega), if_pos (by omega), and_one e h0 (by omega)]
  congr 1
  generalize rd vs (e / 2) = x at hb ⊢
  have he : e % 2 = 0 ∨ e % 2 = 1 := by omega
  rcases he with he | he <;> rcases hb with rfl | rfl <;> rw [he] <;> decide +kernel
theorem spec_l7Of_val {vs : List Int} (h : BitRow vs) (hl : vs.length ≤ 1000000) {e : Int} (h0 : 0 ≤ e) (h1 : e ≤ 2 * (vs.length : Int) - 1) : spec_l7Of.f vs e = some (edv vs e) := by
  have ht : Int.tdiv e 2 = e / 2 := Int.tdiv_eq_ediv_of_nonneg h0
  have hm : Int.tmod e 2 = e % 2 := Int.tmod_eq_emod_of_nonneg h0
  have hb := bits_rd h (z := e / 2) (by omega) (by omega)
  unfold spec_l7Of.f edv
  rw [ht, hm, w_id (x := e / 2) (by omega) (by omega)]
  by_cases c : e % 2 = 1
  · rw [if_pos c, if_pos c, if_pos (by omega), if_pos (by omega), w_id (by omega) (by omega)]
  · rw [if_neg c, if_neg c, if_pos (by omega), if_pos (by omega)]
theorem bits_mul {a b : Int} (ha : a = 0 ∨ a = 1) (hb : b = 0 ∨ b = 1) : (a * b = 0 ∨ a * b = 1) ∧ Go.bits .and .i64 a b = a * b ∧ wrap64 (a * b) = a * b := by
  rcases ha with rfl | rfl <;> rcases hb with rfl | rfl <;> decide +kernel
theorem impl_values_loop {inputs : Int} (h0 : 0 ≤ inputs) (h1 : inputs ≤ 12) (L : List S121) (hl : L.length ≤ 600) (hok : ∀ (i : Nat) (h : i < L.length), GOk inputs i L[i]) : ∀ (d i : Nat) (vs : List Int), i + d = L.length → (vs.length : Int) = 1 + inputs + i → BitRow vs →
    Ev (fun k => impl_Circuit_values.l0 k vs L (L.length : Int) (i : Int)) (nodesV (L.drop i) vs) ∧ BitRow (nodesV (L.drop i) vs) ∧ ((nodesV (L.drop i) vs).length : Int) = 1 + inputs + L.length := by
  intro d
  induction d with
  | zero =>
    intro i vs hi hv hb
    have e : L.drop i = [] := List.drop_of_length_le (by omega)
    rw [e]
    exact ⟨Ev.step (Ev.neg (by omega) (Ev.val _)) (fun k => impl_Circuit_values.l0.eq_2 ..), hb, by show (vs.length : Int) = _; omega⟩
  | succ d ih =>
    intro i vs hi hv hb
    have hil : i < L.length := by omega
    obtain ⟨⟨g1, g2⟩, g3, g4⟩ := hok i hil
    have x1 := edv_01 hb (e := L[i].f0) g1 (by omega)
    have x2 := edv_01 hb (e := L[i].f1) g3 (by omega)
    obtain ⟨m1, m2, m3⟩ := bits_mul x1 x2
    obtain ⟨k1, k2, k3⟩ := ih (i + 1) (vs ++ [edv vs L[i].f0 * edv vs L[i].f1]) (by omega) (by simp; omega) (hb.snoc m1)
    have e : nodesV (L.drop i) vs = nodesV (L.drop (i + 1)) (vs ++ [edv vs L[i].f0 * edv vs L[i].f1]) := by
      rw [List.drop_eq_getElem_cons hil]
      rfl
    rw [e]
    refine ⟨Ev.step (Ev.pos (by omega) (Ev.pos (by omega) (Ev.pos (by omega) ?_))) (fun k => impl_Circuit_values.l0.eq_2 ..), k2, k3⟩
    rw [rdG hil, wsucc i (by omega)]
    refine Ev.bind (Ev.const (impl_edgeOf_val hb (by omega) g1 (by omega))) (Ev.bind (Ev.const (impl_edgeOf_val hb (by omega) g3 (by omega))) (Ev.pos (by omega) ?_))
    rw [m2]
    exact k1
/-- The values of all nodes. -/
def allNodes (L : List S121) (bits : List Int) : List Int := nodesV L ([0] ++ bits)
theorem impl_values_val {inputs : Int} {L : List S121} (h : CV inputs L) {bits : List Int} (hl : (bits.length : Int) = inputs) (hb : BitRow bits) : Ev (fun k => impl_Circuit_values.f k inputs L bits) (allNodes L bits) ∧ BitRow (allNodes L bits) ∧ ((allNodes L bits).length : Int) = 1 + inputs + L.length := by
  have hb0 : BitRow ([0] ++ bits) := fun x hx => by
    rcases List.mem_append.mp hx with h2 | h2
    · rw [List.mem_singleton.mp h2]
      exact .inl rfl
    · exact hb x h2
  have h12 := h.i12
  obtain ⟨k1, k2, k3⟩ := impl_values_loop h.i0 h.i12 L h.len h.ok L.length 0 ([0] ++ bits) (by omega) (by simp; omega) hb0
  refine ⟨?_, k2, k3⟩
  unfold impl_Circuit_values.f
  simp only [Option.bind_some]
  exact Ev.pos (by simp; omega) k1
theorem spec_run_loop {inputs : Int} (h0 : 0 ≤ inputs) (h1 : inputs ≤ 12) (L : List S121) (hl : L.length ≤ 600) (hok : ∀ (i : Nat) (h : i < L.length), GOk inputs i L[i]) : ∀ (d i : Nat) (vs : List Int), i + d = L.length → (vs.length : Int) = 1 + inputs + i → BitRow vs →
    Ev (fun k => spec_l7Run.l1 k vs (i : Int) inputs L) (nodesV (L.drop i) vs) := by
  intro d
  induction d with
  | zero =>
    intro i vs hi hv hb
    have e : L.drop i = [] := List.drop_of_length_le (by omega)
    rw [e]
    exact Ev.step (Ev.neg (by omega) (Ev.val _)) (fun k => spec_l7Run.l1.eq_2 ..)
  | succ d ih =>
    intro i vs hi hv hb
    have hil : i < L.length := by omega
    obtain ⟨⟨g1, g2⟩, g3, g4⟩ := hok i hil
    have x1 := edv_01 hb (e := L[i].f0) g1 (by omega)
    have x2 := edv_01 hb (e := L[i].f1) g3 (by omega)
    obtain ⟨m1, m2, m3⟩ := bits_mul x1 x2
    have k1 := ih (i + 1) (vs ++ [edv vs L[i].f0 * edv vs L[i].f1]) (by omega) (by simp; omega) (hb.snoc m1)
    have e : nodesV (L.drop i) vs = nodesV (L.drop (i + 1)) (vs ++ [edv vs L[i].f0 * edv vs L[i].f1]) := by
      rw [List.drop_eq_getElem_cons hil]
      rfl
    rw [e]
    refine Ev.step (Ev.pos (by omega) (Ev.pos (by omega) ?_)) (fun k => spec_l7Run.l1.eq_2 ..)
    rw [rdG hil, wsucc i (by omega)]
    refine Ev.bind (Ev.const (spec_l7Of_val hb (by omega) g1 (by omega))) (Ev.bind (Ev.const (spec_l7Of_val hb (by omega) g3 (by omega))) (Ev.pos (by omega) ?_))
    rw [m3]
    exact k1
theorem spec_run_in {inputs : Int} (h12 : inputs ≤ 12) (L : List S121) (bits : List Int) (hl : (bits.length : Int) = inputs) (r : List Int) (hr : Ev (fun k => spec_l7Run.l1 k ([0] ++ bits) 0 inputs L) r) : ∀ (d i : Nat), i + d = bits.length → Ev (fun k => spec_l7Run.l0 k bits ([0] ++ bits.take i) (i : Int) inputs L) r := by
  intro d
  induction d with
  | zero =>
    intro i hi
    rw [List.take_of_length_le (by omega)]
    exact Ev.step (Ev.neg (by omega) hr) (fun k => spec_l7Run.l0.eq_2 ..)
  | succ d ih =>
    intro i hi
    have hil : i < bits.length := by omega
    refine Ev.step (Ev.pos (by omega) (Ev.pos (by omega) (Ev.pos (by omega) (Ev.pos (by simp; omega) ?_)))) (fun k => spec_l7Run.l0.eq_2 ..)
    rw [wsucc i (by omega), rd_lt hil]
    have e : [0] ++ bits.take i ++ [bits[i]] = [0] ++ bits.take (i + 1) := by
      rw [List.append_assoc, List.take_add_one, List.getElem?_eq_getElem hil]
      rfl
    rw [e]
    exact ih (i + 1) (by omega)
theorem spec_run_val {inputs : Int} {L : List S121} (h : CV inputs L) {bits : List Int} (hl : (bits.length : Int) = inputs) (hb : BitRow bits) : Ev (fun k => spec_l7Run.f k inputs L bits) (allNodes L bits) := by
  have hb0 : BitRow ([0] ++ bits) := fun x hx => by
    rcases List.mem_append.mp hx with h2 | h2
    · rw [List.mem_singleton.mp h2]
      exact .inl rfl
    · exact hb x h2
  unfold spec_l7Run.f
  have := spec_run_loop h.i0 h.i12 L h.len h.ok L.length 0 ([0] ++ bits) (by omega) (by simp; omega) hb0
  exact spec_run_in h.i12 L bits hl _ this bits.length 0 (by omega)
/-- The value of an edge for a row of bits. -/
def edgeV (L : List S121) (e : Int) (bits : List Int) : Int := edv (allNodes L bits) e
theorem bitsD_bits (n : Int) : ∀ m, BitRow (bitsD n m) := by
  intro m
  induction m with
  | zero => intro x hx; simp [bitsD] at hx
  | succ m ih =>
    intro x hx
    rcases List.mem_cons.mp hx with h | h
    · rw [h]
      omega
    · exact ih x h
/-! #### a diagram that is made value by value -/
def madeT (fn : List Int → Int) : Nat → List Int → DT
  | 0, bits => .leaf (fn bits)
  | m + 1, bits => .fork (bits.length : Int) (madeT fn m (bits ++ [0])) (madeT fn m (bits ++ [1]))
def allvals (fn : List Int → Int) : Nat → List Int → List Int
  | 0, bits => [fn bits]
  | m + 1, bits => allvals fn m (bits ++ [0]) ++ allvals fn m (bits ++ [1])
theorem allvals_len (fn : List Int → Int) : ∀ (m : Nat) (bits : List Int), (allvals fn m bits).length = 2 ^ m := by
  intro m
  induction m with
  | zero => intro bits; rfl
  | succ m ih =>
    intro bits
    unfold allvals
    rw [List.length_append, ih, ih, Nat.pow_succ]
    omega
theorem rows_made (fn : List Int → Int) : ∀ (m : Nat) (bits : List Int), rowsT m (bits.length : Int) (allvals fn m bits) = madeT fn m bits := by
  intro m
  induction m with
  | zero => intro bits; rfl
  | succ m ih =>
    intro bits
    have h1 := allvals_len fn m (bits ++ [0])
    have h2 := allvals_len fn m (bits ++ [1])
    have hh : (allvals fn (m + 1) bits).length / 2 = (allvals fn m (bits ++ [0])).length := by
      rw [allvals_len, h1, Nat.pow_succ]
      omega
    have e1 := ih (bits ++ [0])
    have e2 := ih (bits ++ [1])
    rw [List.length_append, List.length_singleton] at e1 e2
    show DT.fork (bits.length : Int) (rowsT m ((bits.length : Int) + 1) ((allvals fn (m + 1) bits).take ((allvals fn (m + 1) bits).length / 2))) (rowsT m ((bits.length : Int) + 1) ((allvals fn (m + 1) bits).drop ((allvals fn (m + 1) bits).length / 2))) = _
    rw [hh]
    show DT.fork (bits.length : Int) (rowsT m ((bits.length : Int) + 1) ((allvals fn m (bits ++ [0]) ++ allvals fn m (bits ++ [1])).take (allvals fn m (bits ++ [0])).length)) (rowsT m ((bits.length : Int) + 1) ((allvals fn m (bits ++ [0]) ++ allvals fn m (bits ++ [1])).drop (allvals fn m (bits ++ [0])).length)) = _
    rw [List.take_left, List.drop_left]
    have c : ((bits.length + 1 : Nat) : Int) = (bits.length : Int) + 1 := by omega
    rw [c] at e1 e2
    rw [e1, e2]
    rfl
theorem bitsD_low (n : Nat) (m : Nat) : ∀ d, d ≤ m → bitsD ((2 ^ m + n : Nat) : Int) d = bitsD (n : Int) d := by
  intro d
  induction d with
  | zero => intro _; rfl
  | succ d ih =>
    intro hd
    unfold bitsD
    rw [ih (by omega)]
    congr 1
    have e : (2 : Int) ^ d = ((2 ^ d : Nat) : Int) := by simp
    rw [e, ← Int.natCast_ediv, ← Int.natCast_ediv]
    have h1 : 2 ^ m = 2 ^ (m - d - 1) * 2 * 2 ^ d := by
      rw [Nat.mul_assoc, ← Nat.pow_succ', ← Nat.pow_add]
      congr 1
      omega
    have h2 : (2 ^ m + n) / 2 ^ d = 2 ^ (m - d - 1) * 2 + n / 2 ^ d := by
      rw [h1, Nat.mul_comm (2 ^ (m - d - 1) * 2) (2 ^ d), Nat.mul_add_div (Nat.pow_pos (by decide))]
    rw [h2]
    omega
theorem allvals_rows (fn : List Int → Int) : ∀ (m : Nat) (bits : List Int), allvals fn m bits = (List.range (2 ^ m)).map (fun i => fn (bits ++ bitsD ((i : Nat) : Int) m)) := by
  intro m
  induction m with
  | zero =>
    intro bits
    show [fn bits] = [fn (bits ++ [])]
    rw [List.append_nil]
  | succ m ih =>
    intro bits
    have hp : 2 ^ (m + 1) = 2 ^ m + 2 ^ m := by rw [Nat.pow_succ]; omega
    rw [hp, List.range_add, List.map_append, List.map_map]
    unfold allvals
    rw [ih, ih]
    have hpos : 0 < 2 ^ m := Nat.pow_pos (by decide)
    have ei : (2 : Int) ^ m = ((2 ^ m : Nat) : Int) := by simp
    congr 1
    · apply List.map_congr_left
      intro i hi
      have hi := List.mem_range.mp hi
      have e : bitsD (i : Int) (m + 1) = 0 :: bitsD (i : Int) m := by
        show ((i : Int) / 2 ^ m % 2) :: _ = _
        rw [ei, ← Int.natCast_ediv, Nat.div_eq_of_lt hi]
        rfl
      rw [e, List.append_assoc]
      rfl
    · apply List.map_congr_left
      intro i hi
      have hi := List.mem_range.mp hi
      have e : bitsD ((2 ^ m + i : Nat) : Int) (m + 1) = 1 :: bitsD (i : Int) m := by
        show (((2 ^ m + i : Nat) : Int) / 2 ^ m % 2) :: bitsD ((2 ^ m + i : Nat) : Int) m = _
        rw [bitsD_low i m m (Nat.le_refl _), ei, ← Int.natCast_ediv, Nat.add_div_left _ hpos, Nat.div_eq_of_lt hi]
        rfl
      show fn (bits ++ [1] ++ bitsD (i : Int) m) = fn (bits ++ bitsD ((2 ^ m + i : Nat) : Int) (m + 1))
      rw [e, List.append_assoc]
      rfl
theorem madeT_ok {vars : Int} {L : List S71} (hL : DV vars L) (fn : List Int → Int) (hfn : ∀ bits, BitRow bits → (bits.length : Int) = vars → fn bits = 0 ∨ fn bits = 1) : ∀ (m : Nat) (bits : List Int), BitRow bits → (bits.length : Int) + m = vars → TOk vars L (bits.length : Int) (madeT fn m bits) := by
  intro m
  induction m with
  | zero =>
    intro bits hb hl
    have := hfn bits hb (by omega)
    unfold madeT
    refine ⟨⟨by omega, by omega⟩, ?_⟩
    unfold dvar
    rw [if_pos (by omega)]
    omega
  | succ m ih =>
    intro bits hb hl
    have k : ∀ c : Int, c = 0 ∨ c = 1 → TOk vars L ((bits.length : Int) + 1) (madeT fn m (bits ++ [c])) := fun c hc => by
      have := ih (bits ++ [c]) (fun x hx => by
        rcases List.mem_append.mp hx with h | h
        · exact hb x h
        · rw [List.mem_singleton.mp h]
          exact hc) (by simp; omega)
      rw [List.length_append, List.length_singleton] at this
      exact this
    unfold madeT
    exact ⟨Int.le_refl _, by omega, by omega, k 0 (.inl rfl), k 1 (.inr rfl)⟩
theorem dadd_bound {L : List S71} {v lo hi : Int} (hl : L.length ≤ 2000) (h2 : lo ≤ 2001) : (dadd L v lo hi).1.length ≤ 2000 ∧ (dadd L v lo hi).2 ≤ 2001 := by
  unfold dadd
  split
  · exact ⟨hl, show (-1 : Int) ≤ 2001 by decide⟩
  split
  · exact ⟨hl, h2⟩
  split
  · next i hf =>
    have := (List.getElem?_eq_some_iff.1 (dfind_some hf)).1
    exact ⟨hl, by show (i : Int) + 2 ≤ 2001; omega⟩
  split
  · exact ⟨hl, show (-1 : Int) ≤ 2001 by decide⟩
  · exact ⟨by simp; omega, by show (L.length : Int) + 2 ≤ 2001; omega⟩
structure WInv (vars : Int) (s : FS) : Prop where
  vs : s.vars = vars
  seen : s.seen = seenP s.forks
  len : s.forks.length ≤ 2000
theorem bit_val (b : Bool) : impl_bit.f b = some (if b = true then 1 else 0) := by
  unfold impl_bit.f
  cases b <;> rfl
theorem made_val {vars : Int} (h12 : vars ≤ 12) (is : Nat → List Int → Option Bool) (fn : List Int → Int) (hfn : ∀ bits, BitRow bits → (bits.length : Int) = vars → (fn bits = 0 ∨ fn bits = 1) ∧ Ev (fun k => is k bits) (fn bits == 1)) :
    ∀ (m : Nat) (s : FS) (bits : List Int), WInv vars s → (bits.length : Int) + m = vars → BitRow bits →
    ∃ s' r, (∃ K, ∀ k j, K ≤ k → K ≤ j → impl_forking_made.f k (is j) s bits = some (s', r)) ∧ WInv vars s' ∧ 0 ≤ r ∧ r ≤ 2001 ∧ (s.full = true → s'.full = true) ∧
      (s.full = false → DV vars s.forks → ((ins s.forks (madeT fn m bits)).2 < 0 → s'.full = true) ∧ (0 ≤ (ins s.forks (madeT fn m bits)).2 → s'.full = false ∧ s'.forks = (ins s.forks (madeT fn m bits)).1 ∧ r = (ins s.forks (madeT fn m bits)).2)) := by
  intro m
  induction m with
  | zero =>
    intro s bits hw hl hb
    cases hf : s.full with
    | true =>
      refine ⟨s, 0, ⟨1, fun k j hk _ => ?_⟩, hw, by decide, by decide, fun _ => hf, fun h => (by cases h)⟩
      obtain ⟨k, rfl⟩ : ∃ q, k = q + 1 := ⟨k - 1, by omega⟩
      rw [impl_forking_made.f, if_pos hf]
    | false =>
      obtain ⟨h01, K, hK⟩ := hfn bits hb (by omega)
      refine ⟨s, fn bits, ⟨K + 1, fun k j hk hj => ?_⟩, hw, by omega, by omega, fun h => (by cases h), fun _ _ => ⟨fun hn => ?_, fun _ => ⟨hf, rfl, rfl⟩⟩⟩
      · obtain ⟨k, rfl⟩ : ∃ q, k = q + 1 := ⟨k - 1, by omega⟩
        rw [impl_forking_made.f, if_neg (by rw [hf]; decide), if_pos (by rw [hw.vs]; omega), show is j bits = some (fn bits == 1) from hK j (by omega), Option.bind_some, bit_val, Option.bind_some]
        rcases h01 with h | h <;> rw [h] <;> rfl
      · have : fn bits < 0 := hn
        omega
  | succ m ih =>
    intro s bits hw hl hb
    cases hf : s.full with
    | true =>
      refine ⟨s, 0, ⟨1, fun k j hk _ => ?_⟩, hw, by decide, by decide, fun _ => hf, fun h => (by cases h)⟩
      obtain ⟨k, rfl⟩ : ∃ q, k = q + 1 := ⟨k - 1, by omega⟩
      rw [impl_forking_made.f, if_pos hf]
    | false =>
      have bsn : ∀ c : Int, c = 0 ∨ c = 1 → BitRow (bits ++ [c]) := fun c hc x hx => by
        rcases List.mem_append.mp hx with h | h
        · exact hb x h
        · rw [List.mem_singleton.mp h]
          exact hc
      obtain ⟨s1, r1, ⟨K1, e1⟩, w1, p1, q1, f1, g1⟩ := ih s (bits ++ [0]) hw (by simp; omega) (bsn 0 (.inl rfl))
      obtain ⟨s2, r2, ⟨K2, e2⟩, w2, p2, q2, f2, g2⟩ := ih s1 (bits ++ [1]) w1 (by simp; omega) (bsn 1 (.inr rfl))
      obtain ⟨s3, r3, ef, k1, k2, k3, k4, k5⟩ := fork_val s2 (bits.length : Int) r1 r2 (show KeyI (bits.length : Int) ∧ KeyI r1 ∧ KeyI r2 from ⟨keyI (by omega) (by omega), keyI p1 (by omega), keyI p2 (by omega)⟩) p1 p2 w2.seen
      have hbd := dadd_bound (L := s2.forks) (v := (bits.length : Int)) (lo := r1) (hi := r2) w2.len q1
      have hr3 : 0 ≤ r3 ∧ r3 ≤ 2001 := by
        by_cases c : (dadd s2.forks (bits.length : Int) r1 r2).2 < 0
        · rw [if_pos c] at k5
          omega
        · rw [if_neg c] at k5
          omega
      have full2 : s2.full = true → s3.full = true := fun h => by
        by_cases c : (dadd s2.forks (bits.length : Int) r1 r2).2 < 0
        · rw [if_pos c] at k5
          exact k5.1
        · rw [if_neg c] at k5
          rw [k5.1]
          exact h
      refine ⟨s3, r3, ⟨max K1 K2 + 1, fun k j hk hj => ?_⟩, ⟨by rw [k1]; exact w2.vs, k3, by rw [k4]; exact hbd.1⟩, hr3.1, hr3.2, fun h => (by cases h), fun _ hd => ?_⟩
      · obtain ⟨k, rfl⟩ : ∃ q, k = q + 1 := ⟨k - 1, by omega⟩
        rw [impl_forking_made.f, if_neg (by rw [hf]; decide), if_neg (by rw [hw.vs]; omega), if_pos (by omega), e1 k j (by omega) (by omega), Option.bind_some]
        simp only
        rw [e2 k j (by omega) (by omega), Option.bind_some]
        exact ef
      · have hT : ins s.forks (madeT fn (m + 1) bits) = if (ins s.forks (madeT fn m (bits ++ [0]))).2 < 0 then (s.forks, -1) else dadd (ins (ins s.forks (madeT fn m (bits ++ [0]))).1 (madeT fn m (bits ++ [1]))).1 (bits.length : Int) (ins s.forks (madeT fn m (bits ++ [0]))).2 (ins (ins s.forks (madeT fn m (bits ++ [0]))).1 (madeT fn m (bits ++ [1]))).2 := by
          show ins s.forks (.fork (bits.length : Int) (madeT fn m (bits ++ [0])) (madeT fn m (bits ++ [1]))) = _
          rw [ins_fork]
        rw [hT]
        obtain ⟨gn, gy⟩ := g1 hf hd
        by_cases cl : (ins s.forks (madeT fn m (bits ++ [0]))).2 < 0
        · rw [if_pos cl]
          exact ⟨fun _ => full2 (f2 (gn cl)), fun h => (neg1 h).elim⟩
        rw [if_neg cl]
        obtain ⟨z1, z2, z3⟩ := gy (by omega)
        have hok := madeT_ok hd fn (fun b hb hl => (hfn b hb hl).1) m (bits ++ [0]) (bsn 0 (.inl rfl)) (by simp; omega)
        have hd1 := (dv_ins hd hok).1
        rw [← z2, ← z3]
        rw [← z2] at hd1
        obtain ⟨gn2, gy2⟩ := g2 z1 hd1
        by_cases ch : (ins s1.forks (madeT fn m (bits ++ [1]))).2 < 0
        · have hneg : dadd (ins s1.forks (madeT fn m (bits ++ [1]))).1 (bits.length : Int) r1 (ins s1.forks (madeT fn m (bits ++ [1]))).2 = ((ins s1.forks (madeT fn m (bits ++ [1]))).1, -1) := by
            unfold dadd
            rw [if_pos (.inr ch)]
          rw [hneg]
          exact ⟨fun _ => full2 (gn2 ch), fun h => (neg1 h).elim⟩
        obtain ⟨z4, z5, z6⟩ := gy2 (by omega)
        rw [← z5, ← z6]
        refine ⟨fun h => ?_, fun h => ?_⟩
        · rw [if_pos h] at k5
          exact k5.1
        · rw [if_neg (by omega)] at k5
          exact ⟨k5.1.trans z4, k4, k5.2⟩
/-! #### the diagram of an edge: the reference and the program -/
def OfAsk (inputs : Int) (L : List S121) (e : Int) : Prop := CV inputs L ∧ (0 ≤ e ∧ e ≤ 2 * (1 + inputs + (L.length : Int)) - 1)
def OfIs (inputs : Int) (L : List S121) (e : Int) (r : Int × List S71 × Int) : Prop :=
  (OfAsk inputs L e → r = told inputs (ins [] (madeT (edgeV L e) inputs.toNat []))) ∧ (¬ OfAsk inputs L e → r = (0, [], -1))
theorem edgeV_01 {inputs : Int} {L : List S121} (h : CV inputs L) {e : Int} (he : 0 ≤ e ∧ e ≤ 2 * (1 + inputs + (L.length : Int)) - 1) {bits : List Int} (hb : BitRow bits) (hl : (bits.length : Int) = inputs) : edgeV L e bits = 0 ∨ edgeV L e bits = 1 := by
  obtain ⟨_, k2, k3⟩ := impl_values_val h hl hb
  exact edv_01 k2 he.1 (by rw [k3]; omega)
theorem ofIs_ex (inputs : Int) (L : List S121) (e : Int) : ∃ r, OfIs inputs L e r ∧ r.2.1.length ≤ 2000 := by
  by_cases c : OfAsk inputs L e
  · refine ⟨_, ⟨fun _ => rfl, fun h => absurd c h⟩, ?_⟩
    have h0 := c.1.i0
    have := (dv_ins (dv_nil c.1.i0 c.1.i12) (madeT_ok (dv_nil c.1.i0 c.1.i12) (edgeV L e) (fun b hb hl => edgeV_01 c.1 c.2 hb hl) inputs.toNat [] (fun x hx => by simp at hx) (by simp; omega))).1.len
    unfold told
    split
    · exact Nat.zero_le _
    · exact this
  · exact ⟨(0, [], -1), ⟨fun h => absurd h c, fun _ => rfl⟩, Nat.zero_le _⟩
theorem shl_pow (m : Nat) (h : m ≤ 12) : shl .i64 1 (m : Int) = ((2 ^ m : Nat) : Int) := by
  have : m = 0 ∨ m = 1 ∨ m = 2 ∨ m = 3 ∨ m = 4 ∨ m = 5 ∨ m = 6 ∨ m = 7 ∨ m = 8 ∨ m = 9 ∨ m = 10 ∨ m = 11 ∨ m = 12 := by omega
  rcases this with rfl | rfl | rfl | rfl | rfl | rfl | rfl | rfl | rfl | rfl | rfl | rfl | rfl <;> rfl
theorem spec_of_loop {m : Nat} {L : List S121} (h : CV (m : Int) L) {e : Int} (he : 0 ≤ e ∧ e ≤ 2 * (1 + (m : Int) + (L.length : Int)) - 1) : ∀ (d i : Nat), i + d = 2 ^ m →
    Ev (fun k => spec_DiagramOf.l0 k e ((List.range i).map (fun j => edgeV L e (bitsD ((j : Nat) : Int) m))) (i : Int) (m : Int) L) (told (m : Int) (ins [] (madeT (edgeV L e) m []))) := by
  have h12 := h.i12
  have hp : (2 : Nat) ^ m ≤ 4096 := Nat.le_trans (Nat.pow_le_pow_right (by decide) (show m ≤ 12 by omega)) (by decide)
  intro d
  induction d with
  | zero =>
    intro i hi
    have hi2 : i = 2 ^ m := by omega
    subst hi2
    refine Ev.step (Ev.pos (by omega) ?_) (fun k => spec_DiagramOf.l0.eq_2 ..)
    rw [shl_pow m (by omega)]
    have ev : (List.range (2 ^ m)).map (fun j => edgeV L e (bitsD ((j : Nat) : Int) m)) = allvals (edgeV L e) m [] := (allvals_rows (edgeV L e) m []).symm
    rw [ev]
    have hb : BitRow (allvals (edgeV L e) m []) := by
      rw [← ev]
      intro x hx
      obtain ⟨j, _, rfl⟩ := List.mem_map.mp hx
      exact edgeV_01 h he (bitsD_bits _ _) (by rw [bitsD_length])
    have hT := rows_made (edgeV L e) m []
    have hr := spec_rows m [] 0 (allvals (edgeV L e) m []) (dv_nil h.i0 h.i12) (Int.le_refl _) (by omega) (allvals_len _ _ _) hb
    rw [show rowsT m 0 (allvals (edgeV L e) m []) = madeT (edgeV L e) m [] from hT] at hr
    refine Ev.neg (by omega) (Ev.bind hr (Ev.bind (a := told (m : Int) (ins [] (madeT (edgeV L e) m []))) (Ev.const ?_) (Ev.val _)))
    unfold spec_l8Told.f told
    by_cases c : (ins [] (madeT (edgeV L e) m [])).2 < 0
    · rw [if_pos c, if_pos c]
    · rw [if_neg c, if_neg c]
  | succ d ih =>
    intro i hi
    refine Ev.step (Ev.pos (by omega) ?_) (fun k => spec_DiagramOf.l0.eq_2 ..)
    rw [shl_pow m (by omega)]
    have hbl : ((bitsD (i : Int) m).length : Int) = (m : Int) := by rw [bitsD_length]
    obtain ⟨_, k2, k3⟩ := impl_values_val h hbl (bitsD_bits _ _)
    refine Ev.pos (by omega) (Ev.bind (spec_value (i : Int) (by omega) m (by omega)) (Ev.bind (spec_run_val h hbl (bitsD_bits _ _)) (Ev.bind (Ev.const (spec_l7Of_val k2 (by have := h.len; omega) he.1 (by rw [k3]; omega))) (Ev.pos (by simp; omega) ?_))))
    rw [wsucc i (by omega)]
    have e1 : (List.range i).map (fun j => edgeV L e (bitsD ((j : Nat) : Int) m)) ++ [edv (allNodes L (bitsD (i : Int) m)) e] = (List.range (i + 1)).map (fun j => edgeV L e (bitsD ((j : Nat) : Int) m)) := by
      rw [List.range_succ, List.map_append]
      rfl
    rw [e1]
    exact ih (i + 1) (by omega)
theorem spec_of {inputs e : Int} {L : List S121} {r : Int × List S71 × Int} (h : OfIs inputs L e r) : Ev (fun k => spec_DiagramOf.f k inputs L e) r := by
  obtain ⟨hy, hn⟩ := h
  unfold spec_DiagramOf.f
  have e0 : Ev (fun k => spec_DiagramOf.j0 k e true inputs L) (0, [], -1) := Ev.step (Ev.pos rfl (Ev.val _)) (fun k => spec_DiagramOf.j0.eq_2 ..)
  obtain ⟨q, hb, h1⟩ := spec_cv inputs L
  cases q with
  | false =>
    rw [hn (fun h => by have := h1.2 h.1; cases this)]
    exact Ev.bind hb (Ev.neg (by decide) e0)
  | true =>
    have hd := h1.1 rfl
    refine Ev.bind hb (Ev.pos rfl (Ev.bind (Ev.const (spec_edge hd e)) ?_))
    by_cases c : 0 ≤ e ∧ e ≤ 2 * (1 + inputs + (L.length : Int)) - 1
    · rw [decide_eq_true c, hy ⟨hd, c⟩]
      obtain ⟨m, rfl⟩ := Int.eq_ofNat_of_zero_le hd.i0
      exact Ev.step (Ev.neg (by decide) (spec_of_loop hd c (2 ^ m) 0 (by omega))) (fun k => spec_DiagramOf.j0.eq_2 ..)
    · rw [decide_eq_false c, hn (fun h => c h.2)]
      exact e0
theorem is_val {inputs e : Int} {L : List S121} (h : OfAsk inputs L e) {bits : List Int} (hb : BitRow bits) (hl : (bits.length : Int) = inputs) : Ev (fun k => impl_DiagramOf.is k inputs L e bits) (edgeV L e bits == 1) := by
  obtain ⟨k1, k2, k3⟩ := impl_values_val h.1 hl hb
  have h12 := h.1.i12
  unfold impl_DiagramOf.is
  exact Ev.bind k1 (Ev.bind (Ev.const (impl_edgeOf_val k2 (by have := h.1.len; omega) h.2.1 (by rw [k3]; have := h.2.2; omega))) (Ev.val _))
theorem of_v {inputs e : Int} {L : List S121} {r : Int × List S71 × Int} (h : OfIs inputs L e r) : Ev (fun k => impl_DiagramOf.f k inputs L e) r := by
  obtain ⟨hy, hn⟩ := h
  unfold impl_DiagramOf.f
  obtain ⟨q, hb, h1⟩ := impl_cv inputs L
  refine Ev.bind hb ?_
  cases q with
  | false =>
    rw [hn (fun h => by have := h1.2 h.1; cases this)]
    exact Ev.pos rfl (Ev.val _)
  | true =>
    have hd := h1.1 rfl
    refine Ev.neg (by decide) (Ev.bind (Ev.const (impl_edge hd e)) ?_)
    by_cases c : 0 ≤ e ∧ e ≤ 2 * (1 + inputs + (L.length : Int)) - 1
    · have ask : OfAsk inputs L e := ⟨hd, c⟩
      rw [decide_eq_true c, hy ask]
      obtain ⟨m, rfl⟩ := Int.eq_ofNat_of_zero_le hd.i0
      have dn := dv_nil hd.i0 hd.i12
      have w0 : WInv (m : Int) (fs0 (m : Int) []) := ⟨rfl, rfl, Nat.zero_le _⟩
      obtain ⟨s', n, ⟨K, hK⟩, w1, _, _, _, g⟩ := made_val hd.i12 (fun k => impl_DiagramOf.is k (m : Int) L e) (edgeV L e) (fun b hb hl => ⟨edgeV_01 hd c hb hl, is_val ask hb hl⟩) m (fs0 (m : Int) []) [] w0 (by simp) (fun x hx => by simp at hx)
      obtain ⟨gn, gy⟩ := g rfl dn
      have gn' : (ins [] (madeT (edgeV L e) m [])).2 < 0 → s'.full = true := gn
      have gy' : 0 ≤ (ins [] (madeT (edgeV L e) m [])).2 → s'.full = false ∧ s'.forks = (ins [] (madeT (edgeV L e) m [])).1 ∧ n = (ins [] (madeT (edgeV L e) m [])).2 := gy
      have ev : Ev (fun k => impl_forking_made.f k (impl_DiagramOf.is k (m : Int) L e) (fs0 (m : Int) []) []) (s', n) := ⟨K, fun k hk => hK k k hk hk⟩
      refine Ev.neg (by decide) (Ev.bind (Ev.const (forkingOf_val dn)) (Ev.bind ev (Ev.const ?_)))
      show impl_forking_done.f s' n = told (m : Int) (ins [] (madeT (edgeV L e) m []))
      rw [done_val s' n w1.len]
      unfold told
      by_cases cn : (ins [] (madeT (edgeV L e) m [])).2 < 0
      · rw [if_pos cn, if_pos (gn' cn)]
      · obtain ⟨z1, z2, z3⟩ := gy' (by omega)
        rw [if_neg cn, if_neg (by rw [z1]; decide), w1.vs, z2, z3]
    · rw [decide_eq_false c, hn (fun h => c h.2)]
      exact Ev.pos rfl (Ev.val _)
/-! #### the sum of a place's values over all rows of bits -/
def sumTo (f : Nat → Int) : Nat → Int
  | 0 => 0
  | n + 1 => sumTo f n + f n
theorem sumTo_ext {f g : Nat → Int} : ∀ n : Nat, (∀ i, i < n → f i = g i) → sumTo f n = sumTo g n := by
  intro n
  induction n with
  | zero => intro _; rfl
  | succ n ih =>
    intro h
    unfold sumTo
    rw [ih (fun i hi => h i (by omega)), h n (by omega)]
theorem sumTo_two (f : Nat → Int) : ∀ n : Nat, sumTo f (2 * n) = sumTo (fun i => f (2 * i)) n + sumTo (fun i => f (2 * i + 1)) n := by
  intro n
  induction n with
  | zero => rfl
  | succ n ih =>
    show sumTo f (2 * n + 1 + 1) = _
    unfold sumTo
    show sumTo f (2 * n) + f (2 * n) + f (2 * n + 1) = sumTo (fun i => f (2 * i)) n + f (2 * n) + (sumTo (fun i => f (2 * i + 1)) n + f (2 * n + 1))
    rw [ih]
    omega
theorem sumTo_bound {f : Nat → Int} : ∀ n : Nat, (∀ i, i < n → f i = 0 ∨ f i = 1) → 0 ≤ sumTo f n ∧ sumTo f n ≤ (n : Int) := by
  intro n
  induction n with
  | zero => intro _; exact ⟨Int.le_refl _, Int.le_refl _⟩
  | succ n ih =>
    intro h
    have h1 := ih (fun i hi => h i (by omega))
    have h2 := h n (by omega)
    unfold sumTo
    omega
/-- The bits of a number, the low one first. -/
def bitsL : Nat → Nat → List Int
  | _, 0 => []
  | n, m + 1 => ((n % 2 : Nat) : Int) :: bitsL (n / 2) m
theorem bitsL_length : ∀ (m n : Nat), (bitsL n m).length = m := by
  intro m
  induction m with
  | zero => intro n; rfl
  | succ m ih =>
    intro n
    unfold bitsL
    rw [List.length_cons, ih]
theorem bitsL_bits : ∀ (m n : Nat), BitRow (bitsL n m) := by
  intro m
  induction m with
  | zero => intro n x hx; simp [bitsL] at hx
  | succ m ih =>
    intro n x hx
    rcases List.mem_cons.mp hx with h | h
    · rw [h]
      omega
    · exact ih _ x h
theorem bitsL_snoc : ∀ (m n : Nat), bitsL n (m + 1) = bitsL n m ++ [((n / 2 ^ m % 2 : Nat) : Int)] := by
  intro m
  induction m with
  | zero =>
    intro n
    show ((n % 2 : Nat) : Int) :: [] = _
    simp [bitsL]
  | succ m ih =>
    intro n
    show ((n % 2 : Nat) : Int) :: bitsL (n / 2) (m + 1) = ((n % 2 : Nat) : Int) :: bitsL (n / 2) m ++ _
    rw [ih, List.cons_append, Nat.div_div_eq_div_mul, Nat.pow_succ, Nat.mul_comm 2]
theorem scP_split {vars : Int} {L : List S71} (h : DV vars L) {n v : Int} (p : Pl L n) (v1 : v ≤ dvar vars L n) (v2 : v < vars) : scP vars L n v = scP vars L (gat L n v false) (v + 1) + scP vars L (gat L n v true) (v + 1) := by
  by_cases e : v = dvar vars L n
  · have c : ¬ n < 2 := (dvar_two h p).1 (by omega)
    rw [scP_fork h p c, ← e, Int.sub_self]
    simp
  · have hlt : v < dvar vars L n := by omega
    rw [gat_above hlt, gat_above hlt, sc_shift h p (w := v + 1) (by omega) (by omega), show (v + 1 - v).toNat = 1 by omega]
    omega
theorem sum_bits {vars : Int} {L : List S71} (h : DV vars L) : ∀ (m : Nat) (pre : List Int) (n : Int), Pl L n → (pre.length : Int) + m = vars → (pre.length : Int) ≤ dvar vars L n →
    sumTo (fun i => dvP vars L (pre ++ bitsL i m) n) (2 ^ m) = scP vars L n pre.length := by
  intro m
  induction m with
  | zero =>
    intro pre n p hm hd
    have c : n < 2 := Decidable.byContradiction (fun c => by have := (dvar_two h p).2 c; omega)
    show 0 + dvP vars L _ n = _
    rw [dvP_const c, scP_const c, show (vars - (pre.length : Int)).toNat = 0 by omega]
    simp
  | succ m ih =>
    intro pre n p hm hd
    have f := fun hi => gat_ok h p hd (by omega) hi
    have one : ∀ b : Int, b = 0 ∨ b = 1 → sumTo (fun i => dvP vars L ((pre ++ [b]) ++ bitsL i m) (gat L n (pre.length : Int) (decide (b = 1)))) (2 ^ m) = scP vars L (gat L n (pre.length : Int) (decide (b = 1))) ((pre.length : Int) + 1) := by
      intro b _
      have := ih (pre ++ [b]) (gat L n (pre.length : Int) (decide (b = 1))) (f _).1 (by simp; omega) (by have := (f (decide (b = 1))).2; simp; omega)
      rw [show (((pre ++ [b]).length : Nat) : Int) = (pre.length : Int) + 1 by simp] at this
      exact this
    have st : ∀ (b : Int) (t : List Int), dvP vars L (pre ++ b :: t) n = dvP vars L ((pre ++ [b]) ++ t) (gat L n (pre.length : Int) (decide (b = 1))) := by
      intro b t
      have := dvP_gat (v := (pre.length : Int)) h (pre ++ b :: t) p
      rw [rd_mid] at this
      rw [← this, List.append_assoc]
      rfl
    have h0 := one 0 (.inl rfl)
    have h1 := one 1 (.inr rfl)
    rw [show decide ((0 : Int) = 1) = false by decide] at h0
    rw [show decide ((1 : Int) = 1) = true by decide] at h1
    rw [scP_split h p hd (by omega), ← h0, ← h1, Nat.pow_succ, Nat.mul_comm, sumTo_two]
    congr 1
    · apply sumTo_ext
      intro i _
      show dvP vars L (pre ++ ((2 * i % 2 : Nat) : Int) :: bitsL (2 * i / 2) m) n = _
      rw [show 2 * i % 2 = 0 by omega, show 2 * i / 2 = i by omega, st]
      rfl
    · apply sumTo_ext
      intro i _
      show dvP vars L (pre ++ (((2 * i + 1) % 2 : Nat) : Int) :: bitsL ((2 * i + 1) / 2) m) n = _
      rw [show (2 * i + 1) % 2 = 1 by omega, show (2 * i + 1) / 2 = i by omega, st]
      rfl
/-- The value of a tree that was made value by value. -/
theorem madeT_val {vars : Int} {L : List S71} (fn : List Int → Int) (bits : List Int) (hb : BitRow bits) (hf : fn bits < 2) : ∀ (rest pre : List Int), bits = pre ++ rest → tval vars L bits (madeT fn rest.length pre) = fn bits := by
  intro rest
  induction rest with
  | nil =>
    intro pre e
    rw [List.append_nil] at e
    subst e
    exact dvP_const hf
  | cons b rest ih =>
    intro pre e
    have hb1 : b = 0 ∨ b = 1 := hb b (by rw [e]; simp)
    have hr : rd bits ((pre.length : Nat) : Int) = b := by rw [e, rd_mid]
    show (if rd bits ((pre.length : Nat) : Int) = 1 then tval vars L bits (madeT fn rest.length (pre ++ [1])) else tval vars L bits (madeT fn rest.length (pre ++ [0]))) = _
    rw [hr]
    rcases hb1 with rfl | rfl
    · rw [if_neg (by decide)]
      exact ih (pre ++ [0]) (by rw [e, List.append_assoc]; rfl)
    · rw [if_pos rfl]
      exact ih (pre ++ [1]) (by rw [e, List.append_assoc]; rfl)
/-! #### drawn circuits -/
theorem l7nodes_ev (a : Int) (L : List S121) : ∃ t, Ev (fun _ => spec_l7Nodes.f a L) t := ⟨_, Ev.val _⟩
theorem l7draw_loop (b : List Int) (hb : Drawer b) : ∀ (d : Nat) (inputs : Int) (L : List S121) (p : Int), 0 ≤ p → p + 2 * d ≤ 900000 → L.length + d ≤ 14 →
    Tot (fun k => spec_l7Draw.l0 k (d : Int) b p inputs L) (fun r => r.1 = inputs ∧ r.2.1.length ≤ 14 ∧ 0 ≤ r.2.2 ∧ r.2.2 ≤ p + 2 * d) := by
  intro d
  induction d with
  | zero =>
    intro inputs L p p0 p1 hl
    exact Tot.step (Tot.neg (by omega) (Tot.val ⟨rfl, by show L.length ≤ 14; omega, p0, by show p ≤ p + _; omega⟩)) (fun k => spec_l7Draw.l0.eq_2 ..)
  | succ d ih =>
    intro inputs L p p0 p1 hl
    obtain ⟨t, ht⟩ := l7nodes_ev inputs L
    refine Tot.step (Tot.pos (by omega) (Tot.bind (Tot.of ht (P := fun _ => True) trivial) ?_)) (fun k => spec_l7Draw.l0.eq_2 ..)
    intro t _
    refine Tot.bind (pick_tot b hb p _ p0 (by omega)) ?_
    rintro ⟨y, q⟩ ⟨e1, _⟩
    simp only at e1 ⊢
    subst e1
    refine Tot.bind (pick_tot b hb (p + 1) _ (by omega) (by omega)) ?_
    rintro ⟨z, q⟩ ⟨e1, _⟩
    simp only at e1 ⊢
    subst e1
    refine Tot.pos (by omega) ?_
    rw [w_id (x := ((d + 1 : Nat) : Int) - 1) (by omega) (by omega), show ((d + 1 : Nat) : Int) - 1 = (d : Int) by omega]
    refine (ih inputs _ (p + 1 + 1) (by omega) (by omega) (by simp; omega)).mono ?_
    rintro r ⟨r1, r2, r3, r4⟩
    exact ⟨r1, r2, r3, by omega⟩
theorem l7draw_tot (b : List Int) (hb : Drawer b) (p most : Int) (p0 : 0 ≤ p) (p1 : p ≤ 50000) (m0 : 0 ≤ most) (m1 : most ≤ 100) : Tot (fun k => spec_l7Draw.f k b p most) (fun r => (0 ≤ r.1 ∧ r.1 ≤ most) ∧ r.2.1.length ≤ 14 ∧ 0 ≤ r.2.2 ∧ r.2.2 ≤ p + 30) := by
  unfold spec_l7Draw.f
  rw [w_id (by omega) (by omega)]
  refine Tot.bind (pick_tot b hb p _ p0 (by omega)) ?_
  rintro ⟨y, q⟩ ⟨e1, y0, y1⟩
  simp only at e1 y0 y1 ⊢
  subst e1
  have y2 := y1 (by omega)
  refine Tot.bind (num_tot b hb (p + 1) _ (by omega) (by omega) (by simp)) ?_
  rintro ⟨d, q⟩ ⟨e1, hd⟩
  simp only at e1 hd ⊢
  subst e1
  have hd3 : 0 ≤ d ∧ d ≤ 14 := by simp at hd; omega
  obtain ⟨n, rfl⟩ := Int.eq_ofNat_of_zero_le hd3.1
  refine (l7draw_loop b hb n y [] (p + 1 + 1) (by omega) (by omega) (by simp; omega)).mono ?_
  rintro r ⟨r1, r2, r3, r4⟩
  exact ⟨by omega, r2, r3, by omega⟩
theorem l7any_tot (b : List Int) (hb : Drawer b) (p most : Int) (p0 : 0 ≤ p) (p1 : p ≤ 50000) (m0 : 0 ≤ most) (m1 : most ≤ 13) : Tot (fun k => spec_l7Any.f k b p most) (fun r => (-1 ≤ r.1 ∧ r.1 ≤ 13) ∧ r.2.1.length ≤ 14 ∧ 0 ≤ r.2.2 ∧ r.2.2 ≤ p + 40) := by
  unfold spec_l7Any.f
  refine Tot.bind (l7draw_tot b hb p most p0 p1 m0 (by omega)) ?_
  rintro ⟨i, L, q⟩ ⟨⟨i0, i1⟩, hl, q0, q1⟩
  simp only at i0 i1 hl q0 q1 ⊢
  refine Tot.bind (pick_tot b hb q 14 q0 (by omega)) ?_
  rintro ⟨y, q⟩ ⟨e1, _⟩
  simp only at e1 ⊢
  subst e1
  refine Tot.ite (fun _ => ?_) (fun _ => Tot.val ⟨⟨by show -1 ≤ i; omega, by show i ≤ 13; omega⟩, hl, by show 0 ≤ q + 1; omega, by show q + 1 ≤ p + 40; omega⟩)
  refine Tot.bind (pick_tot b hb (q + 1) 2 (by omega) (by omega)) ?_
  rintro ⟨y, q⟩ ⟨e1, _⟩
  simp only at e1 ⊢
  subst e1
  have yes : Tot (fun k => spec_l7Any.j0 k true b (q + 1 + 1) i L) (fun r => (-1 ≤ r.1 ∧ r.1 ≤ 13) ∧ r.2.1.length ≤ 14 ∧ 0 ≤ r.2.2 ∧ r.2.2 ≤ p + 40) := by
    refine Tot.step (Tot.pos rfl (Tot.bind (num_tot b hb (q + 1 + 1) _ (by omega) (by omega) (by simp)) ?_)) (fun k => spec_l7Any.j0.eq_2 ..)
    rintro ⟨z, q2⟩ ⟨e1, hz⟩
    simp only at e1 hz ⊢
    subst e1
    have hz3 : -1 ≤ z ∧ z ≤ 13 := by simp at hz; omega
    exact Tot.val ⟨hz3, hl, by show 0 ≤ q + 1 + 1 + 1; omega, by show q + 1 + 1 + 1 ≤ p + 40; omega⟩
  refine Tot.ite (fun _ => yes) (fun _ => ?_)
  cases hc : ((L.length : Int) == 0) with
  | true => exact yes
  | false =>
    have hne : ¬ (L.length : Int) = 0 := fun e => by rw [e] at hc; simp at hc
    refine Tot.step (Tot.neg (by decide) (Tot.bind (pick_tot b hb (q + 1 + 1) _ (by omega) (by omega)) ?_)) (fun k => spec_l7Any.j0.eq_2 ..)
    rintro ⟨z, q2⟩ ⟨e1, z0, z1⟩
    simp only at e1 z0 z1 ⊢
    subst e1
    have z2 := z1 (by omega)
    refine Tot.bind (num_tot b hb (q + 1 + 1 + 1) _ (by omega) (by omega) (by simp)) ?_
    rintro ⟨u, q2⟩ ⟨e1, _⟩
    simp only at e1 ⊢
    subst e1
    exact Tot.pos z0 (Tot.pos z2 (Tot.val ⟨⟨by show -1 ≤ i; omega, by show i ≤ 13; omega⟩, by show (L.set _ _).length ≤ 14; simpa using hl, by show 0 ≤ q + 1 + 1 + 1 + 1; omega, by show q + 1 + 1 + 1 + 1 ≤ p + 40; omega⟩))
theorem l7some_tot (b : List Int) (hb : Drawer b) (p : Int) (p0 : 0 ≤ p) (p1 : p ≤ 60000) (i : Int) (L : List S121) : Tot (fun k => spec_l7Some.f k b p i L) (fun r => 0 ≤ r.2 ∧ r.2 ≤ p + 3) := by
  unfold spec_l7Some.f
  obtain ⟨t, ht⟩ := l7nodes_ev i L
  refine Tot.bind (Tot.of ht (P := fun _ => True) trivial) ?_
  intro t _
  refine Tot.bind (pick_tot b hb p 15 p0 (by omega)) ?_
  rintro ⟨y, q⟩ ⟨e1, _⟩
  simp only at e1 ⊢
  subst e1
  refine Tot.ite (fun _ => ?_) (fun _ => ?_)
  · refine Tot.bind (num_tot b hb (p + 1) _ (by omega) (by omega) (by simp)) ?_
    rintro ⟨u, q⟩ ⟨e1, _⟩
    simp only at e1 ⊢
    subst e1
    exact Tot.val ⟨by show 0 ≤ p + 1 + 1; omega, by show p + 1 + 1 ≤ p + 3; omega⟩
  · refine Tot.bind (pick_tot b hb (p + 1) 2 (by omega) (by omega)) ?_
    rintro ⟨y, q⟩ ⟨e1, _⟩
    simp only at e1 ⊢
    subst e1
    refine Tot.ite (fun _ => ?_) (fun _ => ?_)
    all_goals
      refine Tot.bind (pick_tot b hb (p + 1 + 1) _ (by omega) (by omega)) ?_
      rintro ⟨u, q⟩ ⟨e1, _⟩
      simp only at e1 ⊢
      subst e1
      exact Tot.val ⟨by show 0 ≤ p + 1 + 1 + 1; omega, by show p + 1 + 1 + 1 ≤ p + 3; omega⟩
theorem draw_needs (code : List Int) (hc : ∀ x ∈ code, (Lit.int .u8 x).wf = true) : Tot (fun k => spec_DrawNeedsInputs.f k code) (fun _ => True) := by
  obtain ⟨b, ho, hb⟩ := open_tot code hc
  unfold spec_DrawNeedsInputs.f
  refine Tot.bind (Tot.of (Ev.const ho) (P := fun r => r = (b, 0)) rfl) ?_
  rintro r rfl
  refine Tot.bind (l7any_tot b hb 0 5 (by decide) (by decide) (by decide) (by decide)) ?_
  rintro ⟨i, L, q⟩ ⟨_, _, q0, q1⟩
  simp only at q0 q1 ⊢
  exact Tot.bind (l7some_tot b hb q q0 (by omega) i L) (fun _ _ => Tot.val trivial)

theorem edgeValue_val {inputs e : Int} {L : List S121} (h : OfAsk inputs L e) {bits : List Int} (hb : BitRow bits) (hl : (bits.length : Int) = inputs) : Ev (fun k => impl_EdgeValue.f k inputs L bits e) (edgeV L e bits) := by
  obtain ⟨k1, k2, k3⟩ := impl_values_val h.1 hl hb
  have h12 := h.1.i12
  obtain ⟨q, hq, h1⟩ := impl_cv inputs L
  obtain rfl : q = true := h1.2 h.1
  have h01 : Bit01 bits := fun j hj => by
    rw [rd_lt hj]
    exact hb _ (List.getElem_mem hj)
  unfold impl_EdgeValue.f
  refine Ev.bind hq (Ev.pos rfl (Ev.pos hl (Ev.bind (bits_valid bits (by omega) h01) (Ev.pos rfl (Ev.bind (Ev.const (impl_edge h.1 e)) ?_)))))
  rw [decide_eq_true h.2]
  exact Ev.step (Ev.neg (by decide) (Ev.bind k1 (Ev.bind (Ev.const (impl_edgeOf_val k2 (by have := h.1.len; omega) h.2.1 (by rw [k3]; have := h.2.2; omega))) (Ev.val _)))) (fun k => impl_EdgeValue.j0.eq_2 ..)
theorem low_bit (v j : Nat) (hj : j ≤ 12) : Int.tmod (shr .i64 (v : Int) (j : Int)) 2 = ((v / 2 ^ j % 2 : Nat) : Int) := by
  rw [shr_eq (v : Int) j (by omega), show (v : Int) / 2 ^ j = ((v / 2 ^ j : Nat) : Int) by simp]
  rw [Int.tmod_eq_emod_of_nonneg (Int.natCast_nonneg _)]
  omega
theorem dof_l1 {m : Nat} (hm : m ≤ 12) (v : Nat) (e n total x68 : Int) (cL : List S121) (dv : Int) (dL : List S71) (r : Bool)
    (rest : Ev (fun k => (impl_EdgeValue.f k (m : Int) cL (bitsL v m) e).bind fun t327 => (impl_DiagramValue.f k dv dL n (bitsL v m)).bind fun t328 => if t328 = t327 then laws_FnDiagramOf.l0 k e n (wrap64 (total + t327)) x68 (wrap64 ((v : Int) + 1)) (m : Int) cL dv dL else some false) r) :
    ∀ (d j : Nat), j + d = m → Ev (fun k => laws_FnDiagramOf.l1 k e n total (v : Int) (bitsL v j) x68 (v : Int) (m : Int) (j : Int) (m : Int) cL dv dL) r := by
  intro d
  induction d with
  | zero =>
    intro j hj
    obtain rfl : j = m := by omega
    exact Ev.step (Ev.neg (by omega) rest) (fun k => laws_FnDiagramOf.l1.eq_2 ..)
  | succ d ih =>
    intro j hj
    refine Ev.step (Ev.pos (by omega) (Ev.pos (by omega) (Ev.pos (by rw [bitsL_length]; omega) ?_))) (fun k => laws_FnDiagramOf.l1.eq_2 ..)
    rw [low_bit v j (by omega), ← bitsL_snoc, wsucc j (by omega)]
    exact ih (j + 1) (by omega)
theorem dof_l0 {m : Nat} {cL : List S121} {e : Int} (ask : OfAsk (m : Int) cL e) {dL : List S71} {n : Int} (hd : DV (m : Int) dL) (p : Pl dL n) (hv : ∀ i : Nat, dvP (m : Int) dL (bitsL i m) n = edgeV cL e (bitsL i m)) :
    ∀ (d i : Nat), i + d = 2 ^ m → Ev (fun k => laws_FnDiagramOf.l0 k e n (sumTo (fun i => dvP (m : Int) dL (bitsL i m) n) i) ((2 ^ m : Nat) : Int) (i : Int) (m : Int) cL (m : Int) dL) true := by
  have h12 := hd.v12
  have hp : (2 : Nat) ^ m ≤ 4096 := Nat.le_trans (Nat.pow_le_pow_right (by decide) (show m ≤ 12 by omega)) (by decide)
  intro d
  induction d with
  | zero =>
    intro i hi
    obtain rfl : i = 2 ^ m := by omega
    obtain ⟨q, hq, h1⟩ := impl_dv (m : Int) dL
    obtain rfl : q = true := h1.2 hd
    have s := sum_bits hd m [] n p (Int.zero_add _) (hd.dvar_le p).1
    have s2 : sumTo (fun i => dvP (m : Int) dL (bitsL i m) n) (2 ^ m) = scP (m : Int) dL n 0 := s
    rw [s2]
    refine Ev.step (Ev.neg (by omega) (Ev.bind (Ev.const hq) (Ev.pos rfl (Ev.bind (diagramCount_val hd p) ?_)))) (fun k => laws_FnDiagramOf.l0.eq_2 ..)
    rw [beq_self_eq_true]
    exact Ev.val _
  | succ d ih =>
    intro i hi
    have hbl : ((bitsL i m).length : Int) = (m : Int) := by rw [bitsL_length]
    have hbt := bitsL_bits m i
    have h01 : Bit01 (bitsL i m) := fun j hj => by
      rw [rd_lt hj]
      exact hbt _ (List.getElem_mem hj)
    have one := fun z : Nat => dvP_01 hd (bitsL z m) p
    have sb := sumTo_bound (f := fun z => dvP (m : Int) dL (bitsL z m) n) i (fun z _ => one z)
    have o1 := one i
    refine Ev.step (Ev.pos (by omega) (dof_l1 (by omega) i e n _ _ cL (m : Int) dL true ?_ m 0 (by omega))) (fun k => laws_FnDiagramOf.l0.eq_2 ..)
    refine Ev.bind (edgeValue_val ask hbt hbl) (Ev.bind (diagramValue_val hd p _ hbl h01) (Ev.pos (hv i) ?_))
    rw [← hv i, w_id (x := sumTo (fun i => dvP (m : Int) dL (bitsL i m) n) i + dvP (m : Int) dL (bitsL i m) n) (by omega) (by omega), wsucc i (by omega)]
    exact ih (i + 1) (by omega)
theorem FnDiagramOf : laws_FnDiagramOf.Pure := by
  intro code _ _ hc
  apply Ev.get
  unfold laws_FnDiagramOf.f
  by_cases c0 : (code.length : Int) > 1048576
  · exact Ev.pos c0 (Ev.val _)
  refine Ev.neg c0 ?_
  obtain ⟨⟨inputs, cL, e⟩, hdraw, _⟩ := draw_needs code hc
  have hd0 : Ev (fun k => spec_DrawDiagramOf.f k code) (inputs, cL, e) := by
    unfold spec_DrawDiagramOf.f
    exact Ev.bind hdraw (Ev.val _)
  refine Ev.bind hd0 ?_
  simp only
  obtain ⟨⟨r1, R, r3⟩, ht, hR⟩ := ofIs_ex inputs cL e
  refine Ev.bind (of_v ht) (Ev.bind (spec_of ht) (Ev.pos rfl (Ev.pos rfl ?_)))
  simp only
  obtain ⟨hy, hn⟩ := ht
  by_cases ask : OfAsk inputs cL e
  · have hh := hy ask
    obtain ⟨m, rfl⟩ := Int.eq_ofNat_of_zero_le ask.1.i0
    have h12 := ask.1.i12
    have dn := dv_nil ask.1.i0 ask.1.i12
    have tok := madeT_ok dn (edgeV cL e) (fun b hb hl => edgeV_01 ask.1 ask.2 hb hl) m [] (fun x hx => by simp at hx) (by simp)
    obtain ⟨d1, d2⟩ := dv_ins dn tok
    unfold told at hh
    have e0 : (m : Int).toNat = m := by omega
    rw [e0] at hh
    by_cases cn : (ins [] (madeT (edgeV cL e) m [])).2 < 0
    · rw [if_pos cn] at hh
      simp only [Prod.mk.injEq] at hh
      obtain ⟨rfl, rfl, rfl⟩ := hh
      exact Ev.step (Ev.pos (by decide) (Ev.pos rfl (Ev.pos rfl (Ev.val _)))) (fun k => laws_FnDiagramOf.j0.eq_2 ..)
    · rw [if_neg cn] at hh
      simp only [Prod.mk.injEq] at hh
      obtain ⟨rfl, rfl, rfl⟩ := hh
      obtain ⟨pl, _⟩ := d2 (by omega)
      refine Ev.step (Ev.neg (by simpa using cn) (Ev.pos ask.1.i0 ?_)) (fun k => laws_FnDiagramOf.j0.eq_2 ..)
      rw [shl_pow m (by omega)]
      refine dof_l0 ask d1 pl (fun i => ?_) (2 ^ m) 0 (by omega)
      have hb := bitsL_bits m i
      have h01 := edgeV_01 ask.1 ask.2 hb (by rw [bitsL_length])
      rw [ins_val (bitsL i m) dn tok (by omega)]
      have := madeT_val (vars := (m : Int)) (L := []) (edgeV cL e) (bitsL i m) hb (by omega) (bitsL i m) [] rfl
      rwa [bitsL_length] at this
  · have hh := hn ask
    simp only [Prod.mk.injEq] at hh
    obtain ⟨rfl, rfl, rfl⟩ := hh
    exact Ev.step (Ev.pos (by decide) (Ev.pos rfl (Ev.pos rfl (Ev.val _)))) (fun k => laws_FnDiagramOf.j0.eq_2 ..)

end Go.Proofs.Ytpcompnmadpljaa.Pure
