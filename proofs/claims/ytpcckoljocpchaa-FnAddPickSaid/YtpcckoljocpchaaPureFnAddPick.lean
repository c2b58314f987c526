/- FnAddPick: the circuit with one of two edges by a third one keeps the elder nodes and has the chosen edge's value, on both sides, whatever is drawn. -/
import Derived.Test.YtpcckoljocpchaaQFnAddPickx13
namespace Go.Proofs.Ytpcckoljocpchaa.Pure
open Go.RowKit Go.Proofs.Ytpcckoljocpchaa.QFnAddPick Go.Proofs.YtpcckoljocpchaaW.PrintWords Go.Proofs.YtpcckoljocpchaaW.PrintLast Go.Proofs.YtpcckoljocpchaaW.PrintMore
set_option linter.unusedVariables false
set_option linter.unusedSimpArgs false

/-! #### rounds -/
/-- From some number of rounds on, g tells r. -/
def Ev {α : Type} (g : Nat → Option α) (r : α) : Prop := ∃ K, ∀ k, K ≤ k → g k = some r
theorem Ev.val {α : Type} (r : α) : Ev (fun _ => some r) r := ⟨0, fun _ _ => rfl⟩
theorem Ev.valEq {α : Type} {r r' : α} (h : r = r') : Ev (fun _ => some r) r' := ⟨0, fun _ _ => by rw [h]⟩
theorem Ev.const {α : Type} {g : Option α} {r : α} (h : g = some r) : Ev (fun _ => g) r := ⟨0, fun _ _ => h⟩
theorem Ev.bind {α β : Type} {g : Nat → Option α} {f : Nat → α → Option β} {a : α} {b : β} (h : Ev g a) (h2 : Ev (fun k => f k a) b) : Ev (fun k => (g k).bind (f k)) b := by
  obtain ⟨K, hK⟩ := h
  obtain ⟨L, hL⟩ := h2
  exact ⟨max K L, fun k hk => by show (g k).bind (f k) = _; rw [hK k (by omega)]; exact hL k (by omega)⟩
theorem Ev.step {α : Type} {g g' : Nat → Option α} {r : α} (h : Ev g' r) (e : ∀ k, g (k + 1) = g' k) : Ev g r := by
  obtain ⟨K, hK⟩ := h
  exact ⟨K + 1, fun k hk => by
    obtain ⟨m, rfl⟩ : ∃ m, k = m + 1 := ⟨k - 1, by omega⟩
    rw [e]
    exact hK m (by omega)⟩
theorem Ev.pos {α : Type} {c : Prop} [Decidable c] {g g' : Nat → Option α} {r : α} (hc : c) (h : Ev g r) : Ev (fun k => if c then g k else g' k) r := by
  obtain ⟨K, hK⟩ := h
  exact ⟨K, fun k hk => by simp only [if_pos hc]; exact hK k hk⟩
theorem Ev.neg {α : Type} {c : Prop} [Decidable c] {g g' : Nat → Option α} {r : α} (hc : ¬ c) (h : Ev g' r) : Ev (fun k => if c then g k else g' k) r := by
  obtain ⟨K, hK⟩ := h
  exact ⟨K, fun k hk => by simp only [if_neg hc]; exact hK k hk⟩
theorem Ev.get {α : Type} {g : Nat → Option α} {r : α} (h : Ev g r) : ∃ k, g k = some r := by
  obtain ⟨K, hK⟩ := h
  exact ⟨K, hK K (Nat.le_refl _)⟩
/-! #### numbers -/
theorem w_id {x : Int} (h0 : -9223372036854775808 ≤ x) (h1 : x ≤ 9223372036854775807) : wrap64 x = x := by
  unfold wrap64
  omega
/-! #### lists -/
theorem rd_nat (l : List Int) (i : Nat) : rd l (i : Int) = l.getD i 0 := by
  unfold rd
  rw [Int.toNat_natCast]
theorem getD_lt {α : Type} {l : List α} {i : Nat} (h : i < l.length) (d : α) : l.getD i d = l[i] := by
  rw [List.getD_eq_getElem?_getD, List.getElem?_eq_getElem h]
  rfl
theorem rd_lt {l : List Int} {i : Nat} (h : i < l.length) : rd l (i : Int) = l[i] := by rw [rd_nat, getD_lt h]
theorem rd_app_lt {l m : List Int} {j : Nat} (h : j < l.length) : rd (l ++ m) (j : Int) = rd l (j : Int) := by
  rw [rd_nat, rd_nat, List.getD_eq_getElem?_getD, List.getD_eq_getElem?_getD, List.getElem?_append_left h]
theorem rd_app_eq {l : List Int} {v : Int} : rd (l ++ [v]) (l.length : Int) = v := by
  rw [rd_nat, List.getD_eq_getElem?_getD, List.getElem?_append_right (Nat.le_refl _)]
  simp
theorem wsucc (i : Nat) (h : i ≤ 4611686018427387904) : wrap64 ((i : Int) + 1) = ((i + 1 : Nat) : Int) := by
  unfold wrap64
  omega
/-- g tells in the end whether p is so. -/
def Dec (g : Nat → Option Bool) (p : Prop) : Prop := ∃ b, Ev g b ∧ (b = true ↔ p)
theorem Dec.no {g : Nat → Option Bool} {p : Prop} (h : Ev g false) (hp : ¬ p) : Dec g p := ⟨false, h, by simp [hp]⟩
/-! #### it tells something, of which P holds -/
def Tot {α : Type} (g : Nat → Option α) (P : α → Prop) : Prop := ∃ r, Ev g r ∧ P r
theorem Tot.of {α : Type} {g : Nat → Option α} {P : α → Prop} {r : α} (h : Ev g r) (hp : P r) : Tot g P := ⟨r, h, hp⟩
theorem Tot.val {α : Type} {P : α → Prop} {r : α} (h : P r) : Tot (fun _ => some r) P := ⟨r, Ev.val r, h⟩
theorem Tot.mono {α : Type} {g : Nat → Option α} {P Q : α → Prop} (h : Tot g P) (hq : ∀ r, P r → Q r) : Tot g Q := by
  obtain ⟨r, h1, h2⟩ := h
  exact ⟨r, h1, hq r h2⟩
theorem Tot.step {α : Type} {g g' : Nat → Option α} {P : α → Prop} (h : Tot g' P) (e : ∀ k, g (k + 1) = g' k) : Tot g P := by
  obtain ⟨r, h1, h2⟩ := h
  exact ⟨r, Ev.step h1 e, h2⟩
theorem Tot.bind {α β : Type} {g : Nat → Option α} {f : Nat → α → Option β} {Q : α → Prop} {P : β → Prop} (h : Tot g Q) (h2 : ∀ a, Q a → Tot (fun k => f k a) P) : Tot (fun k => (g k).bind (f k)) P := by
  obtain ⟨a, ha, hq⟩ := h
  obtain ⟨r, h1, h3⟩ := h2 a hq
  exact ⟨r, Ev.bind ha h1, h3⟩
theorem Tot.pos {α : Type} {c : Prop} [Decidable c] {g g' : Nat → Option α} {P : α → Prop} (hc : c) (h : Tot g P) : Tot (fun k => if c then g k else g' k) P := by
  obtain ⟨r, h1, h2⟩ := h
  exact ⟨r, Ev.pos hc h1, h2⟩
theorem Tot.neg {α : Type} {c : Prop} [Decidable c] {g g' : Nat → Option α} {P : α → Prop} (hc : ¬ c) (h : Tot g' P) : Tot (fun k => if c then g k else g' k) P := by
  obtain ⟨r, h1, h2⟩ := h
  exact ⟨r, Ev.neg hc h1, h2⟩
theorem Tot.ite {α : Type} {c : Prop} [Decidable c] {g g' : Nat → Option α} {P : α → Prop} (h1 : c → Tot g P) (h2 : ¬ c → Tot g' P) : Tot (fun k => if c then g k else g' k) P := by
  by_cases hc : c
  · exact Tot.pos hc (h1 hc)
  · exact Tot.neg hc (h2 hc)
theorem in_dec {x a b : Int} : Ev (fun _ => impl_in.f x a b) (decide (a ≤ x ∧ x ≤ b)) := by
  unfold impl_in.f
  by_cases h : x ≥ a
  · refine Ev.pos h (Ev.valEq ?_)
    simp only [decide_eq_decide]
    omega
  · refine Ev.neg h (Ev.valEq ?_)
    symm
    rw [decide_eq_false_iff_not]
    omega
theorem idx_tot (p : Nat → Int → Option Bool) (P : Nat → Prop) (m : Nat) (hp : ∀ j : Nat, j < m → Dec (fun k => p k (j : Int)) (P j)) : ∀ (d i : Nat), i + d = m →
    Tot (fun k => Copy.idxO (p k) d (i : Int)) (fun r => 0 ≤ r ↔ ∃ j : Nat, i ≤ j ∧ j < m ∧ P j) := by
  intro d
  induction d with
  | zero =>
    intro i hi
    exact Tot.val ⟨fun h => by omega, fun ⟨j, h1, h2, _⟩ => by omega⟩
  | succ d ih =>
    intro i hi
    obtain ⟨b, hb, hbi⟩ := hp i (by omega)
    cases b with
    | true => exact ⟨(i : Int), Ev.bind hb (Ev.pos rfl (Ev.val _)), fun _ => ⟨i, Nat.le_refl _, by omega, hbi.mp rfl⟩, fun _ => by omega⟩
    | false =>
      obtain ⟨r, hr, hri⟩ := ih (i + 1) (by omega)
      refine ⟨r, Ev.bind hb (Ev.neg (by decide) ?_), hri.trans ?_⟩
      · have e : ((i + 1 : Nat) : Int) = (i : Int) + 1 := by omega
        rw [← e]
        exact hr
      · constructor
        · rintro ⟨j, h1, h2, h3⟩
          exact ⟨j, by omega, h2, h3⟩
        · rintro ⟨j, h1, h2, h3⟩
          rcases Nat.lt_or_eq_of_le h1 with h4 | rfl
          · exact ⟨j, h4, h2, h3⟩
          · exact absurd (hbi.mpr h3) (by decide)
/-! #### the truth of clauses by a row of bits -/
def Bit01 (xs : List Int) : Prop := ∀ j : Nat, j < xs.length → rd xs (j : Int) = 0 ∨ rd xs (j : Int) = 1
theorem bits_valid (xs : List Int) (hl : xs.length ≤ 1048576) (hb : Bit01 xs) : Ev (fun _ => impl_bitsValid.f xs) true := by
  unfold impl_bitsValid.f
  obtain ⟨r, h1, h2⟩ := idx_tot (fun _ => impl_bitsValid.p xs) (fun _ => False) xs.length (fun j hj => by
    unfold impl_bitsValid.p
    refine Dec.no (Ev.bind in_dec (Ev.valEq ?_)) id
    have := hb j hj
    simp
    omega) xs.length 0 (by omega)
  refine Ev.bind h1 (Ev.valEq ?_)
  have : ¬ 0 ≤ r := fun h => by
    obtain ⟨j, _, _, h3⟩ := h2.mp h
    exact h3
  simp [this]
theorem shr_bit (v i : Nat) : Int.tmod (shr .i64 (v : Int) (i : Int)) 2 = 0 ∨ Int.tmod (shr .i64 (v : Int) (i : Int)) 2 = 1 := by
  unfold shr
  have h0 : 0 ≤ (v : Int) / 2 ^ min (i : Int).toNat IntKind.i64.bits := Int.ediv_nonneg (Int.natCast_nonneg _) (Int.le_of_lt (Int.pow_pos (by decide)))
  rw [Int.tmod_eq_emod_of_nonneg h0]
  omega
/-! #### the drawer of numbers -/
def Drawer (b : List Int) : Prop := b.length ≤ 2000 ∧ ∀ j : Nat, j < b.length → 0 ≤ rd b (j : Int) ∧ rd b (j : Int) ≤ 255
theorem xor_nonneg (a c : Int) (ha : 0 ≤ a) (ha2 : a < 4611686018427387904) (hc : 0 ≤ c) (hc2 : c < 4611686018427387904) : 0 ≤ Go.bits .xor .i64 a c := by
  obtain ⟨m, rfl⟩ := Int.eq_ofNat_of_zero_le ha
  obtain ⟨n, rfl⟩ := Int.eq_ofNat_of_zero_le hc
  have hm : m < 2 ^ 62 := by omega
  have hn : n < 2 ^ 62 := by omega
  have hx := Nat.xor_lt_two_pow hm hn
  have hm' : m % 2 ^ 64 = m := Nat.mod_eq_of_lt (by omega)
  have hn' : n % 2 ^ 64 = n := Nat.mod_eq_of_lt (by omega)
  have e : (BitVec.ofInt 64 (m : Int) ^^^ BitVec.ofInt 64 (n : Int)).toNat = m ^^^ n := by
    rw [BitVec.ofInt_natCast, BitVec.ofInt_natCast, BitVec.toNat_xor, BitVec.toNat_ofNat, BitVec.toNat_ofNat, hm', hn']
  have e2 : Go.bits .xor .i64 (m : Int) (n : Int) = IntKind.i64.wrap ((BitVec.ofInt 64 (m : Int) ^^^ BitVec.ofInt 64 (n : Int)).toNat : Int) := rfl
  rw [e2, e, IntKind.wrap_i64]
  omega
theorem tmod_range (x n : Int) (h0 : 0 ≤ x) (hn : 1 ≤ n) : 0 ≤ Int.tmod x n ∧ Int.tmod x n < n := by
  rw [Int.tmod_eq_emod_of_nonneg h0]
  exact ⟨Int.emod_nonneg _ (by omega), Int.emod_lt_of_pos _ (by omega)⟩
theorem pick_tot (b : List Int) (hb : Drawer b) (p n : Int) (hp : 0 ≤ p) (hp2 : p ≤ 1000000) :
    Tot (fun k => spec_l40Rd_pick.f k b p n) (fun r => r.2 = p + 1 ∧ 0 ≤ r.1 ∧ (1 ≤ n → r.1 < n)) := by
  obtain ⟨hl, hbb⟩ := hb
  have w1 : wrap64 (p + 1) = p + 1 := w_id (by omega) (by omega)
  have w2 : wrap64 (p + 1 - 1) = p := by rw [w_id (by omega) (by omega)]; omega
  have byte : ∀ z : Int, 0 ≤ z → z < (b.length : Int) → 0 ≤ rd b z ∧ rd b z ≤ 255 := by
    intro z h0 h1
    obtain ⟨m, rfl⟩ := Int.eq_ofNat_of_zero_le h0
    exact hbb m (by omega)
  unfold spec_l40Rd_pick.f
  rw [w1]
  refine Tot.ite (fun hn => ?_) (fun hn => ?_)
  · refine Tot.step (Tot.pos rfl (Tot.val ?_)) (fun k => spec_l40Rd_pick.j0.eq_2 ..)
    exact ⟨rfl, Int.le_refl _, fun h => by omega⟩
  · refine Tot.step ?_ (fun k => spec_l40Rd_pick.j0.eq_2 ..)
    refine Tot.ite (fun hz => Tot.val ⟨rfl, Int.le_refl _, fun h => by show (0 : Int) < n; omega⟩) (fun hz => ?_)
    have hlen : (b.length : Int) ≠ 0 := by simpa using hz
    rw [w2]
    refine Tot.ite (fun hpl => ?_) (fun hpl => ?_)
    · obtain ⟨y0, y1⟩ := byte p hp hpl
      refine Tot.pos hp (Tot.neg (by omega) (Tot.val ?_))
      rw [w_id (by omega) (by omega)]
      obtain ⟨z0, z1⟩ := tmod_range (rd b p) n y0 (by omega)
      exact ⟨rfl, z0, fun _ => z1⟩
    · obtain ⟨i0, i1⟩ := tmod_range p (b.length : Int) hp (by omega)
      have w3 : wrap64 (p * 7) = p * 7 := w_id (by omega) (by omega)
      have w4 : wrap64 (p * 7 + 3) = p * 7 + 3 := w_id (by omega) (by omega)
      rw [w3, w4]
      obtain ⟨j0, j1⟩ := tmod_range (p * 7 + 3) (b.length : Int) (by omega) (by omega)
      refine Tot.neg (by omega) (Tot.pos i0 (Tot.pos i1 (Tot.pos j0 (Tot.pos j1 (Tot.neg (by omega) (Tot.val ?_))))))
      obtain ⟨u0, u1⟩ := byte _ i0 i1
      obtain ⟨v0, v1⟩ := byte _ j0 j1
      generalize rd b (Int.tmod p (b.length : Int)) = u at u0 u1 ⊢
      generalize rd b (Int.tmod (p * 7 + 3) (b.length : Int)) = v at v0 v1 ⊢
      have q0 : 0 ≤ Int.tdiv p (b.length : Int) ∧ Int.tdiv p (b.length : Int) ≤ p := by
        rw [Int.tdiv_eq_ediv_of_nonneg hp]
        exact ⟨Int.ediv_nonneg hp (by omega), Int.ediv_le_self _ hp⟩
      generalize Int.tdiv p (b.length : Int) = q at q0 ⊢
      rw [w_id (x := u) (by omega) (by omega), w_id (x := v) (by omega) (by omega), w_id (x := q) (by omega) (by omega), w_id (x := u * 131) (by omega) (by omega), w_id (x := v * 1117) (by omega) (by omega),
        w_id (x := p * 29) (by omega) (by omega), w_id (x := q * 53) (by omega) (by omega), w_id (x := u * 131 + v * 1117) (by omega) (by omega), w_id (x := u * 131 + v * 1117 + p * 29) (by omega) (by omega), w_id (x := u * 131 + v * 1117 + p * 29 + q * 53) (by omega) (by omega)]
      generalize hA : u * 131 + v * 1117 + p * 29 + q * 53 = A
      have hA0 : 0 ≤ A ∧ A ≤ 1000000000 := by omega
      have hd : 0 ≤ Int.tdiv A 64 ∧ Int.tdiv A 64 ≤ A := by
        rw [Int.tdiv_eq_ediv_of_nonneg hA0.1]
        omega
      rw [w_id (x := Int.tdiv A 64) (by omega) (by omega)]
      have hx := xor_nonneg A (Int.tdiv A 64) hA0.1 (by omega) hd.1 (by omega)
      obtain ⟨z0, z1⟩ := tmod_range _ n hx (by omega)
      exact ⟨rfl, z0, fun _ => z1⟩
theorem num_tot (b : List Int) (hb : Drawer b) (p : Int) (l : List Int) (hp : 0 ≤ p) (hp2 : p ≤ 1000000) (hl : 1 ≤ l.length) :
    Tot (fun k => spec_l40Rd_num.f k b p l) (fun r => r.2 = p + 1 ∧ r.1 ∈ l) := by
  unfold spec_l40Rd_num.f
  refine Tot.bind (pick_tot b hb p (l.length : Int) hp hp2) ?_
  rintro ⟨x, q⟩ ⟨h1, h2, h3⟩
  have h4 := h3 (by omega)
  refine Tot.pos h2 (Tot.pos h4 (Tot.val ⟨h1, ?_⟩))
  show rd l x ∈ l
  obtain ⟨m, rfl⟩ := Int.eq_ofNat_of_zero_le h2
  rw [rd_lt (by show m < _; simp only at h4; omega)]
  exact List.getElem_mem _
theorem open_tot (code : List Int) (hc : ∀ x ∈ code, (Lit.int .u8 x).wf = true) : ∃ b, spec_l40Open.f code = some (b, 0) ∧ Drawer b := by
  have byte : ∀ b : List Int, (∀ x ∈ b, x ∈ code) → ∀ j : Nat, j < b.length → 0 ≤ rd b (j : Int) ∧ rd b (j : Int) ≤ 255 := by
    intro b hs j hj
    rw [rd_lt hj]
    have := hc _ (hs _ (List.getElem_mem hj))
    simp [Lit.wf, IntKind.min, IntKind.max, IntKind.signed, IntKind.bits] at this
    omega
  unfold spec_l40Open.f
  by_cases c : (code.length : Int) > 2000
  · rw [if_pos c, if_pos (by omega)]
    refine ⟨_, rfl, by simp; omega, byte _ (fun x hx => List.mem_of_mem_take hx)⟩
  · rw [if_neg c]
    exact ⟨_, rfl, by omega, byte _ (fun x hx => hx)⟩
/-! #### small laws of numbers -/
theorem l1In_val (a b c : Int) : spec_l1In.f a b c = some (decide (b ≤ a ∧ a ≤ c)) := by
  unfold spec_l1In.f
  by_cases h : a ≥ b
  · rw [if_pos h]
    congr 1
    rw [decide_eq_decide]
    constructor
    · intro h2; exact ⟨h, h2⟩
    · intro h2; exact h2.2
  · rw [if_neg h]
    congr 1
    symm
    rw [decide_eq_false_iff_not]
    intro h2
    exact h h2.1
theorem in_val (a b c : Int) : impl_in.f a b c = some (decide (b ≤ a ∧ a ≤ c)) := by
  unfold impl_in.f
  by_cases h : a ≥ b
  · rw [if_pos h]
    congr 1
    rw [decide_eq_decide]
    constructor
    · intro h2; exact ⟨h, h2⟩
    · intro h2; exact h2.2
  · rw [if_neg h]
    congr 1
    symm
    rw [decide_eq_false_iff_not]
    intro h2
    exact h h2.1
theorem and_one (x : Int) (h0 : 0 ≤ x) (h1 : x < 9223372036854775808) : Go.bits .and .i64 x 1 = x % 2 := by
  have := bits_mask .i64 63 (by decide) (fun n a b => by rw [IntKind.wrap_i64]; omega) 1 (by decide) x h0 (by omega)
  simpa using this
def BitRow (vs : List Int) : Prop := ∀ x ∈ vs, x = 0 ∨ x = 1
theorem BitRow.take {vs : List Int} (h : BitRow vs) (n : Nat) : BitRow (vs.take n) := fun x hx => h x (List.mem_of_mem_take hx)
theorem BitRow.drop {vs : List Int} (h : BitRow vs) (n : Nat) : BitRow (vs.drop n) := fun x hx => h x (List.mem_of_mem_drop hx)
/-! #### circuits: which are valid, and what their nodes are -/
def GOk (inputs : Int) (i : Nat) (g : S92) : Prop := (0 ≤ g.f0 ∧ g.f0 ≤ 2 * (1 + inputs + i) - 1) ∧ (0 ≤ g.f1 ∧ g.f1 ≤ 2 * (1 + inputs + i) - 1)
structure CV (inputs : Int) (L : List S92) : Prop where
  i0 : 0 ≤ inputs
  i12 : inputs ≤ 12
  len : L.length ≤ 600
  ok : ∀ (i : Nat) (h : i < L.length), GOk inputs i L[i]
theorem rdG {L : List S92} {i : Nat} (h : i < L.length) : rd_T92 L (i : Int) = L[i] := by
  unfold rd_T92
  rw [Int.toNat_natCast, List.getD_eq_getElem?_getD, List.getElem?_eq_getElem h]
  rfl
theorem gate_split {inputs : Int} {L : List S92} {i : Nat} (hi : i < L.length) : (∀ q (h : q < L.length), i ≤ q → GOk inputs q L[q]) ↔ GOk inputs i L[i] ∧ ∀ q (h : q < L.length), i + 1 ≤ q → GOk inputs q L[q] := by
  constructor
  · intro h
    exact ⟨h i hi (Nat.le_refl _), fun q hq hq2 => h q hq (by omega)⟩
  · rintro ⟨ha, hb⟩ q hq hq2
    by_cases c : i = q
    · subst c
      exact ha
    · exact hb q hq (by omega)
theorem most_w {inputs : Int} (h0 : 0 ≤ inputs) (h1 : inputs ≤ 12) (i : Nat) (hi : i ≤ 600) : wrap64 (wrap64 (2 * wrap64 (wrap64 (1 + inputs) + (i : Int))) - 1) = 2 * (1 + inputs + i) - 1 := by
  rw [w_id (x := 1 + inputs) (by omega) (by omega), w_id (x := 1 + inputs + (i : Int)) (by omega) (by omega), w_id (x := 2 * (1 + inputs + (i : Int))) (by omega) (by omega), w_id (by omega) (by omega)]
theorem impl_cv_loop {inputs : Int} (h0 : 0 ≤ inputs) (h1 : inputs ≤ 12) (L : List S92) (hl : L.length ≤ 600) : ∀ (d i : Nat), i + d = L.length → ∃ b, Ev (fun k => impl_CircuitValid.l0 k L (L.length : Int) (i : Int) inputs L) b ∧ (b = true ↔ ∀ q (h : q < L.length), i ≤ q → GOk inputs q L[q]) := by
  intro d
  induction d with
  | zero =>
    intro i hi
    exact ⟨true, Ev.step (Ev.neg (by omega) (Ev.val _)) (fun k => impl_CircuitValid.l0.eq_2 ..), fun _ q h hq => absurd h (by omega), fun _ => rfl⟩
  | succ d ih =>
    intro i hi
    have hil : i < L.length := by omega
    obtain ⟨rest, er, hr⟩ := ih (i + 1) (by omega)
    rw [gate_split hil]
    unfold GOk at hr ⊢
    have st : ∀ b, Ev (fun k => (impl_in.f L[i].f0 0 (2 * (1 + inputs + (i : Int)) - 1)).bind fun t => if t = true then (impl_in.f L[i].f1 0 (2 * (1 + inputs + (i : Int)) - 1)).bind fun t => if t = true then impl_CircuitValid.l0 k L (L.length : Int) (wrap64 ((i : Int) + 1)) inputs L else some false else some false) b → Ev (fun k => impl_CircuitValid.l0 k L (L.length : Int) (i : Int) inputs L) b := fun b hb => by
      refine Ev.step (Ev.pos (by omega) (Ev.pos (by omega) (Ev.pos (by omega) ?_))) (fun k => impl_CircuitValid.l0.eq_2 ..)
      rw [rdG hil, most_w h0 h1 i (by omega)]
      exact hb
    by_cases c1 : 0 ≤ L[i].f0 ∧ L[i].f0 ≤ 2 * (1 + inputs + (i : Int)) - 1
    · by_cases c2 : 0 ≤ L[i].f1 ∧ L[i].f1 ≤ 2 * (1 + inputs + (i : Int)) - 1
      · refine ⟨rest, st _ ?_, ?_⟩
        · simp only [in_val, Option.bind_some, decide_eq_true_eq]
          refine Ev.pos c1 (Ev.pos c2 ?_)
          rw [wsucc i (by omega)]
          exact er
        · rw [hr]
          exact ⟨fun h => ⟨⟨c1, c2⟩, h⟩, fun h => h.2⟩
      · refine ⟨false, st _ ?_, fun h => (by cases h), fun h => absurd h.1.2 c2⟩
        simp only [in_val, Option.bind_some, decide_eq_true_eq]
        exact Ev.pos c1 (Ev.neg c2 (Ev.val _))
    · refine ⟨false, st _ ?_, fun h => (by cases h), fun h => absurd h.1.1 c1⟩
      simp only [in_val, Option.bind_some, decide_eq_true_eq]
      exact Ev.neg c1 (Ev.val _)
theorem impl_cv (inputs : Int) (L : List S92) : ∃ b, Ev (fun k => impl_CircuitValid.f k inputs L) b ∧ (b = true ↔ CV inputs L) := by
  unfold impl_CircuitValid.f
  simp only [in_val, Option.bind_some]
  have e0 : Ev (fun k => impl_CircuitValid.j0 k true inputs L) false := Ev.step (Ev.pos rfl (Ev.val _)) (fun k => impl_CircuitValid.j0.eq_2 ..)
  by_cases c1 : 0 ≤ inputs ∧ inputs ≤ 12
  · rw [decide_eq_true c1]
    by_cases c2 : (L.length : Int) > 600
    · rw [decide_eq_true c2]
      exact ⟨false, Ev.pos rfl e0, fun h => (by cases h), fun h => by have := h.len; omega⟩
    · rw [decide_eq_false c2]
      obtain ⟨b, hb, h2⟩ := impl_cv_loop c1.1 c1.2 L (by omega) L.length 0 (by omega)
      refine ⟨b, Ev.pos rfl (Ev.step (Ev.neg (by decide) hb) (fun k => impl_CircuitValid.j0.eq_2 ..)), ?_⟩
      rw [h2]
      exact ⟨fun h => ⟨c1.1, c1.2, by omega, fun i hi => h i hi (Nat.zero_le _)⟩, fun h q hq _ => h.ok q hq⟩
  · rw [decide_eq_false c1]
    exact ⟨false, Ev.neg (by decide) e0, fun h => (by cases h), fun h => absurd ⟨h.i0, h.i12⟩ c1⟩
theorem spec_cv_loop {inputs : Int} (h0 : 0 ≤ inputs) (h1 : inputs ≤ 12) (L : List S92) (hl : L.length ≤ 600) : ∀ (d i : Nat), i + d = L.length → ∃ b, Ev (fun k => spec_CircuitValid.l0 k (i : Int) inputs L) b ∧ (b = true ↔ ∀ q (h : q < L.length), i ≤ q → GOk inputs q L[q]) := by
  intro d
  induction d with
  | zero =>
    intro i hi
    exact ⟨true, Ev.step (Ev.neg (by omega) (Ev.val _)) (fun k => spec_CircuitValid.l0.eq_2 ..), fun _ q h hq => absurd h (by omega), fun _ => rfl⟩
  | succ d ih =>
    intro i hi
    have hil : i < L.length := by omega
    obtain ⟨rest, er, hr⟩ := ih (i + 1) (by omega)
    rw [gate_split hil]
    unfold GOk at hr ⊢
    have st : ∀ b, Ev (fun k => (spec_l1In.f L[i].f0 0 (2 * (1 + inputs + (i : Int)) - 1)).bind fun t => if t = true then (spec_l1In.f L[i].f1 0 (2 * (1 + inputs + (i : Int)) - 1)).bind fun t => if t = true then spec_CircuitValid.l0 k (wrap64 ((i : Int) + 1)) inputs L else some false else some false) b → Ev (fun k => spec_CircuitValid.l0 k (i : Int) inputs L) b := fun b hb => by
      refine Ev.step (Ev.pos (by omega) (Ev.pos (by omega) ?_)) (fun k => spec_CircuitValid.l0.eq_2 ..)
      rw [rdG hil, most_w h0 h1 i (by omega)]
      exact hb
    by_cases c1 : 0 ≤ L[i].f0 ∧ L[i].f0 ≤ 2 * (1 + inputs + (i : Int)) - 1
    · by_cases c2 : 0 ≤ L[i].f1 ∧ L[i].f1 ≤ 2 * (1 + inputs + (i : Int)) - 1
      · refine ⟨rest, st _ ?_, ?_⟩
        · simp only [l1In_val, Option.bind_some, decide_eq_true_eq]
          refine Ev.pos c1 (Ev.pos c2 ?_)
          rw [wsucc i (by omega)]
          exact er
        · rw [hr]
          exact ⟨fun h => ⟨⟨c1, c2⟩, h⟩, fun h => h.2⟩
      · refine ⟨false, st _ ?_, fun h => (by cases h), fun h => absurd h.1.2 c2⟩
        simp only [l1In_val, Option.bind_some, decide_eq_true_eq]
        exact Ev.pos c1 (Ev.neg c2 (Ev.val _))
    · refine ⟨false, st _ ?_, fun h => (by cases h), fun h => absurd h.1.1 c1⟩
      simp only [l1In_val, Option.bind_some, decide_eq_true_eq]
      exact Ev.neg c1 (Ev.val _)
theorem spec_cv (inputs : Int) (L : List S92) : ∃ b, Ev (fun k => spec_CircuitValid.f k inputs L) b ∧ (b = true ↔ CV inputs L) := by
  unfold spec_CircuitValid.f
  simp only [l1In_val, Option.bind_some]
  have e0 : Ev (fun k => spec_CircuitValid.j0 k true inputs L) false := Ev.step (Ev.pos rfl (Ev.val _)) (fun k => spec_CircuitValid.j0.eq_2 ..)
  by_cases c1 : 0 ≤ inputs ∧ inputs ≤ 12
  · rw [decide_eq_true c1]
    by_cases c2 : (L.length : Int) > 600
    · rw [decide_eq_true c2]
      exact ⟨false, Ev.pos rfl e0, fun h => (by cases h), fun h => by have := h.len; omega⟩
    · rw [decide_eq_false c2]
      obtain ⟨b, hb, h2⟩ := spec_cv_loop c1.1 c1.2 L (by omega) L.length 0 (by omega)
      refine ⟨b, Ev.pos rfl (Ev.step (Ev.neg (by decide) hb) (fun k => spec_CircuitValid.j0.eq_2 ..)), ?_⟩
      rw [h2]
      exact ⟨fun h => ⟨c1.1, c1.2, by omega, fun i hi => h i hi (Nat.zero_le _)⟩, fun h q hq _ => h.ok q hq⟩
  · rw [decide_eq_false c1]
    exact ⟨false, Ev.neg (by decide) e0, fun h => (by cases h), fun h => absurd ⟨h.i0, h.i12⟩ c1⟩
theorem impl_edge {inputs : Int} {L : List S92} (h : CV inputs L) (e : Int) : impl_Circuit_isEdge.f inputs L e = some (decide (0 ≤ e ∧ e ≤ 2 * (1 + inputs + (L.length : Int)) - 1)) := by
  unfold impl_Circuit_isEdge.f
  rw [most_w h.i0 h.i12 L.length h.len, in_val]
  rfl
theorem spec_edge {inputs : Int} {L : List S92} (h : CV inputs L) (e : Int) : spec_l7Edge.f inputs L e = some (decide (0 ≤ e ∧ e ≤ 2 * (1 + inputs + (L.length : Int)) - 1)) := by
  unfold spec_l7Edge.f spec_l7Nodes.f
  simp only [Option.bind_some]
  rw [most_w h.i0 h.i12 L.length h.len, l1In_val]
  rfl
/-- The value of an edge by the values of nodes. -/
def edv (vs : List Int) (e : Int) : Int := if e % 2 = 1 then 1 - rd vs (e / 2) else rd vs (e / 2)
/-- The values of the nodes behind some. -/
def nodesV : List S92 → List Int → List Int
  | [], vs => vs
  | g :: gs, vs => nodesV gs (vs ++ [edv vs g.f0 * edv vs g.f1])
theorem bits_rd {vs : List Int} (h : BitRow vs) {z : Int} (h0 : 0 ≤ z) (h1 : z < (vs.length : Int)) : rd vs z = 0 ∨ rd vs z = 1 := by
  obtain ⟨m, rfl⟩ := Int.eq_ofNat_of_zero_le h0
  have hm : m < vs.length := by omega
  rw [rd_lt hm]
  exact h _ (List.getElem_mem hm)
theorem edv_01 {vs : List Int} (h : BitRow vs) {e : Int} (h0 : 0 ≤ e) (h1 : e ≤ 2 * (vs.length : Int) - 1) : edv vs e = 0 ∨ edv vs e = 1 := by
  have := bits_rd h (z := e / 2) (by omega) (by omega)
  unfold edv
  split <;> omega
theorem BitRow.snoc {vs : List Int} (h : BitRow vs) {x : Int} (hx : x = 0 ∨ x = 1) : BitRow (vs ++ [x]) := fun y hy => by
  rcases List.mem_append.mp hy with h2 | h2
  · exact h y h2
  · rw [List.mem_singleton.mp h2]
    exact hx
theorem impl_edgeOf_val {vs : List Int} (h : BitRow vs) (hl : vs.length ≤ 1000000) {e : Int} (h0 : 0 ≤ e) (h1 : e ≤ 2 * (vs.length : Int) - 1) : impl_edgeOf.f vs e = some (edv vs e) := by
  have ht : Int.tdiv e 2 = e / 2 := Int.tdiv_eq_ediv_of_nonneg h0
  have hb := bits_rd h (z := e / 2) (by omega) (by omega)
  unfold impl_edgeOf.f edv
  rw [ht, w_id (by omega) (by omega), if_pos (by omega), if_pos (by omega), and_one e h0 (by omega)]
  congr 1
  generalize rd vs (e / 2) = x at hb ⊢
  have he : e % 2 = 0 ∨ e % 2 = 1 := by omega
  rcases he with he | he <;> rcases hb with rfl | rfl <;> rw [he] <;> decide +kernel
theorem bits_mul {a b : Int} (ha : a = 0 ∨ a = 1) (hb : b = 0 ∨ b = 1) : (a * b = 0 ∨ a * b = 1) ∧ Go.bits .and .i64 a b = a * b ∧ wrap64 (a * b) = a * b := by
  rcases ha with rfl | rfl <;> rcases hb with rfl | rfl <;> decide +kernel
theorem impl_values_loop {inputs : Int} (h0 : 0 ≤ inputs) (h1 : inputs ≤ 12) (L : List S92) (hl : L.length ≤ 600) (hok : ∀ (i : Nat) (h : i < L.length), GOk inputs i L[i]) : ∀ (d i : Nat) (vs : List Int), i + d = L.length → (vs.length : Int) = 1 + inputs + i → BitRow vs →
    Ev (fun k => impl_Circuit_values.l0 k vs L (L.length : Int) (i : Int)) (nodesV (L.drop i) vs) ∧ BitRow (nodesV (L.drop i) vs) ∧ ((nodesV (L.drop i) vs).length : Int) = 1 + inputs + L.length := by
  intro d
  induction d with
  | zero =>
    intro i vs hi hv hb
    have e : L.drop i = [] := List.drop_of_length_le (by omega)
    rw [e]
    exact ⟨Ev.step (Ev.neg (by omega) (Ev.val _)) (fun k => impl_Circuit_values.l0.eq_2 ..), hb, by show (vs.length : Int) = _; omega⟩
  | succ d ih =>
    intro i vs hi hv hb
    have hil : i < L.length := by omega
    obtain ⟨⟨g1, g2⟩, g3, g4⟩ := hok i hil
    have x1 := edv_01 hb (e := L[i].f0) g1 (by omega)
    have x2 := edv_01 hb (e := L[i].f1) g3 (by omega)
    obtain ⟨m1, m2, m3⟩ := bits_mul x1 x2
    obtain ⟨k1, k2, k3⟩ := ih (i + 1) (vs ++ [edv vs L[i].f0 * edv vs L[i].f1]) (by omega) (by simp; omega) (hb.snoc m1)
    have e : nodesV (L.drop i) vs = nodesV (L.drop (i + 1)) (vs ++ [edv vs L[i].f0 * edv vs L[i].f1]) := by
      rw [List.drop_eq_getElem_cons hil]
      rfl
    rw [e]
    refine ⟨Ev.step (Ev.pos (by omega) (Ev.pos (by omega) (Ev.pos (by omega) ?_))) (fun k => impl_Circuit_values.l0.eq_2 ..), k2, k3⟩
    rw [rdG hil, wsucc i (by omega)]
    refine Ev.bind (Ev.const (impl_edgeOf_val hb (by omega) g1 (by omega))) (Ev.bind (Ev.const (impl_edgeOf_val hb (by omega) g3 (by omega))) (Ev.pos (by omega) ?_))
    rw [m2]
    exact k1
/-- The values of all nodes. -/
def allNodes (L : List S92) (bits : List Int) : List Int := nodesV L ([0] ++ bits)
theorem impl_values_val {inputs : Int} {L : List S92} (h : CV inputs L) {bits : List Int} (hl : (bits.length : Int) = inputs) (hb : BitRow bits) : Ev (fun k => impl_Circuit_values.f k inputs L bits) (allNodes L bits) ∧ BitRow (allNodes L bits) ∧ ((allNodes L bits).length : Int) = 1 + inputs + L.length := by
  have hb0 : BitRow ([0] ++ bits) := fun x hx => by
    rcases List.mem_append.mp hx with h2 | h2
    · rw [List.mem_singleton.mp h2]
      exact .inl rfl
    · exact hb x h2
  have h12 := h.i12
  obtain ⟨k1, k2, k3⟩ := impl_values_loop h.i0 h.i12 L h.len h.ok L.length 0 ([0] ++ bits) (by omega) (by simp; omega) hb0
  refine ⟨?_, k2, k3⟩
  unfold impl_Circuit_values.f
  simp only [Option.bind_some]
  exact Ev.pos (by simp; omega) k1
/-- The value of an edge for a row of bits. -/
def edgeV (L : List S92) (e : Int) (bits : List Int) : Int := edv (allNodes L bits) e
/-! #### drawn circuits -/
theorem l7nodes_ev (a : Int) (L : List S92) : ∃ t, Ev (fun _ => spec_l7Nodes.f a L) t := ⟨_, Ev.val _⟩
theorem l7draw_loop (b : List Int) (hb : Drawer b) : ∀ (d : Nat) (inputs : Int) (L : List S92) (p : Int), 0 ≤ p → p + 2 * d ≤ 900000 → L.length + d ≤ 14 →
    Tot (fun k => spec_l7Draw.l0 k (d : Int) b p inputs L) (fun r => r.1 = inputs ∧ r.2.1.length ≤ 14 ∧ 0 ≤ r.2.2 ∧ r.2.2 ≤ p + 2 * d) := by
  intro d
  induction d with
  | zero =>
    intro inputs L p p0 p1 hl
    exact Tot.step (Tot.neg (by omega) (Tot.val ⟨rfl, by show L.length ≤ 14; omega, p0, by show p ≤ p + _; omega⟩)) (fun k => spec_l7Draw.l0.eq_2 ..)
  | succ d ih =>
    intro inputs L p p0 p1 hl
    obtain ⟨t, ht⟩ := l7nodes_ev inputs L
    refine Tot.step (Tot.pos (by omega) (Tot.bind (Tot.of ht (P := fun _ => True) trivial) ?_)) (fun k => spec_l7Draw.l0.eq_2 ..)
    intro t _
    refine Tot.bind (pick_tot b hb p _ p0 (by omega)) ?_
    rintro ⟨y, q⟩ ⟨e1, _⟩
    simp only at e1 ⊢
    subst e1
    refine Tot.bind (pick_tot b hb (p + 1) _ (by omega) (by omega)) ?_
    rintro ⟨z, q⟩ ⟨e1, _⟩
    simp only at e1 ⊢
    subst e1
    refine Tot.pos (by omega) ?_
    rw [w_id (x := ((d + 1 : Nat) : Int) - 1) (by omega) (by omega), show ((d + 1 : Nat) : Int) - 1 = (d : Int) by omega]
    refine (ih inputs _ (p + 1 + 1) (by omega) (by omega) (by simp; omega)).mono ?_
    rintro r ⟨r1, r2, r3, r4⟩
    exact ⟨r1, r2, r3, by omega⟩
theorem l7draw_tot (b : List Int) (hb : Drawer b) (p most : Int) (p0 : 0 ≤ p) (p1 : p ≤ 50000) (m0 : 0 ≤ most) (m1 : most ≤ 100) : Tot (fun k => spec_l7Draw.f k b p most) (fun r => (0 ≤ r.1 ∧ r.1 ≤ most) ∧ r.2.1.length ≤ 14 ∧ 0 ≤ r.2.2 ∧ r.2.2 ≤ p + 30) := by
  unfold spec_l7Draw.f
  rw [w_id (by omega) (by omega)]
  refine Tot.bind (pick_tot b hb p _ p0 (by omega)) ?_
  rintro ⟨y, q⟩ ⟨e1, y0, y1⟩
  simp only at e1 y0 y1 ⊢
  subst e1
  have y2 := y1 (by omega)
  refine Tot.bind (num_tot b hb (p + 1) _ (by omega) (by omega) (by simp)) ?_
  rintro ⟨d, q⟩ ⟨e1, hd⟩
  simp only at e1 hd ⊢
  subst e1
  have hd3 : 0 ≤ d ∧ d ≤ 14 := by simp at hd; omega
  obtain ⟨n, rfl⟩ := Int.eq_ofNat_of_zero_le hd3.1
  refine (l7draw_loop b hb n y [] (p + 1 + 1) (by omega) (by omega) (by simp; omega)).mono ?_
  rintro r ⟨r1, r2, r3, r4⟩
  exact ⟨by omega, r2, r3, by omega⟩
theorem l7any_tot (b : List Int) (hb : Drawer b) (p most : Int) (p0 : 0 ≤ p) (p1 : p ≤ 50000) (m0 : 0 ≤ most) (m1 : most ≤ 13) : Tot (fun k => spec_l7Any.f k b p most) (fun r => (-1 ≤ r.1 ∧ r.1 ≤ 13) ∧ r.2.1.length ≤ 14 ∧ 0 ≤ r.2.2 ∧ r.2.2 ≤ p + 40) := by
  unfold spec_l7Any.f
  refine Tot.bind (l7draw_tot b hb p most p0 p1 m0 (by omega)) ?_
  rintro ⟨i, L, q⟩ ⟨⟨i0, i1⟩, hl, q0, q1⟩
  simp only at i0 i1 hl q0 q1 ⊢
  refine Tot.bind (pick_tot b hb q 14 q0 (by omega)) ?_
  rintro ⟨y, q⟩ ⟨e1, _⟩
  simp only at e1 ⊢
  subst e1
  refine Tot.ite (fun _ => ?_) (fun _ => Tot.val ⟨⟨by show -1 ≤ i; omega, by show i ≤ 13; omega⟩, hl, by show 0 ≤ q + 1; omega, by show q + 1 ≤ p + 40; omega⟩)
  refine Tot.bind (pick_tot b hb (q + 1) 2 (by omega) (by omega)) ?_
  rintro ⟨y, q⟩ ⟨e1, _⟩
  simp only at e1 ⊢
  subst e1
  have yes : Tot (fun k => spec_l7Any.j0 k true b (q + 1 + 1) i L) (fun r => (-1 ≤ r.1 ∧ r.1 ≤ 13) ∧ r.2.1.length ≤ 14 ∧ 0 ≤ r.2.2 ∧ r.2.2 ≤ p + 40) := by
    refine Tot.step (Tot.pos rfl (Tot.bind (num_tot b hb (q + 1 + 1) _ (by omega) (by omega) (by simp)) ?_)) (fun k => spec_l7Any.j0.eq_2 ..)
    rintro ⟨z, q2⟩ ⟨e1, hz⟩
    simp only at e1 hz ⊢
    subst e1
    have hz3 : -1 ≤ z ∧ z ≤ 13 := by simp at hz; omega
    exact Tot.val ⟨hz3, hl, by show 0 ≤ q + 1 + 1 + 1; omega, by show q + 1 + 1 + 1 ≤ p + 40; omega⟩
  refine Tot.ite (fun _ => yes) (fun _ => ?_)
  cases hc : ((L.length : Int) == 0) with
  | true => exact yes
  | false =>
    have hne : ¬ (L.length : Int) = 0 := fun e => by rw [e] at hc; simp at hc
    refine Tot.step (Tot.neg (by decide) (Tot.bind (pick_tot b hb (q + 1 + 1) _ (by omega) (by omega)) ?_)) (fun k => spec_l7Any.j0.eq_2 ..)
    rintro ⟨z, q2⟩ ⟨e1, z0, z1⟩
    simp only at e1 z0 z1 ⊢
    subst e1
    have z2 := z1 (by omega)
    refine Tot.bind (num_tot b hb (q + 1 + 1 + 1) _ (by omega) (by omega) (by simp)) ?_
    rintro ⟨u, q2⟩ ⟨e1, _⟩
    simp only at e1 ⊢
    subst e1
    exact Tot.pos z0 (Tot.pos z2 (Tot.val ⟨⟨by show -1 ≤ i; omega, by show i ≤ 13; omega⟩, by show (L.set _ _).length ≤ 14; simpa using hl, by show 0 ≤ q + 1 + 1 + 1 + 1; omega, by show q + 1 + 1 + 1 + 1 ≤ p + 40; omega⟩))
theorem l7some_tot (b : List Int) (hb : Drawer b) (p : Int) (p0 : 0 ≤ p) (p1 : p ≤ 60000) (i : Int) (L : List S92) : Tot (fun k => spec_l7Some.f k b p i L) (fun r => 0 ≤ r.2 ∧ r.2 ≤ p + 3) := by
  unfold spec_l7Some.f
  obtain ⟨t, ht⟩ := l7nodes_ev i L
  refine Tot.bind (Tot.of ht (P := fun _ => True) trivial) ?_
  intro t _
  refine Tot.bind (pick_tot b hb p 15 p0 (by omega)) ?_
  rintro ⟨y, q⟩ ⟨e1, _⟩
  simp only at e1 ⊢
  subst e1
  refine Tot.ite (fun _ => ?_) (fun _ => ?_)
  · refine Tot.bind (num_tot b hb (p + 1) _ (by omega) (by omega) (by simp)) ?_
    rintro ⟨u, q⟩ ⟨e1, _⟩
    simp only at e1 ⊢
    subst e1
    exact Tot.val ⟨by show 0 ≤ p + 1 + 1; omega, by show p + 1 + 1 ≤ p + 3; omega⟩
  · refine Tot.bind (pick_tot b hb (p + 1) 2 (by omega) (by omega)) ?_
    rintro ⟨y, q⟩ ⟨e1, _⟩
    simp only at e1 ⊢
    subst e1
    refine Tot.ite (fun _ => ?_) (fun _ => ?_)
    all_goals
      refine Tot.bind (pick_tot b hb (p + 1 + 1) _ (by omega) (by omega)) ?_
      rintro ⟨u, q⟩ ⟨e1, _⟩
      simp only at e1 ⊢
      subst e1
      exact Tot.val ⟨by show 0 ≤ p + 1 + 1 + 1; omega, by show p + 1 + 1 + 1 ≤ p + 3; omega⟩
/-! #### gates that are added once: the reference and the program -/
theorem xor_val (m n : Nat) (hm : m < 2 ^ 62) (hn : n < 2 ^ 62) : Go.bits .xor .i64 (m : Int) (n : Int) = ((m ^^^ n : Nat) : Int) := by
  have hx := Nat.xor_lt_two_pow hm hn
  have e : (BitVec.ofInt 64 (m : Int) ^^^ BitVec.ofInt 64 (n : Int)).toNat = m ^^^ n := by
    rw [BitVec.ofInt_natCast, BitVec.ofInt_natCast, BitVec.toNat_xor, BitVec.toNat_ofNat, BitVec.toNat_ofNat, Nat.mod_eq_of_lt (by omega), Nat.mod_eq_of_lt (by omega)]
  have e2 : Go.bits .xor .i64 (m : Int) (n : Int) = IntKind.i64.wrap ((BitVec.ofInt 64 (m : Int) ^^^ BitVec.ofInt 64 (n : Int)).toNat : Int) := rfl
  rw [e2, e, IntKind.wrap_i64]
  omega
/-- The contrary of an edge. -/
def notE (x : Int) : Int := x + 1 - 2 * (x % 2)
theorem xor_one {x : Int} (h0 : 0 ≤ x) (h1 : x ≤ 1000000000) : Go.bits .xor .i64 x 1 = notE x := by
  obtain ⟨n, rfl⟩ := Int.eq_ofNat_of_zero_le h0
  have := xor_val n 1 (by omega) (by decide)
  rw [show ((1 : Nat) : Int) = 1 from rfl] at this
  rw [this]
  have a : (n ^^^ 1) / 2 = n / 2 := by rw [Nat.xor_div_two]; simp
  have b := @Nat.xor_mod_two_eq_one n 1
  unfold notE
  omega
def cfind (G : List S92) (x : S92) : Option Nat := G.findIdx? (fun y => decide (y = x))
theorem cfind_at {G : List S92} {x : S92} {i : Nat} (hi : i < G.length) (h : G[i] = x) (hn : ∀ q (hq : q < G.length), q < i → G[q] ≠ x) : cfind G x = some i := by
  unfold cfind
  rw [List.findIdx?_eq_some_iff_getElem]
  exact ⟨hi, decide_eq_true h, fun j hj => by simpa using hn j (by omega) hj⟩
theorem cfind_no {G : List S92} {x : S92} (hn : ∀ q (hq : q < G.length), G[q] ≠ x) : cfind G x = none := by
  unfold cfind
  rw [List.findIdx?_eq_none_iff]
  intro y hy
  obtain ⟨q, hq, rfl⟩ := List.mem_iff_getElem.1 hy
  simpa using hn q hq
theorem cfind_lt {G : List S92} {x : S92} {i : Nat} (h : cfind G x = some i) : i < G.length := by
  unfold cfind at h
  rw [List.findIdx?_eq_some_iff_getElem] at h
  exact h.1
theorem cfind_ne {G : List S92} {x : S92} (h : cfind G x = none) : ∀ q (hq : q < G.length), G[q] ≠ x := by
  unfold cfind at h
  rw [List.findIdx?_eq_none_iff] at h
  intro q hq
  simpa using h G[q] (List.getElem_mem hq)
theorem cfind_snoc (G : List S92) {x : S92} (hx : cfind G x = none) (y : S92) : cfind (G ++ [x]) y = if y = x then some G.length else cfind G y := by
  by_cases e : y = x
  · rw [if_pos e, e]
    refine cfind_at (by simp) (by simp) (fun q hq hl => ?_)
    rw [List.getElem_append_left (by omega)]
    exact cfind_ne hx q (by omega)
  · rw [if_neg e]
    cases h : cfind G y with
    | some i =>
      have hi := cfind_lt h
      have h2 := h
      unfold cfind at h2
      rw [List.findIdx?_eq_some_iff_getElem] at h2
      obtain ⟨_, g1, g2⟩ := h2
      refine cfind_at (by simp; omega) (by rw [List.getElem_append_left hi]; exact of_decide_eq_true g1) (fun q hq hl => ?_)
      rw [List.getElem_append_left (by omega)]
      simpa using g2 q hl
    | none =>
      refine cfind_no (fun q hq => ?_)
      by_cases c : q < G.length
      · rw [List.getElem_append_left c]
        exact cfind_ne h q c
      · have hl : q = G.length := by simp at hq; omega
        subst hl
        simp
        exact fun e2 => e e2.symm
/-- And of two edges, the lesser one first. -/
def caddO (inputs : Int) (G : List S92) (a b : Int) : List S92 × Int :=
  if a = 0 then (G, 0) else if a / 2 = b / 2 ∧ a ≠ b then (G, 0) else if a = 1 then (G, b) else if a = b then (G, b) else
  match cfind G ⟨a, b⟩ with
  | some i => (G, 2 * (1 + inputs + (i : Int)))
  | none => if 600 ≤ G.length then (G, -1) else (G ++ [⟨a, b⟩], 2 * (1 + inputs + (G.length : Int)))
def cadd (inputs : Int) (G : List S92) (x y : Int) : List S92 × Int := caddO inputs G (if y < x then y else x) (if x < y then y else x)
theorem find_loop {inputs : Int} (h0 : 0 ≤ inputs) (h12 : inputs ≤ 12) (G : List S92) (hl : G.length ≤ 600) (a b : Int) : ∀ (d i : Nat), i + d = G.length → (∀ q (hq : q < G.length), q < i → G[q] ≠ (⟨a, b⟩ : S92)) →
    Ev (fun k => spec_l7Find.l0 k a b (i : Int) inputs G) (match cfind G ⟨a, b⟩ with | some i => 1 + inputs + (i : Int) | none => -1) := by
  intro d
  induction d with
  | zero =>
    intro i hi hn
    rw [cfind_no (fun q hq => hn q hq (by omega))]
    exact Ev.step (Ev.neg (by omega) (Ev.val _)) (fun k => spec_l7Find.l0.eq_2 ..)
  | succ d ih =>
    intro i hi hn
    have hil : i < G.length := by omega
    refine Ev.step (Ev.pos (by omega) (Ev.pos (by omega) ?_)) (fun k => spec_l7Find.l0.eq_2 ..)
    rw [rdG hil, wsucc i (by omega)]
    by_cases c : G[i] = (⟨a, b⟩ : S92)
    · rw [cfind_at hil c hn, c]
      refine Ev.pos rfl (Ev.pos rfl (Ev.valEq ?_))
      simp only
      rw [w_id (x := 1 + inputs) (by omega) (by omega), w_id (by omega) (by omega)]
    · have nx := ih (i + 1) (by omega) (fun q hq hl => by
        by_cases e : q = i
        · subst e
          exact c
        · exact hn q hq (by omega))
      by_cases c1 : G[i].f0 = a
      · by_cases c2 : G[i].f1 = b
        · refine absurd ?_ c
          generalize G[i] = z at c1 c2
          obtain ⟨z0, z1⟩ := z
          simp only at c1 c2
          rw [c1, c2]
        · exact Ev.pos c1 (Ev.neg c2 nx)
      · exact Ev.neg c1 nx
theorem spec_caddO {inputs : Int} (h0 : 0 ≤ inputs) (h12 : inputs ≤ 12) (G : List S92) (hl : G.length ≤ 600) {a b : Int} (a0 : 0 ≤ a) (a1 : a ≤ 1000000) (b0 : 0 ≤ b) (b1 : b ≤ 1000000) :
    Ev (fun k => spec_l7And.j0 k a b inputs G) (inputs, (caddO inputs G a b).1, (caddO inputs G a b).2) := by
  have ta : wrap64 (Int.tdiv a 2) = a / 2 := by rw [Int.tdiv_eq_ediv_of_nonneg a0, w_id (by omega) (by omega)]
  have tb : wrap64 (Int.tdiv b 2) = b / 2 := by rw [Int.tdiv_eq_ediv_of_nonneg b0, w_id (by omega) (by omega)]
  have y1 : Ev (fun k => spec_l7And.j1 k a b true inputs G) (inputs, G, 0) := Ev.step (Ev.pos rfl (Ev.val _)) (fun k => spec_l7And.j1.eq_2 ..)
  have y2 : Ev (fun k => spec_l7And.j2 k a b true inputs G) (inputs, G, b) := Ev.step (Ev.pos rfl (Ev.val _)) (fun k => spec_l7And.j2.eq_2 ..)
  refine Ev.step ?_ (fun k => spec_l7And.j0.eq_2 ..)
  rw [ta, tb]
  unfold caddO
  by_cases c1 : a = 0
  · rw [if_pos c1]
    exact Ev.pos c1 y1
  rw [if_neg c1]
  refine Ev.neg c1 ?_
  have no : ∀ q : Bool, q = false → ¬ (a / 2 = b / 2 ∧ a ≠ b) → Ev (fun k => spec_l7And.j1 k a b q inputs G) (inputs, (if a / 2 = b / 2 ∧ a ≠ b then (G, 0) else if a = 1 then (G, b) else if a = b then (G, b) else match cfind G ⟨a, b⟩ with | some i => (G, 2 * (1 + inputs + (i : Int))) | none => if 600 ≤ G.length then (G, -1) else (G ++ [⟨a, b⟩], 2 * (1 + inputs + (G.length : Int)))).1, (if a / 2 = b / 2 ∧ a ≠ b then (G, 0) else if a = 1 then (G, b) else if a = b then (G, b) else match cfind G ⟨a, b⟩ with | some i => (G, 2 * (1 + inputs + (i : Int))) | none => if 600 ≤ G.length then (G, -1) else (G ++ [⟨a, b⟩], 2 * (1 + inputs + (G.length : Int)))).2) := by
    intro q hq c2
    rw [hq, if_neg c2]
    refine Ev.step (Ev.neg (by decide) ?_) (fun k => spec_l7And.j1.eq_2 ..)
    by_cases c3 : a = 1
    · rw [if_pos c3]
      exact Ev.pos c3 y2
    rw [if_neg c3]
    refine Ev.neg c3 ?_
    by_cases c4 : a = b
    · rw [if_pos c4, beq_iff_eq.mpr c4]
      exact y2
    rw [if_neg c4, beq_eq_false_iff_ne.mpr c4]
    refine Ev.step (Ev.neg (by decide) (Ev.bind (find_loop h0 h12 G hl a b G.length 0 (by omega) (fun q hq h => absurd h (by omega))) ?_)) (fun k => spec_l7And.j2.eq_2 ..)
    cases hf : cfind G ⟨a, b⟩ with
    | some i =>
      have hi := cfind_lt hf
      refine Ev.pos (by simp only; omega) (Ev.valEq ?_)
      simp only
      rw [w_id (by omega) (by omega)]
    | none =>
      refine Ev.neg (by simp only; omega) ?_
      by_cases c5 : 600 ≤ G.length
      · simp only [if_pos c5]
        exact Ev.pos (by omega) (Ev.val _)
      · simp only [if_neg c5]
        refine Ev.neg (by omega) (Ev.pos (by omega) (Ev.bind (Ev.val _) (Ev.bind (a := 1 + inputs + ((G.length : Int) + 1)) (Ev.const ?_) (Ev.valEq ?_))))
        · unfold spec_l7Nodes.f
          rw [w_id (x := 1 + inputs) (by omega) (by omega), List.length_append, List.length_singleton, w_id (by omega) (by omega)]
          congr 1
        · rw [w_id (x := 1 + inputs + ((G.length : Int) + 1) - 1) (by omega) (by omega), w_id (by omega) (by omega)]
          congr 2
          omega
  by_cases c2 : a / 2 = b / 2
  · refine Ev.pos c2 ?_
    by_cases c3 : a = b
    · exact no _ (bne_eq_false_iff_eq.mpr c3) (fun h => h.2 c3)
    · rw [bne_iff_ne.mpr c3, if_pos ⟨c2, c3⟩]
      exact y1
  · exact Ev.neg c2 (no false rfl (fun h => c2 h.1))
theorem spec_cadd {inputs : Int} (h0 : 0 ≤ inputs) (h12 : inputs ≤ 12) (G : List S92) (hl : G.length ≤ 600) {x y : Int} (a0 : 0 ≤ x) (a1 : x ≤ 1000000) (b0 : 0 ≤ y) (b1 : y ≤ 1000000) :
    Ev (fun k => spec_l7And.f k inputs G x y) (inputs, (cadd inputs G x y).1, (cadd inputs G x y).2) := by
  unfold spec_l7And.f cadd
  by_cases c : x > y
  · rw [if_pos (show y < x by omega), if_neg (show ¬ x < y by omega)]
    exact Ev.pos c (spec_caddO h0 h12 G hl b0 b1 a0 a1)
  · rw [if_neg (show ¬ y < x by omega)]
    by_cases c2 : x < y
    · rw [if_pos c2]
      exact Ev.neg c (spec_caddO h0 h12 G hl a0 a1 b0 b1)
    · have e : x = y := by omega
      subst e
      rw [if_neg c2]
      exact Ev.neg c (spec_caddO h0 h12 G hl a0 a1 a0 a1)
/-- The state of a circuit that grows. -/
structure CB (inputs : Int) (G : List S92) (s : BS) : Prop where
  ins : s.inputs = inputs
  gates : s.gates = G
  full : s.full = false
  seen : ∀ y, s.seen y = (cfind G y).map (fun (i : Nat) => 2 * (1 + inputs + (i : Int)))
theorem and_cadd {inputs : Int} (h0 : 0 ≤ inputs) (h12 : inputs ≤ 12) {G : List S92} (hl : G.length ≤ 600) {s : BS} (h : CB inputs G s) {x y : Int} (x0 : 0 ≤ x) (x1 : x ≤ 1000000) (y0 : 0 ≤ y) (y1 : y ≤ 1000000) :
    (0 ≤ (cadd inputs G x y).2 → ∃ s', impl_builder_and.f s x y = some (s', (cadd inputs G x y).2) ∧ CB inputs (cadd inputs G x y).1 s') ∧ ((cadd inputs G x y).2 < 0 → impl_builder_and.f s x y = some ({ s with full := true }, 0)) := by
  unfold cadd impl_builder_and.f
  obtain ⟨a, ha⟩ : ∃ a, (if y < x then y else x) = a := ⟨_, rfl⟩
  obtain ⟨b, hb⟩ : ∃ b, (if x < y then y else x) = b := ⟨_, rfl⟩
  rw [ha, hb]
  have a0 : 0 ≤ a ∧ a ≤ 1000000 := by rw [← ha]; split <;> omega
  have b0 : 0 ≤ b ∧ b ≤ 1000000 := by rw [← hb]; split <;> omega
  rw [xor_one a0.1 (by omega)]
  unfold caddO
  by_cases c1 : a = 0
  · rw [if_pos c1, if_pos c1]
    exact ⟨fun _ => ⟨s, rfl, h⟩, fun h => absurd (show (0 : Int) < 0 from h) (by decide)⟩
  rw [if_neg c1, if_neg c1]
  by_cases c2 : a / 2 = b / 2 ∧ a ≠ b
  · rw [if_pos c2, if_pos (show notE a = b by unfold notE; omega)]
    exact ⟨fun _ => ⟨s, rfl, h⟩, fun h => absurd (show (0 : Int) < 0 from h) (by decide)⟩
  rw [if_neg c2, if_neg (show ¬ notE a = b by unfold notE; omega)]
  by_cases c3 : a = 1
  · rw [if_pos c3, if_pos c3]
    exact ⟨fun _ => ⟨s, rfl, h⟩, fun h => absurd h (by simp only; omega)⟩
  rw [if_neg c3, if_neg c3]
  by_cases c4 : a = b
  · rw [if_pos c4, if_pos c4]
    exact ⟨fun _ => ⟨s, rfl, h⟩, fun h => absurd h (by simp only; omega)⟩
  rw [if_neg c4, if_neg c4]
  unfold impl_builder_and.put
  rw [if_pos (show okA ⟨a, b⟩ from ⟨⟨a0.1, by show a ≤ 9223372036854775807; omega⟩, ⟨b0.1, by show b ≤ 9223372036854775807; omega⟩⟩), h.seen]
  cases hf : cfind G ⟨a, b⟩ with
  | some i =>
    simp only [Option.map_some]
    exact ⟨fun _ => ⟨s, rfl, h⟩, fun h => absurd h (by omega)⟩
  | none =>
    simp only [Option.map_none]
    rw [h.gates]
    by_cases c5 : 600 ≤ G.length
    · simp only [if_pos c5]
      rw [if_pos (by omega)]
      exact ⟨fun h => absurd h (by decide), fun _ => by first | rfl | rw [← h.gates]⟩
    · simp only [if_neg c5]
      rw [if_neg (by omega)]
      have e : wrap64 (2 * (wrap64 (s.inputs + ((G.length : Int) + 1)))) = 2 * (1 + inputs + (G.length : Int)) := by
        rw [h.ins, w_id (x := inputs + ((G.length : Int) + 1)) (by omega) (by omega), w_id (by omega) (by omega)]
        omega
      rw [e]
      refine ⟨fun _ => ⟨_, rfl, h.ins, rfl, h.full, fun y => ?_⟩, fun h => absurd h (by omega)⟩
      rw [cfind_snoc G hf y]
      simp only
      by_cases ey : y = ⟨a, b⟩
      · rw [if_pos ey, if_pos ey]
        rfl
      · rw [if_neg ey, if_neg ey]
        exact h.seen y
/-! #### one of two edges by a third one: the reference and the program -/
theorem cfind_snoc2 (G : List S92) (x y : S92) : cfind (G ++ [x]) y = match cfind G y with | some i => some i | none => if y = x then some G.length else none := by
  cases h : cfind G y with
  | some i =>
    have hi := cfind_lt h
    have h2 := h
    unfold cfind at h2
    rw [List.findIdx?_eq_some_iff_getElem] at h2
    obtain ⟨_, g1, g2⟩ := h2
    refine cfind_at (by simp; omega) (by rw [List.getElem_append_left hi]; exact of_decide_eq_true g1) (fun q hq hl => ?_)
    rw [List.getElem_append_left (by omega)]
    simpa using g2 q hl
  | none =>
    by_cases e : y = x
    · subst e
      simp only [if_pos]
      rw [cfind_snoc G h y, if_pos rfl]
    · simp only [if_neg e]
      refine cfind_no (fun q hq => ?_)
      by_cases c : q < G.length
      · rw [List.getElem_append_left c]
        exact cfind_ne h q c
      · have hl : q = G.length := by simp at hq; omega
        subst hl
        simp
        exact fun e2 => e e2.symm
theorem cadd_room {inputs : Int} (h0 : 0 ≤ inputs) {G : List S92} (hl : G.length ≤ 600) {x y : Int} (x0 : 0 ≤ x) (x1 : x < 2 * (1 + inputs + (G.length : Int))) (y0 : 0 ≤ y) (y1 : y < 2 * (1 + inputs + (G.length : Int))) :
    0 ≤ (cadd inputs G x y).2 → (cadd inputs G x y).2 < 2 * (1 + inputs + ((cadd inputs G x y).1.length : Int)) ∧ G.length ≤ (cadd inputs G x y).1.length ∧ (cadd inputs G x y).1.length ≤ 600 := by
  unfold cadd
  obtain ⟨a, ha⟩ : ∃ a, (if y < x then y else x) = a := ⟨_, rfl⟩
  obtain ⟨b, hb⟩ : ∃ b, (if x < y then y else x) = b := ⟨_, rfl⟩
  rw [ha, hb]
  have b0 : 0 ≤ b ∧ b < 2 * (1 + inputs + (G.length : Int)) := by rw [← hb]; split <;> omega
  unfold caddO
  by_cases c1 : a = 0
  · rw [if_pos c1]
    exact fun _ => ⟨by simp only; omega, Nat.le_refl _, hl⟩
  rw [if_neg c1]
  by_cases c2 : a / 2 = b / 2 ∧ a ≠ b
  · rw [if_pos c2]
    exact fun _ => ⟨by simp only; omega, Nat.le_refl _, hl⟩
  rw [if_neg c2]
  by_cases c3 : a = 1
  · rw [if_pos c3]
    exact fun _ => ⟨b0.2, Nat.le_refl _, hl⟩
  rw [if_neg c3]
  by_cases c4 : a = b
  · rw [if_pos c4]
    exact fun _ => ⟨b0.2, Nat.le_refl _, hl⟩
  rw [if_neg c4]
  cases hf : cfind G ⟨a, b⟩ with
  | some i =>
    have := cfind_lt hf
    exact fun _ => ⟨by simp only; omega, Nat.le_refl _, hl⟩
  | none =>
    by_cases c5 : 600 ≤ G.length
    · simp only [if_pos c5]
      exact fun h => absurd h (by decide)
    · simp only [if_neg c5, List.length_append, List.length_singleton]
      exact fun _ => ⟨by omega, by omega, by omega⟩
theorem cadd_no {inputs : Int} {G : List S92} {x y : Int} (h0 : 0 ≤ inputs) (x0 : 0 ≤ x) (y0 : 0 ≤ y) (h : (cadd inputs G x y).2 < 0) : (cadd inputs G x y).2 = -1 := by
  unfold cadd at h ⊢
  obtain ⟨a, ha⟩ : ∃ a, (if y < x then y else x) = a := ⟨_, rfl⟩
  obtain ⟨b, hb⟩ : ∃ b, (if x < y then y else x) = b := ⟨_, rfl⟩
  rw [ha, hb] at h ⊢
  have b0 : 0 ≤ b := by rw [← hb]; split <;> omega
  unfold caddO at h ⊢
  by_cases c1 : a = 0
  · rw [if_pos c1] at h
    exact absurd (show (0 : Int) < 0 from h) (by decide)
  rw [if_neg c1] at h ⊢
  by_cases c2 : a / 2 = b / 2 ∧ a ≠ b
  · rw [if_pos c2] at h
    exact absurd (show (0 : Int) < 0 from h) (by decide)
  rw [if_neg c2] at h ⊢
  by_cases c3 : a = 1
  · rw [if_pos c3] at h
    have : b < 0 := h
    omega
  rw [if_neg c3] at h ⊢
  by_cases c4 : a = b
  · rw [if_pos c4] at h
    have : b < 0 := h
    omega
  rw [if_neg c4] at h ⊢
  cases hf : cfind G ⟨a, b⟩ with
  | some i =>
    rw [hf] at h
    simp only at h
    omega
  | none =>
    rw [hf] at h
    by_cases c5 : 600 ≤ G.length
    · simp only [if_pos c5]
    · simp only [if_neg c5] at h
      omega
theorem not_bound {e B : Int} (e0 : 0 ≤ e) (e1 : e < 2 * B) : 0 ≤ notE e ∧ notE e < 2 * B := by
  unfold notE
  omega
/-- The state of a circuit that may be too great. -/
def CBf (inputs : Int) (G : List S92) (f : Bool) (s : BS) : Prop := CB inputs G { s with full := false } ∧ s.full = f
theorem and_full (s : BS) (x y : Int) : impl_builder_and.f { s with full := true } x y = (impl_builder_and.f { s with full := false } x y).map (fun p => ({ p.1 with full := true }, p.2)) := by
  unfold impl_builder_and.f
  generalize (if y < x then y else x) = a
  generalize (if x < y then y else x) = b
  by_cases c1 : a = 0
  · rw [if_pos c1, if_pos c1]
    rfl
  rw [if_neg c1, if_neg c1]
  by_cases c2 : Go.bits .xor .i64 a 1 = b
  · rw [if_pos c2, if_pos c2]
    rfl
  rw [if_neg c2, if_neg c2]
  by_cases c3 : a = 1
  · rw [if_pos c3, if_pos c3]
    rfl
  rw [if_neg c3, if_neg c3]
  by_cases c4 : a = b
  · rw [if_pos c4, if_pos c4]
    rfl
  rw [if_neg c4, if_neg c4]
  unfold impl_builder_and.put
  by_cases c5 : okA ⟨a, b⟩
  · rw [if_pos c5, if_pos c5]
    simp only
    cases s.seen ⟨a, b⟩ with
    | some n => rfl
    | none =>
      simp only
      by_cases c6 : 600 ≤ (s.gates.length : Int)
      · rw [if_pos c6, if_pos c6]
        rfl
      · rw [if_neg c6, if_neg c6]
        rfl
  · rw [if_neg c5, if_neg c5]
    rfl
theorem and_step {inputs : Int} (h0 : 0 ≤ inputs) (h12 : inputs ≤ 12) {G : List S92} (hl : G.length ≤ 600) {f : Bool} {s : BS} (h : CBf inputs G f s) {x y : Int} (x0 : 0 ≤ x) (x1 : x < 2 * (1 + inputs + (G.length : Int))) (y0 : 0 ≤ y) (y1 : y < 2 * (1 + inputs + (G.length : Int))) :
    ∃ s' r G' f', impl_builder_and.f s x y = some (s', r) ∧ CBf inputs G' f' s' ∧ (0 ≤ r ∧ r < 2 * (1 + inputs + (G'.length : Int))) ∧ G.length ≤ G'.length ∧ G'.length ≤ 600 ∧ (0 ≤ (cadd inputs G x y).2 → G' = (cadd inputs G x y).1 ∧ r = (cadd inputs G x y).2 ∧ f' = f) ∧ ((cadd inputs G x y).2 < 0 ∨ f = true → f' = true) := by
  obtain ⟨hc, hf⟩ := h
  obtain ⟨a1, a2⟩ := and_cadd h0 h12 hl hc x0 (show x ≤ 1000000 by omega) y0 (show y ≤ 1000000 by omega)
  have hrm := cadd_room h0 hl x0 x1 y0 y1
  have lift : ∀ (t : BS) (r : Int), impl_builder_and.f { s with full := false } x y = some (t, r) → ∃ s', impl_builder_and.f s x y = some (s', r) ∧ ({ s' with full := false } : BS) = { t with full := false } ∧ s'.full = (t.full || f) := by
    intro t r ht
    cases f with
    | false =>
      have e : ({ s with full := false } : BS) = s := by rw [← hf]
      rw [e] at ht
      exact ⟨t, ht, rfl, by simp⟩
    | true =>
      have e : ({ s with full := true } : BS) = s := by rw [← hf]
      have := and_full s x y
      rw [e, ht] at this
      exact ⟨_, this, rfl, by simp⟩
  by_cases c : 0 ≤ (cadd inputs G x y).2
  · obtain ⟨t, t1, t2⟩ := a1 c
    obtain ⟨s', s1, s2, s3⟩ := lift t _ t1
    obtain ⟨r1, r2, r3⟩ := hrm c
    refine ⟨s', _, _, f, s1, ⟨?_, ?_⟩, ⟨c, r1⟩, r2, r3, fun _ => ⟨rfl, rfl, rfl⟩, fun h => ?_⟩
    · rw [s2]
      have e : ({ t with full := false } : BS) = t := by rw [← t2.full]
      rw [e]
      exact t2
    · rw [s3, t2.full]
      simp
    · rcases h with h | h
      · omega
      · exact h
  · have t1 := a2 (by omega)
    obtain ⟨s', s1, s2, s3⟩ := lift _ _ t1
    refine ⟨s', 0, G, true, s1, ⟨?_, by rw [s3]; rfl⟩, ⟨Int.le_refl _, by omega⟩, Nat.le_refl _, hl, fun h => absurd h c, fun _ => rfl⟩
    rw [s2]
    exact hc
/-- What both make. -/
def pickP (inputs : Int) (G : List S92) (by_ yes no : Int) : List S92 × Int :=
  if yes = no then (G, yes) else
  if (cadd inputs G by_ yes).2 < 0 then (G, -1) else
  if (cadd inputs (cadd inputs G by_ yes).1 (notE by_) no).2 < 0 then (G, -1) else
  if (cadd inputs (cadd inputs (cadd inputs G by_ yes).1 (notE by_) no).1 (notE (cadd inputs G by_ yes).2) (notE (cadd inputs (cadd inputs G by_ yes).1 (notE by_) no).2)).2 < 0 then (G, -1) else
  ((cadd inputs (cadd inputs (cadd inputs G by_ yes).1 (notE by_) no).1 (notE (cadd inputs G by_ yes).2) (notE (cadd inputs (cadd inputs G by_ yes).1 (notE by_) no).2)).1, notE (cadd inputs (cadd inputs (cadd inputs G by_ yes).1 (notE by_) no).1 (notE (cadd inputs G by_ yes).2) (notE (cadd inputs (cadd inputs G by_ yes).1 (notE by_) no).2)).2)
def toldP (inputs : Int) (p : List S92 × Int) : Int × List S92 × Int := if p.2 < 0 then (0, [], -1) else (inputs, p.1, p.2)
theorem not_val2 {x : Int} (h0 : 0 ≤ x) (h1 : x ≤ 1000000) : spec_l7Not.f x = some (notE x) := by
  unfold spec_l7Not.f notE
  rw [if_neg (by omega), Int.tdiv_eq_ediv_of_nonneg h0, Int.tmod_eq_emod_of_nonneg h0, w_id (x := x / 2) (by omega) (by omega), w_id (x := x / 2 * 2) (by omega) (by omega), w_id (x := x / 2 * 2 + 1) (by omega) (by omega), w_id (by omega) (by omega)]
  congr 1
  omega
theorem not_neg : spec_l7Not.f (-1) = some (-1) := by
  unfold spec_l7Not.f
  rw [if_pos (by decide)]
theorem told_val (inputs : Int) (p : List S92 × Int) : spec_l7Told.f inputs p.1 p.2 = some (toldP inputs p) := by
  unfold spec_l7Told.f toldP
  split <;> rfl
theorem spec_pick {inputs : Int} (h0 : 0 ≤ inputs) (h12 : inputs ≤ 12) {G : List S92} (hl : G.length ≤ 600) {by_ yes no : Int} (b0 : 0 ≤ by_) (b1 : by_ < 2 * (1 + inputs + (G.length : Int))) (y0 : 0 ≤ yes) (y1 : yes < 2 * (1 + inputs + (G.length : Int))) (n0 : 0 ≤ no) (n1 : no < 2 * (1 + inputs + (G.length : Int))) :
    ∃ r, Ev (fun k => spec_l7Pick.f k inputs G by_ yes no) r ∧ spec_l7Told.f r.1 r.2.1 r.2.2 = some (toldP inputs (pickP inputs G by_ yes no)) := by
  unfold spec_l7Pick.f pickP
  by_cases c0 : yes = no
  · rw [if_pos c0]
    exact ⟨_, Ev.pos c0 (Ev.val _), told_val inputs (G, yes)⟩
  rw [if_neg c0]
  have s1 := spec_cadd h0 h12 G hl b0 (show by_ ≤ 1000000 by omega) y0 (show yes ≤ 1000000 by omega)
  have r1 := cadd_room h0 hl b0 b1 y0 y1
  generalize cadd inputs G by_ yes = p1 at s1 r1 ⊢
  by_cases c1 : p1.2 < 0
  · rw [if_pos c1]
    exact ⟨_, Ev.neg c0 (Ev.bind s1 (Ev.pos c1 (Ev.val _))), told_val inputs (G, -1)⟩
  rw [if_neg c1]
  obtain ⟨q1, q2, q3⟩ := r1 (by omega)
  have nb := not_bound b0 b1
  have s2 := spec_cadd h0 h12 p1.1 q3 nb.1 (show notE by_ ≤ 1000000 by omega) n0 (show no ≤ 1000000 by omega)
  have r2 := cadd_room h0 q3 nb.1 (show notE by_ < 2 * (1 + inputs + (p1.1.length : Int)) by omega) n0 (by omega)
  have nv := not_val2 b0 (show by_ ≤ 1000000 by omega)
  generalize cadd inputs p1.1 (notE by_) no = p2 at s2 r2 ⊢
  by_cases c2 : p2.2 < 0
  · rw [if_pos c2]
    exact ⟨_, Ev.neg c0 (Ev.bind s1 (Ev.neg c1 (Ev.bind (Ev.const nv) (Ev.bind s2 (Ev.pos c2 (Ev.val _)))))), told_val inputs (G, -1)⟩
  rw [if_neg c2]
  obtain ⟨q4, q5, q6⟩ := r2 (by omega)
  have n3 := not_bound (show 0 ≤ p1.2 by omega) q1
  have n4 := not_bound (show 0 ≤ p2.2 by omega) q4
  have s3 := spec_cadd h0 h12 p2.1 q6 n3.1 (show notE p1.2 ≤ 1000000 by omega) n4.1 (show notE p2.2 ≤ 1000000 by omega)
  have r3 := cadd_room h0 q6 n3.1 (show notE p1.2 < 2 * (1 + inputs + (p2.1.length : Int)) by omega) n4.1 n4.2
  have no3 := cadd_no (inputs := inputs) (G := p2.1) (x := notE p1.2) (y := notE p2.2) h0 n3.1 n4.1
  have v1 := not_val2 (show 0 ≤ p1.2 by omega) (show p1.2 ≤ 1000000 by omega)
  have v2 := not_val2 (show 0 ≤ p2.2 by omega) (show p2.2 ≤ 1000000 by omega)
  generalize cadd inputs p2.1 (notE p1.2) (notE p2.2) = p3 at s3 r3 no3 ⊢
  have or_ : ∀ z, spec_l7Not.f p3.2 = some z → Ev (fun k => spec_l7Or.f k inputs p2.1 p1.2 p2.2) (inputs, p3.1, z) := fun z hz => by
    unfold spec_l7Or.f
    exact Ev.bind (Ev.const v1) (Ev.bind (Ev.const v2) (Ev.bind s3 (Ev.bind (Ev.const hz) (Ev.val _))))
  by_cases c3 : p3.2 < 0
  · rw [if_pos c3]
    have e := no3 c3
    refine ⟨_, Ev.neg c0 (Ev.bind s1 (Ev.neg c1 (Ev.bind (Ev.const nv) (Ev.bind s2 (Ev.neg c2 (or_ (-1) (by rw [e]; exact not_neg))))))), ?_⟩
    show spec_l7Told.f inputs p3.1 (-1) = _
    unfold spec_l7Told.f toldP
    rfl
  rw [if_neg c3]
  obtain ⟨q7, _, _⟩ := r3 (by omega)
  exact ⟨_, Ev.neg c0 (Ev.bind s1 (Ev.neg c1 (Ev.bind (Ev.const nv) (Ev.bind s2 (Ev.neg c2 (or_ _ (not_val2 (show 0 ≤ p3.2 by omega) (by omega)))))))), told_val inputs (p3.1, notE p3.2)⟩
theorem impl_pick {inputs : Int} (h0 : 0 ≤ inputs) (h12 : inputs ≤ 12) {G : List S92} (hl : G.length ≤ 600) {s : BS} (h : CBf inputs G false s) {by_ yes no : Int} (b0 : 0 ≤ by_) (b1 : by_ < 2 * (1 + inputs + (G.length : Int))) (y0 : 0 ≤ yes) (y1 : yes < 2 * (1 + inputs + (G.length : Int))) (n0 : 0 ≤ no) (n1 : no < 2 * (1 + inputs + (G.length : Int))) :
    ∃ s' r, impl_builder_pick.f s by_ yes no = some (s', r) ∧ impl_builder_done.f s' r = some (toldP inputs (pickP inputs G by_ yes no)) := by
  have dn : ∀ (G' : List S92) (s' : BS) (r : Int), CBf inputs G' false s' → G'.length ≤ 600 → 0 ≤ r → impl_builder_done.f s' r = some (toldP inputs (G', r)) := fun G' s' r hs hg hr => by
    have e1 : s'.gates = G' := hs.1.gates
    have e2 : s'.inputs = inputs := hs.1.ins
    have e3 : s'.full = false := hs.2
    unfold impl_builder_done.f impl_And_109.f toldP
    rw [if_neg (by rw [e3]; decide), e1, e2, if_pos (show G'.length ≤ 8796093022207 by omega)]
    show some (inputs, G', r) = some (if r < 0 then _ else _)
    rw [if_neg (by omega)]
  have df : ∀ (G' : List S92) (s' : BS) (r : Int), CBf inputs G' true s' → impl_builder_done.f s' r = some (toldP inputs (G, -1)) := fun G' s' r hs => by
    unfold impl_builder_done.f toldP
    rw [if_pos hs.2]
    show _ = some (if (-1 : Int) < 0 then _ else _)
    rw [if_pos (by decide)]
  unfold impl_builder_pick.f pickP
  by_cases c0 : yes = no
  · rw [if_pos c0, if_pos c0]
    exact ⟨s, yes, rfl, dn G s yes h hl y0⟩
  rw [if_neg c0, if_neg c0]
  obtain ⟨s1, r1, G1, f1, a1, a2, a3, a4, a5, a6, a7⟩ := and_step h0 h12 hl h b0 b1 y0 y1
  have nb := not_bound b0 b1
  obtain ⟨s2, r2, G2, f2, d1, d2, d3, d4, d5, d6, d7⟩ := and_step h0 h12 a5 a2 (x := notE by_) (y := no) nb.1 (by omega) n0 (by omega)
  have n3 := not_bound a3.1 a3.2
  have n4 := not_bound d3.1 d3.2
  obtain ⟨s3, r3, G3, f3, g1, g2, g3, g4, g5, g6, g7⟩ := and_step h0 h12 d5 d2 (x := notE r1) (y := notE r2) n3.1 (by omega) n4.1 n4.2
  have n5 := not_bound g3.1 g3.2
  have run : ((impl_builder_and.f s by_ yes).bind fun t => (impl_builder_and.f t.1 (Go.bits .xor .i64 by_ 1) no).bind fun t2 => impl_builder_or.f t2.1 t.2 t2.2) = some (s3, notE r3) := by
    rw [a1, Option.bind_some]
    simp only
    rw [xor_one b0 (by omega), d1, Option.bind_some]
    unfold impl_builder_or.f
    simp only
    rw [xor_one a3.1 (by omega), xor_one d3.1 (by omega), g1, Option.bind_some]
    simp only
    rw [xor_one g3.1 (by omega)]
  refine ⟨s3, notE r3, run, ?_⟩
  by_cases c1 : (cadd inputs G by_ yes).2 < 0
  · rw [if_pos c1]
    have e1 := a7 (.inl c1)
    have e2 := d7 (.inr e1)
    have e3 := g7 (.inr e2)
    rw [e3] at g2
    exact df G3 s3 _ g2
  rw [if_neg c1]
  obtain ⟨x1, x2, x3⟩ := a6 (by omega)
  rw [← x1, ← x2]
  by_cases c2 : (cadd inputs G1 (notE by_) no).2 < 0
  · rw [if_pos c2]
    have e2 := d7 (.inl c2)
    have e3 := g7 (.inr e2)
    rw [e3] at g2
    exact df G3 s3 _ g2
  rw [if_neg c2]
  obtain ⟨x4, x5, x6⟩ := d6 (by omega)
  rw [← x4, ← x5]
  by_cases c3 : (cadd inputs G2 (notE r1) (notE r2)).2 < 0
  · rw [if_pos c3]
    have e3 := g7 (.inl c3)
    rw [e3] at g2
    exact df G3 s3 _ g2
  rw [if_neg c3]
  obtain ⟨x7, x8, x9⟩ := g6 (by omega)
  rw [← x7, ← x8]
  rw [x9, x6, x3] at g2
  exact dn G3 s3 _ g2 g5 n5.1
theorem seen_find {inputs : Int} (h0 : 0 ≤ inputs) (h12 : inputs ≤ 12) (L : List S92) (hl : L.length ≤ 600) : ∀ i : Nat, i ≤ L.length → ∀ y, impl_building.seen inputs L i y = (cfind (L.take i) y).map (fun (j : Nat) => 2 * (1 + inputs + (j : Int))) := by
  intro i
  induction i with
  | zero => intro _ y; rfl
  | succ i ih =>
    intro hi y
    have hil : i < L.length := by omega
    have ts : L.take (i + 1) = L.take i ++ [L[i]] := by
      rw [List.take_add_one, List.getElem?_eq_getElem hil]
      rfl
    have tl : (L.take i).length = i := by rw [List.length_take]; omega
    have ih2 := ih (by omega)
    rw [ts, cfind_snoc2, impl_building.seen, ih2, rdG hil, tl]
    cases hf : cfind (L.take i) L[i] with
    | some j =>
      simp only [Option.map_some]
      rw [ih2]
      by_cases e : y = L[i]
      · rw [e, hf]
      · cases cfind (L.take i) y with
        | some q => rfl
        | none => simp only [if_neg e, Option.map_none]
    | none =>
      simp only [Option.map_none]
      rw [w_id (x := 1 + inputs) (by omega) (by omega), w_id (x := 1 + inputs + (i : Int)) (by omega) (by omega), w_id (by omega) (by omega)]
      by_cases e : y = L[i]
      · rw [if_pos e, e, hf]
        simp
      · rw [if_neg e, ih2]
        cases cfind (L.take i) y with
        | some q => rfl
        | none => simp only [if_neg e, Option.map_none]
theorem building_val {inputs : Int} {L : List S92} (h : CV inputs L) : ∃ s, impl_building.f inputs L = some s ∧ CBf inputs L false s := by
  have h0 := h.i0
  have h12 := h.i12
  have hl := h.len
  refine ⟨⟨inputs, L, impl_building.seen inputs L L.length, false⟩, ?_, ⟨rfl, rfl, rfl, fun y => ?_⟩, rfl⟩
  · unfold impl_building.f impl_And_108.f
    have ok : ∀ x ∈ L, okA x := fun x hx => by
      obtain ⟨i, hi, rfl⟩ := List.mem_iff_getElem.mp hx
      obtain ⟨⟨g1, g2⟩, g3, g4⟩ := h.ok i hi
      exact ⟨⟨g1, by omega⟩, ⟨g3, by omega⟩⟩
    simp only [Option.bind_some, List.length_nil, Nat.zero_add, List.nil_append]
    rw [if_pos (by omega), Option.bind_some, if_pos ok]
  · have := seen_find h0 h12 L hl L.length (Nat.le_refl _) y
    rw [List.take_length] at this
    exact this
theorem copy_loop {inputs : Int} (L : List S92) (hl : L.length ≤ 600) : ∀ (d i : Nat), i + d = L.length → Ev (fun k => spec_l7Copy.l0 k (i : Int) inputs L inputs (L.take i)) (inputs, L) := by
  intro d
  induction d with
  | zero =>
    intro i hi
    rw [List.take_of_length_le (by omega)]
    exact Ev.step (Ev.neg (by omega) (Ev.val _)) (fun k => spec_l7Copy.l0.eq_2 ..)
  | succ d ih =>
    intro i hi
    have hil : i < L.length := by omega
    have nx := ih (i + 1) (by omega)
    rw [List.take_add_one, List.getElem?_eq_getElem hil] at nx
    refine Ev.step (Ev.pos (by omega) (Ev.pos (by omega) (Ev.pos (by rw [List.length_take]; omega) ?_))) (fun k => spec_l7Copy.l0.eq_2 ..)
    rw [rdG hil, wsucc i (by omega)]
    exact nx
def AddAsk (inputs : Int) (L : List S92) (by_ yes no : Int) : Prop := CV inputs L ∧ (0 ≤ by_ ∧ by_ ≤ 2 * (1 + inputs + (L.length : Int)) - 1) ∧ (0 ≤ yes ∧ yes ≤ 2 * (1 + inputs + (L.length : Int)) - 1) ∧ (0 ≤ no ∧ no ≤ 2 * (1 + inputs + (L.length : Int)) - 1)
def AddIs (inputs : Int) (L : List S92) (by_ yes no : Int) (r : Int × List S92 × Int) : Prop :=
  (AddAsk inputs L by_ yes no → r = toldP inputs (pickP inputs L by_ yes no)) ∧ (¬ AddAsk inputs L by_ yes no → r = (0, [], -1))
theorem pick_len {inputs : Int} {L : List S92} {by_ yes no : Int} (h : AddAsk inputs L by_ yes no) : (toldP inputs (pickP inputs L by_ yes no)).2.1.length ≤ 600 := by
  obtain ⟨hc, hb, hy, hn⟩ := h
  obtain ⟨s, s1, s2⟩ := building_val hc
  obtain ⟨s', r, p1, p2⟩ := impl_pick hc.i0 hc.i12 hc.len s2 hb.1 (by omega) hy.1 (by omega) hn.1 (show no < 2 * (1 + inputs + (L.length : Int)) by omega)
  have r1 := cadd_room hc.i0 hc.len hb.1 (show by_ < 2 * (1 + inputs + (L.length : Int)) by omega) hy.1 (show yes < 2 * (1 + inputs + (L.length : Int)) by omega)
  unfold pickP
  by_cases c0 : yes = no
  · rw [if_pos c0]
    unfold toldP
    split
    · exact Nat.zero_le _
    · exact hc.len
  rw [if_neg c0]
  by_cases c1 : (cadd inputs L by_ yes).2 < 0
  · rw [if_pos c1]
    exact Nat.zero_le _
  rw [if_neg c1]
  obtain ⟨q1, q2, q3⟩ := r1 (by omega)
  have nb := not_bound hb.1 (show by_ < 2 * (1 + inputs + (L.length : Int)) by omega)
  have r2 := cadd_room hc.i0 q3 nb.1 (show notE by_ < 2 * (1 + inputs + ((cadd inputs L by_ yes).1.length : Int)) by omega) hn.1 (show no < _ by omega)
  by_cases c2 : (cadd inputs (cadd inputs L by_ yes).1 (notE by_) no).2 < 0
  · rw [if_pos c2]
    exact Nat.zero_le _
  rw [if_neg c2]
  obtain ⟨q4, q5, q6⟩ := r2 (by omega)
  have n3 := not_bound (show 0 ≤ (cadd inputs L by_ yes).2 by omega) q1
  have n4 := not_bound (show 0 ≤ (cadd inputs (cadd inputs L by_ yes).1 (notE by_) no).2 by omega) q4
  have r3 := cadd_room hc.i0 q6 n3.1 (show notE (cadd inputs L by_ yes).2 < _ by omega) n4.1 n4.2
  split
  · exact Nat.zero_le _
  · unfold toldP
    split
    · exact Nat.zero_le _
    · exact (r3 (by omega)).2.2
theorem addIs_ex (inputs : Int) (L : List S92) (by_ yes no : Int) : ∃ r, AddIs inputs L by_ yes no r ∧ r.2.1.length ≤ 600 := by
  by_cases c : AddAsk inputs L by_ yes no
  · exact ⟨_, ⟨fun _ => rfl, fun h => absurd c h⟩, pick_len c⟩
  · exact ⟨(0, [], -1), ⟨fun h => absurd h c, fun _ => rfl⟩, Nat.zero_le _⟩
theorem spec_addpick {inputs by_ yes no : Int} {L : List S92} {r : Int × List S92 × Int} (h : AddIs inputs L by_ yes no r) : Ev (fun k => spec_AddPick.f k inputs L by_ yes no) r := by
  obtain ⟨hy, hn⟩ := h
  unfold spec_AddPick.f
  have e0 : Ev (fun k => spec_AddPick.j0 k by_ yes no true inputs L) (0, [], -1) := Ev.step (Ev.pos rfl (Ev.val _)) (fun k => spec_AddPick.j0.eq_2 ..)
  obtain ⟨q, hb, h1⟩ := spec_cv inputs L
  cases q with
  | false =>
    rw [hn (fun h => by have := h1.2 h.1; cases this)]
    exact Ev.bind hb (Ev.neg (by decide) e0)
  | true =>
    have hd := h1.1 rfl
    have hl := hd.len
    refine Ev.bind hb (Ev.pos rfl (Ev.bind (Ev.const (spec_edge hd by_)) ?_))
    by_cases c : 0 ≤ by_ ∧ by_ ≤ 2 * (1 + inputs + (L.length : Int)) - 1
    · rw [decide_eq_true c]
      refine Ev.pos rfl (Ev.bind (Ev.const (spec_edge hd yes)) ?_)
      by_cases c2 : 0 ≤ yes ∧ yes ≤ 2 * (1 + inputs + (L.length : Int)) - 1
      · rw [decide_eq_true c2]
        refine Ev.pos rfl (Ev.bind (Ev.const (spec_edge hd no)) ?_)
        by_cases c3 : 0 ≤ no ∧ no ≤ 2 * (1 + inputs + (L.length : Int)) - 1
        · rw [decide_eq_true c3, hy ⟨hd, c, c2, c3⟩]
          obtain ⟨r', p1, p2⟩ := spec_pick hd.i0 hd.i12 hl c.1 (by omega) c2.1 (by omega) c3.1 (show no < 2 * (1 + inputs + (L.length : Int)) by omega)
          have cp : Ev (fun k => spec_l7Copy.f k inputs L) (inputs, L) := copy_loop L hl L.length 0 (by omega)
          exact Ev.step (Ev.neg (by decide) (Ev.bind cp (Ev.bind p1 (Ev.bind (Ev.const p2) (Ev.val _))))) (fun k => spec_AddPick.j0.eq_2 ..)
        · rw [decide_eq_false c3, hn (fun h => c3 h.2.2.2)]
          exact e0
      · rw [decide_eq_false c2, hn (fun h => c2 h.2.2.1)]
        exact Ev.neg (by decide) e0
    · rw [decide_eq_false c, hn (fun h => c h.2.1)]
      exact Ev.neg (by decide) e0
theorem addpick_v {inputs by_ yes no : Int} {L : List S92} {r : Int × List S92 × Int} (h : AddIs inputs L by_ yes no r) : Ev (fun k => impl_AddPick.f k inputs L by_ yes no) r := by
  obtain ⟨hy, hn⟩ := h
  unfold impl_AddPick.f
  obtain ⟨q, hb, h1⟩ := impl_cv inputs L
  cases q with
  | false =>
    rw [hn (fun h => by have := h1.2 h.1; cases this)]
    exact Ev.bind hb (Ev.pos rfl (Ev.val _))
  | true =>
    have hd := h1.1 rfl
    have hl := hd.len
    refine Ev.bind hb (Ev.neg (by decide) (Ev.bind (Ev.const (impl_edge hd by_)) ?_))
    by_cases c : 0 ≤ by_ ∧ by_ ≤ 2 * (1 + inputs + (L.length : Int)) - 1
    · rw [decide_eq_true c]
      refine Ev.neg (by decide) (Ev.bind (Ev.const (impl_edge hd yes)) ?_)
      by_cases c2 : 0 ≤ yes ∧ yes ≤ 2 * (1 + inputs + (L.length : Int)) - 1
      · rw [decide_eq_true c2]
        refine Ev.neg (by decide) (Ev.bind (Ev.const (impl_edge hd no)) ?_)
        by_cases c3 : 0 ≤ no ∧ no ≤ 2 * (1 + inputs + (L.length : Int)) - 1
        · rw [decide_eq_true c3, hy ⟨hd, c, c2, c3⟩]
          obtain ⟨s, s1, s2⟩ := building_val hd
          obtain ⟨s', r', p1, p2⟩ := impl_pick hd.i0 hd.i12 hl s2 c.1 (by omega) c2.1 (by omega) c3.1 (show no < 2 * (1 + inputs + (L.length : Int)) by omega)
          exact Ev.neg (by decide) (Ev.bind (Ev.const s1) (Ev.bind (Ev.const p1) (Ev.const p2)))
        · rw [decide_eq_false c3, hn (fun h => c3 h.2.2.2)]
          exact Ev.pos rfl (Ev.val _)
      · rw [decide_eq_false c2, hn (fun h => c2 h.2.2.1)]
        exact Ev.pos rfl (Ev.val _)
    · rw [decide_eq_false c, hn (fun h => c h.2.1)]
      exact Ev.pos rfl (Ev.val _)
/-! #### what a gate that is added once means -/
theorem edv_not (vs : List Int) (e : Int) : edv vs (notE e) = 1 - edv vs e := by
  unfold notE edv
  have h1 : (e + 1 - 2 * (e % 2)) / 2 = e / 2 := by omega
  have h2 : (e + 1 - 2 * (e % 2)) % 2 = 1 - e % 2 := by omega
  rw [h1, h2]
  by_cases c : e % 2 = 1
  · rw [if_pos c, if_neg (by omega)]
    omega
  · rw [if_neg c, if_pos (by omega)]
theorem nodes_len : ∀ (G : List S92) (vs : List Int), (nodesV G vs).length = vs.length + G.length := by
  intro G
  induction G with
  | nil => intro vs; rfl
  | cons g gs ih =>
    intro vs
    unfold nodesV
    rw [ih, List.length_append, List.length_singleton, List.length_cons]
    omega
theorem nodes_pre : ∀ (G : List S92) (vs : List Int) (z : Int), 0 ≤ z → z < (vs.length : Int) → rd (nodesV G vs) z = rd vs z := by
  intro G
  induction G with
  | nil => intro vs z _ _; rfl
  | cons g gs ih =>
    intro vs z z0 z1
    unfold nodesV
    rw [ih _ z z0 (by simp; omega)]
    obtain ⟨n, rfl⟩ := Int.eq_ofNat_of_zero_le z0
    exact rd_app_lt (by omega)
theorem edv_pre (G : List S92) (vs : List Int) {e : Int} (e0 : 0 ≤ e) (e1 : e < 2 * (vs.length : Int)) : edv (nodesV G vs) e = edv vs e := by
  unfold edv
  rw [nodes_pre G vs (e / 2) (by omega) (by omega)]
theorem nodes_app : ∀ (G H : List S92) (vs : List Int), nodesV (G ++ H) vs = nodesV H (nodesV G vs) := by
  intro G
  induction G with
  | nil => intro H vs; rfl
  | cons g gs ih =>
    intro H vs
    show nodesV (gs ++ H) _ = nodesV H (nodesV gs _)
    exact ih H _
theorem node_at {G : List S92} {vs : List Int} {i : Nat} (hi : i < G.length) (a0 : 0 ≤ G[i].f0) (a1 : G[i].f0 < 2 * ((vs.length : Int) + i)) (b0 : 0 ≤ G[i].f1) (b1 : G[i].f1 < 2 * ((vs.length : Int) + i)) :
    rd (nodesV G vs) ((vs.length : Int) + i) = edv (nodesV G vs) G[i].f0 * edv (nodesV G vs) G[i].f1 := by
  have sp : G = G.take i ++ G[i] :: G.drop (i + 1) := by rw [List.getElem_cons_drop, List.take_append_drop]
  obtain ⟨V, hV⟩ : ∃ V, V = nodesV (G.take i) vs := ⟨_, rfl⟩
  have hl : V.length = vs.length + i := by rw [hV, nodes_len, List.length_take]; omega
  have e : nodesV G vs = nodesV (G.drop (i + 1)) (V ++ [edv V G[i].f0 * edv V G[i].f1]) := by
    rw [hV]
    conv => lhs; rw [sp, nodes_app]
    rfl
  have one : ∀ f : Int, 0 ≤ f → f < 2 * (V.length : Int) → edv (V ++ [edv V G[i].f0 * edv V G[i].f1]) f = edv V f := fun f f0 f1 => by
    obtain ⟨n, hn⟩ := Int.eq_ofNat_of_zero_le (show 0 ≤ f / 2 by omega)
    unfold edv
    rw [hn, rd_app_lt (by omega)]
  rw [e, edv_pre _ _ a0 (by simp; omega), edv_pre _ _ b0 (by simp; omega), one _ a0 (by omega), one _ b0 (by omega), nodes_pre _ _ _ (by omega) (by simp; omega), show (vs.length : Int) + i = (V.length : Int) by omega]
  exact rd_app_eq
theorem all_bits {inputs : Int} {G : List S92} (h : CV inputs G) {bits : List Int} (hl : (bits.length : Int) = inputs) (hb : BitRow bits) : BitRow (allNodes G bits) := (impl_values_val h hl hb).2.1
theorem all_len (G : List S92) (bits : List Int) : (allNodes G bits).length = 1 + bits.length + G.length := by
  unfold allNodes
  rw [nodes_len]
  simp
  omega
theorem node0 (G : List S92) (bits : List Int) : rd (allNodes G bits) 0 = 0 := by
  unfold allNodes
  rw [nodes_pre _ _ _ (by decide) (by rw [List.length_append, List.length_singleton]; omega)]
  rfl
theorem cv_snoc {inputs : Int} {G : List S92} (h : CV inputs G) (hl : G.length < 600) {a b : Int} (a0 : 0 ≤ a) (a1 : a < 2 * (1 + inputs + (G.length : Int))) (b0 : 0 ≤ b) (b1 : b < 2 * (1 + inputs + (G.length : Int))) : CV inputs (G ++ [⟨a, b⟩]) := by
  refine ⟨h.i0, h.i12, by simp; omega, fun i hi => ?_⟩
  by_cases c : i < G.length
  · rw [List.getElem_append_left c]
    exact h.ok i c
  · have e : i = G.length := by simp at hi; omega
    subst e
    simp only [List.getElem_concat_length]
    exact ⟨⟨a0, by show a ≤ _; omega⟩, ⟨b0, by show b ≤ _; omega⟩⟩
theorem mul_bits {p q : Int} (hp : p = 0 ∨ p = 1) (hq : q = 0 ∨ q = 1) : p * q = q * p ∧ p * p = p := by
  rcases hp with rfl | rfl <;> rcases hq with rfl | rfl <;> decide
/-- The value of an added gate. -/
theorem cadd_sem {inputs : Int} {G : List S92} (h : CV inputs G) {bits : List Int} (hbl : (bits.length : Int) = inputs) (hb : BitRow bits) {x y : Int} (x0 : 0 ≤ x) (x1 : x < 2 * (1 + inputs + (G.length : Int))) (y0 : 0 ≤ y) (y1 : y < 2 * (1 + inputs + (G.length : Int))) (hr : 0 ≤ (cadd inputs G x y).2) :
    CV inputs (cadd inputs G x y).1 ∧ G <+: (cadd inputs G x y).1 ∧ edv (allNodes (cadd inputs G x y).1 bits) (cadd inputs G x y).2 = edv (allNodes G bits) x * edv (allNodes G bits) y := by
  have vb := all_bits h hbl hb
  have vl := all_len G bits
  have bit : ∀ e : Int, 0 ≤ e → e < 2 * (1 + inputs + (G.length : Int)) → edv (allNodes G bits) e = 0 ∨ edv (allNodes G bits) e = 1 := fun e e0 e1 => edv_01 vb e0 (by rw [vl]; omega)
  obtain ⟨a, ha⟩ : ∃ a, (if y < x then y else x) = a := ⟨_, rfl⟩
  obtain ⟨b, hb2⟩ : ∃ b, (if x < y then y else x) = b := ⟨_, rfl⟩
  have hx := bit x x0 x1
  have hy := bit y y0 y1
  have prod : edv (allNodes G bits) x * edv (allNodes G bits) y = edv (allNodes G bits) a * edv (allNodes G bits) b := by
    rw [← ha, ← hb2]
    by_cases c : y < x
    · rw [if_pos c, if_neg (by omega)]
      exact (mul_bits hx hy).1
    · rw [if_neg c]
      by_cases c2 : x < y
      · rw [if_pos c2]
      · have e : x = y := by omega
        rw [if_neg c2, e]
  have a0 : 0 ≤ a ∧ a < 2 * (1 + inputs + (G.length : Int)) := by rw [← ha]; split <;> omega
  have b0 : 0 ≤ b ∧ b < 2 * (1 + inputs + (G.length : Int)) := by rw [← hb2]; split <;> omega
  have bitA := bit a a0.1 a0.2
  have bitB := bit b b0.1 b0.2
  rw [prod]
  unfold cadd at hr ⊢
  rw [ha, hb2] at hr ⊢
  unfold caddO at hr ⊢
  have e0 : edv (allNodes G bits) 0 = 0 := by
    unfold edv
    rw [if_neg (by decide)]
    exact node0 G bits
  by_cases c1 : a = 0
  · rw [if_pos c1]
    refine ⟨h, List.prefix_refl _, ?_⟩
    show edv (allNodes G bits) 0 = _
    rw [c1, e0, Int.zero_mul]
  rw [if_neg c1] at hr ⊢
  by_cases c2 : a / 2 = b / 2 ∧ a ≠ b
  · rw [if_pos c2]
    refine ⟨h, List.prefix_refl _, ?_⟩
    show edv (allNodes G bits) 0 = _
    have e : b = notE a := by unfold notE; omega
    rw [e0, e, edv_not]
    rcases bitA with q | q <;> rw [q] <;> decide
  rw [if_neg c2] at hr ⊢
  by_cases c3 : a = 1
  · rw [if_pos c3]
    refine ⟨h, List.prefix_refl _, ?_⟩
    show edv (allNodes G bits) b = _
    have e1 : edv (allNodes G bits) 1 = 1 := by
      have := edv_not (allNodes G bits) 0
      rw [e0] at this
      exact this
    rw [c3, e1, Int.one_mul]
  rw [if_neg c3] at hr ⊢
  by_cases c4 : a = b
  · rw [if_pos c4]
    refine ⟨h, List.prefix_refl _, ?_⟩
    show edv (allNodes G bits) b = _
    rw [c4]
    exact (mul_bits bitB bitB).2.symm
  rw [if_neg c4] at hr ⊢
  have val : ∀ (H : List S92) (i : Nat), CV inputs H → ∀ hi : i < H.length, H[i] = (⟨a, b⟩ : S92) → edv (allNodes H bits) (2 * (1 + inputs + (i : Int))) = edv (allNodes H bits) a * edv (allNodes H bits) b := by
    intro H i hH hi hg
    obtain ⟨⟨g1, g2⟩, g3, g4⟩ := hH.ok i hi
    have vl0 : (([0] ++ bits).length : Int) = 1 + inputs := by simp; omega
    have n := node_at (G := H) (vs := [0] ++ bits) hi g1 (by rw [vl0]; omega) g3 (by rw [vl0]; omega)
    rw [vl0, hg] at n
    show edv (nodesV H ([0] ++ bits)) _ = _
    have : edv (nodesV H ([0] ++ bits)) (2 * (1 + inputs + (i : Int))) = rd (nodesV H ([0] ++ bits)) (1 + inputs + (i : Int)) := by
      unfold edv
      rw [if_neg (by omega), show 2 * (1 + inputs + (i : Int)) / 2 = 1 + inputs + (i : Int) by omega]
    rw [this]
    exact n
  cases hf : cfind G ⟨a, b⟩ with
  | some i =>
    have hi := cfind_lt hf
    have hg : G[i] = (⟨a, b⟩ : S92) := by
      have h2 := hf
      unfold cfind at h2
      rw [List.findIdx?_eq_some_iff_getElem] at h2
      exact of_decide_eq_true h2.2.1
    exact ⟨h, List.prefix_refl _, val G i h hi hg⟩
  | none =>
    rw [hf] at hr
    by_cases c5 : 600 ≤ G.length
    · simp only [if_pos c5] at hr
      exact absurd hr (by decide)
    simp only [if_neg c5]
    have hc := cv_snoc h (show G.length < 600 by omega) a0.1 a0.2 b0.1 b0.2
    refine ⟨hc, List.prefix_append _ _, ?_⟩
    rw [val _ G.length hc (by simp) (by simp)]
    have ex : ∀ e : Int, 0 ≤ e → e < 2 * (1 + inputs + (G.length : Int)) → edv (allNodes (G ++ [⟨a, b⟩]) bits) e = edv (allNodes G bits) e := fun e e0 e1 => by
      unfold allNodes
      rw [nodes_app]
      exact edv_pre _ _ e0 (by rw [nodes_len]; simp; omega)
    rw [ex a a0.1 a0.2, ex b b0.1 b0.2]
/-- The values of a beginning stay. -/
theorem edv_ext {inputs : Int} {G H : List S92} (he : G <+: H) {bits : List Int} (hbl : (bits.length : Int) = inputs) {e : Int} (e0 : 0 ≤ e) (e1 : e < 2 * (1 + inputs + (G.length : Int))) : edv (allNodes H bits) e = edv (allNodes G bits) e := by
  obtain ⟨t, rfl⟩ := he
  unfold allNodes
  rw [nodes_app]
  exact edv_pre _ _ e0 (by rw [nodes_len]; simp; omega)
theorem nodes_prefix : ∀ (H : List S92) (vs : List Int), vs <+: nodesV H vs := by
  intro H
  induction H with
  | nil => intro vs; exact List.prefix_refl _
  | cons g gs ih =>
    intro vs
    exact (List.prefix_append _ _).trans (ih _)
/-! #### the program's least row, whole -/
theorem wc_loop (l : List Int) (hl : l.length ≤ 1048576) : ∀ (d i : Nat), i + d = l.length → Ev (fun k => laws_wcInts.l0 k l l (l.length : Int) (i : Int)) true := by
  intro d
  induction d with
  | zero =>
    intro i hi
    exact Ev.step (Ev.neg (by omega) (Ev.val _)) (fun k => laws_wcInts.l0.eq_2 ..)
  | succ d ih =>
    intro i hi
    refine Ev.step (Ev.pos (by omega) (Ev.pos (by omega) (Ev.pos (by omega) (Ev.pos (by omega) (Ev.pos rfl ?_))))) (fun k => laws_wcInts.l0.eq_2 ..)
    rw [wsucc i (by omega)]
    exact ih (i + 1) (by omega)
theorem wc_same (l : List Int) (hl : l.length ≤ 1048576) : Ev (fun k => laws_wcInts.f k l l) true := by
  unfold laws_wcInts.f
  exact Ev.pos rfl (wc_loop l hl l.length 0 (by omega))

theorem draw_and_j2 (b : List Int) (hb : Drawer b) (p : Int) (p0 : 0 ≤ p) (p1 : p ≤ 50000) (i : Int) (L : List S92) (q : Bool) (hq : q = true → 0 < L.length) : Tot (fun k => spec_DrawAddAnd.j2 k q b p i L) (fun _ => True) := by
  refine Tot.step ?_ (fun k => spec_DrawAddAnd.j2.eq_2 ..)
  refine Tot.ite (fun h => Tot.pos (by have := hq h; omega) (Tot.val trivial)) (fun _ => ?_)
  refine Tot.bind (l7some_tot b hb p p0 (by omega) i L) ?_
  rintro ⟨e, q2⟩ ⟨q3, q4⟩
  simp only at q3 q4 ⊢
  exact Tot.bind (l7some_tot b hb q2 q3 (by omega) i L) (fun _ _ => Tot.val trivial)
theorem draw_and_j1 (b : List Int) (hb : Drawer b) (p : Int) (p0 : 0 ≤ p) (p1 : p ≤ 40000) (i : Int) (L : List S92) : Tot (fun k => spec_DrawAddAnd.j1 k b p i L) (fun _ => True) := by
  refine Tot.step ?_ (fun k => spec_DrawAddAnd.j1.eq_2 ..)
  refine Tot.ite (fun h => ?_) (fun _ => draw_and_j2 b hb p p0 (by omega) i L false (fun h => by cases h))
  refine Tot.bind (pick_tot b hb p 5 p0 (by omega)) ?_
  rintro ⟨y, q⟩ ⟨e1, _⟩
  simp only at e1 ⊢
  subst e1
  exact draw_and_j2 b hb (p + 1) (by omega) (by omega) i L _ (fun _ => by omega)
theorem dand_succ (k : Nat) (x : List Int) (p i : Int) (L : List S92) : spec_DrawAddAnd.l0 (k + 1) x p i L = if (L.length : Int) < 600 then (if L.length < 8796093022208 then (spec_DrawAddAnd.l0 k x p i (L ++ [(⟨1, 0⟩ : S92)])) else (none)) else ((spec_l40Rd_pick.f k x p 3).bind fun bt256 => (if bt256.1 = 0 then (if 599 ≤ (L.length : Int) then (spec_DrawAddAnd.j1 k x bt256.2 i (L.take (599 : Int).toNat)) else (none)) else (spec_DrawAddAnd.j1 k x bt256.2 i L))) := rfl
theorem draw_and_l0 (b : List Int) (hb : Drawer b) (p : Int) (p0 : 0 ≤ p) (p1 : p ≤ 30000) (i : Int) : ∀ (d : Nat) (L : List S92), L.length + d = 600 → Tot (fun k => spec_DrawAddAnd.l0 k b p i L) (fun _ => True) := by
  intro d
  induction d with
  | zero =>
    intro L hl
    refine Tot.step (Tot.neg (by omega) (Tot.bind (pick_tot b hb p 3 p0 (by omega)) ?_)) (fun k => dand_succ ..)
    rintro ⟨y, q⟩ ⟨e1, _⟩
    simp only at e1 ⊢
    subst e1
    exact Tot.ite (fun _ => Tot.pos (by omega) (draw_and_j1 b hb (p + 1) (by omega) (by omega) i _)) (fun _ => draw_and_j1 b hb (p + 1) (by omega) (by omega) i L)
  | succ d ih =>
    intro L hl
    exact Tot.step (Tot.pos (by omega) (Tot.pos (by omega) (ih _ (by simp; omega)))) (fun k => dand_succ ..)
theorem draw_addpick (code : List Int) (hc : ∀ x ∈ code, (Lit.int .u8 x).wf = true) : Tot (fun k => spec_DrawAddPick.f k code) (fun _ => True) := by
  obtain ⟨b, ho, hb⟩ := open_tot code hc
  have da : Tot (fun k => spec_DrawAddAnd.f k code) (fun _ => True) := by
    unfold spec_DrawAddAnd.f
    refine Tot.bind (Tot.of (Ev.const ho) (P := fun r => r = (b, 0)) rfl) ?_
    rintro r rfl
    refine Tot.bind (l7any_tot b hb 0 5 (by decide) (by decide) (by decide) (by decide)) ?_
    rintro ⟨i, L, q⟩ ⟨_, hl, q0, q1⟩
    simp only at hl q0 q1 ⊢
    refine Tot.bind (pick_tot b hb q 40 q0 (by omega)) ?_
    rintro ⟨y, q2⟩ ⟨e1, _⟩
    simp only at e1 ⊢
    subst e1
    exact Tot.ite (fun _ => draw_and_l0 b hb (q + 1) (by omega) (by omega) i (600 - L.length) L (by omega)) (fun _ => draw_and_j1 b hb (q + 1) (by omega) (by omega) i L)
  unfold spec_DrawAddPick.f
  refine Tot.bind da ?_
  rintro ⟨i, L, x, y⟩ _
  refine Tot.bind (Tot.of (Ev.const ho) (P := fun r => r = (b, 0)) rfl) ?_
  rintro r rfl
  exact Tot.bind (l7some_tot b hb 0 (by decide) (by decide) i L) (fun _ _ => Tot.val trivial)
theorem edgeValue_of {inputs e : Int} {L : List S92} (h : CV inputs L) (he : 0 ≤ e ∧ e ≤ 2 * (1 + inputs + (L.length : Int)) - 1) {bits : List Int} (hb : BitRow bits) (hl : (bits.length : Int) = inputs) : Ev (fun k => impl_EdgeValue.f k inputs L bits e) (edgeV L e bits) := by
  obtain ⟨k1, k2, k3⟩ := impl_values_val h hl hb
  have h12 := h.i12
  obtain ⟨q, hq, h1⟩ := impl_cv inputs L
  obtain rfl : q = true := h1.2 h
  have h01 : Bit01 bits := fun j hj => by
    rw [rd_lt hj]
    exact hb _ (List.getElem_mem hj)
  unfold impl_EdgeValue.f
  refine Ev.bind hq (Ev.pos rfl (Ev.pos hl (Ev.bind (bits_valid bits (by omega) h01) (Ev.pos rfl (Ev.bind (Ev.const (impl_edge h e)) ?_)))))
  rw [decide_eq_true he]
  exact Ev.step (Ev.neg (by decide) (Ev.bind k1 (Ev.bind (Ev.const (impl_edgeOf_val k2 (by have := h.len; omega) he.1 (by rw [k3]; omega))) (Ev.val _)))) (fun k => impl_EdgeValue.j0.eq_2 ..)
theorem nodeValues_of {inputs : Int} {L : List S92} (h : CV inputs L) {bits : List Int} (hb : BitRow bits) (hl : (bits.length : Int) = inputs) : Ev (fun k => impl_NodeValues.f k inputs L bits) (allNodes L bits) := by
  obtain ⟨k1, k2, k3⟩ := impl_values_val h hl hb
  have h12 := h.i12
  have hll := h.len
  obtain ⟨q, hq, h1⟩ := impl_cv inputs L
  obtain rfl : q = true := h1.2 h
  have h01 : Bit01 bits := fun j hj => by
    rw [rd_lt hj]
    exact hb _ (List.getElem_mem hj)
  have cl : impl_clone_int.f (allNodes L bits) = some (allNodes L bits) := by
    unfold impl_clone_int.f
    rw [if_pos (by omega)]
  unfold impl_NodeValues.f
  exact Ev.bind hq (Ev.pos rfl (Ev.pos hl (Ev.bind (bits_valid bits (by omega) h01) (Ev.step (Ev.neg (by decide) (Ev.bind k1 (Ev.bind (Ev.const cl) (Ev.val _)))) (fun k => impl_NodeValues.j0.eq_2 ..)))))
/-- What the picked edge means. -/
theorem pick_sem {inputs : Int} {L : List S92} {by_ yes no : Int} (h : AddAsk inputs L by_ yes no) (hr : 0 ≤ (pickP inputs L by_ yes no).2) :
    CV inputs (pickP inputs L by_ yes no).1 ∧ L <+: (pickP inputs L by_ yes no).1 ∧ (pickP inputs L by_ yes no).2 ≤ 2 * (1 + inputs + ((pickP inputs L by_ yes no).1.length : Int)) - 1 ∧
      ∀ bits : List Int, BitRow bits → (bits.length : Int) = inputs → edgeV (pickP inputs L by_ yes no).1 (pickP inputs L by_ yes no).2 bits = if edgeV L by_ bits = 1 then edgeV L yes bits else edgeV L no bits := by
  obtain ⟨hc, hb, hy, hn⟩ := h
  have h0 := hc.i0
  have h12 := hc.i12
  unfold pickP at hr ⊢
  by_cases c0 : yes = no
  · rw [if_pos c0] at hr ⊢
    refine ⟨hc, List.prefix_refl _, hy.2, fun bits _ _ => ?_⟩
    show edgeV L yes bits = _
    rw [c0, ite_self]
  rw [if_neg c0] at hr ⊢
  by_cases c1 : (cadd inputs L by_ yes).2 < 0
  · rw [if_pos c1] at hr
    exact absurd (show (0 : Int) ≤ -1 from hr) (by decide)
  rw [if_neg c1] at hr ⊢
  have r1 := cadd_room h0 hc.len hb.1 (show by_ < 2 * (1 + inputs + (L.length : Int)) by omega) hy.1 (show yes < 2 * (1 + inputs + (L.length : Int)) by omega) (by omega)
  have m1 := fun bits hbt hbl => cadd_sem hc (bits := bits) hbl hbt hb.1 (show by_ < 2 * (1 + inputs + (L.length : Int)) by omega) hy.1 (show yes < 2 * (1 + inputs + (L.length : Int)) by omega) (by omega)
  generalize cadd inputs L by_ yes = p1 at hr c1 r1 m1 ⊢
  obtain ⟨q1, q2, q3⟩ := r1
  have nb := not_bound hb.1 (show by_ < 2 * (1 + inputs + (L.length : Int)) by omega)
  by_cases c2 : (cadd inputs p1.1 (notE by_) no).2 < 0
  · rw [if_pos c2] at hr
    exact absurd (show (0 : Int) ≤ -1 from hr) (by decide)
  rw [if_neg c2] at hr ⊢
  obtain ⟨m, hm⟩ := Int.eq_ofNat_of_zero_le h0
  have z := m1 (List.replicate m 0) (fun x hx => .inl (List.eq_of_mem_replicate hx)) (by rw [List.length_replicate]; omega)
  have r2 := cadd_room h0 q3 nb.1 (show notE by_ < 2 * (1 + inputs + (p1.1.length : Int)) by omega) hn.1 (show no < 2 * (1 + inputs + (p1.1.length : Int)) by omega) (by omega)
  have m2 := fun bits hbt hbl => cadd_sem z.1 (bits := bits) hbl hbt nb.1 (show notE by_ < 2 * (1 + inputs + (p1.1.length : Int)) by omega) hn.1 (show no < 2 * (1 + inputs + (p1.1.length : Int)) by omega) (by omega)
  generalize cadd inputs p1.1 (notE by_) no = p2 at hr c2 r2 m2 ⊢
  obtain ⟨q4, q5, q6⟩ := r2
  have n3 := not_bound (show 0 ≤ p1.2 by omega) q1
  have n4 := not_bound (show 0 ≤ p2.2 by omega) q4
  by_cases c3 : (cadd inputs p2.1 (notE p1.2) (notE p2.2)).2 < 0
  · rw [if_pos c3] at hr
    exact absurd (show (0 : Int) ≤ -1 from hr) (by decide)
  rw [if_neg c3] at hr ⊢
  have z2 := m2 (List.replicate m 0) (fun x hx => .inl (List.eq_of_mem_replicate hx)) (by rw [List.length_replicate]; omega)
  have r3 := cadd_room h0 q6 n3.1 (show notE p1.2 < 2 * (1 + inputs + (p2.1.length : Int)) by omega) n4.1 n4.2 (by omega)
  have m3 := fun bits hbt hbl => cadd_sem z2.1 (bits := bits) hbl hbt n3.1 (show notE p1.2 < 2 * (1 + inputs + (p2.1.length : Int)) by omega) n4.1 n4.2 (by omega)
  generalize cadd inputs p2.1 (notE p1.2) (notE p2.2) = p3 at hr c3 r3 m3 ⊢
  have z3 := m3 (List.replicate m 0) (fun x hx => .inl (List.eq_of_mem_replicate hx)) (by rw [List.length_replicate]; omega)
  have n5 := not_bound (show 0 ≤ p3.2 by omega) r3.1
  refine ⟨z3.1, z.2.1.trans (z2.2.1.trans z3.2.1), by simp only; omega, fun bits hbt hbl => ?_⟩
  obtain ⟨_, x1, v1⟩ := m1 bits hbt hbl
  obtain ⟨_, x2, v2⟩ := m2 bits hbt hbl
  obtain ⟨_, x3, v3⟩ := m3 bits hbt hbl
  show edv (allNodes p3.1 bits) (notE p3.2) = if edv (allNodes L bits) by_ = 1 then edv (allNodes L bits) yes else edv (allNodes L bits) no
  have vb := all_bits hc hbl hbt
  have vl := all_len L bits
  have bit : ∀ e : Int, 0 ≤ e → e ≤ 2 * (1 + inputs + (L.length : Int)) - 1 → edv (allNodes L bits) e = 0 ∨ edv (allNodes L bits) e = 1 := fun e e0 e1 => edv_01 vb e0 (by rw [vl]; omega)
  rw [edv_not, v3, edv_not, edv_not, v2, edv_not, edv_ext x2 hbl (show 0 ≤ p1.2 by omega) q1, v1, edv_ext x1 hbl hb.1 (by omega), edv_ext x1 hbl hn.1 (by omega)]
  rcases bit by_ hb.1 hb.2 with e1 | e1 <;> rcases bit yes hy.1 hy.2 with e2 | e2 <;> rcases bit no hn.1 hn.2 with e3 | e3 <;> rw [e1, e2, e3] <;> decide
theorem addpick_l1 {inputs : Int} {m : Nat} (hm : (m : Int) = inputs) (h12 : inputs ≤ 12) (v : Nat) {by_ yes no e : Int} {L G : List S92} (r : Bool)
    (rest : ∀ bits : List Int, BitRow bits → bits.length = m → Ev (fun k => (impl_NodeValues.f k inputs L bits).bind fun t343 => (impl_NodeValues.f k inputs G bits).bind fun t346 => if (t346.length : Int) < (t343.length : Int) then laws_FnAddPick.j3 k by_ yes no e bits (v : Int) true inputs L inputs G else if 0 ≤ (t343.length : Int) then if (t343.length : Int) ≤ (t346.length : Int) then (laws_wcInts.f k t343 (t346.take ((t343.length : Int) : Int).toNat)).bind fun t353 => laws_FnAddPick.j3 k by_ yes no e bits (v : Int) (!t353) inputs L inputs G else none else none) r) :
    ∀ (d j : Nat) (bits : List Int), j + d = m → BitRow bits → bits.length = j → Ev (fun k => laws_FnAddPick.l1 k by_ yes no e (v : Int) bits (v : Int) inputs (j : Int) inputs L inputs G) r := by
  intro d
  induction d with
  | zero =>
    intro j bits hj hb hl
    exact Ev.step (Ev.neg (by omega) (rest bits hb (by omega))) (fun k => laws_FnAddPick.l1.eq_2 ..)
  | succ d ih =>
    intro j bits hj hb hl
    have t0 : 0 ≤ Int.tmod (j : Int) 3 := by rw [Int.tmod_eq_emod_of_nonneg (by omega)]; omega
    obtain ⟨t, ht⟩ := Int.eq_ofNat_of_zero_le t0
    refine Ev.step (Ev.pos (by omega) (Ev.pos t0 (Ev.pos (by omega) ?_))) (fun k => laws_FnAddPick.l1.eq_2 ..)
    rw [wsucc j (by omega), ht]
    exact ih (j + 1) _ (by omega) (hb.snoc (shr_bit v t)) (by simp; omega)
theorem addpick_l0 {inputs by_ yes no : Int} {L : List S92} (h : AddAsk inputs L by_ yes no) (hr : 0 ≤ (pickP inputs L by_ yes no).2) : ∀ (d i : Nat), i + d = 8 → Ev (fun k => laws_FnAddPick.l0 k by_ yes no (pickP inputs L by_ yes no).2 (i : Int) inputs L inputs (pickP inputs L by_ yes no).1) true := by
  have h0 := h.1.i0
  have h12 := h.1.i12
  have hl := h.1.len
  obtain ⟨m, hm⟩ := Int.eq_ofNat_of_zero_le h0
  obtain ⟨s1, s2, s3, s4⟩ := pick_sem h hr
  intro d
  induction d with
  | zero =>
    intro i hi
    obtain ⟨q, hq, h1⟩ := impl_cv inputs (pickP inputs L by_ yes no).1
    obtain rfl : q = true := h1.2 s1
    exact Ev.step (Ev.neg (by omega) (Ev.bind hq (Ev.val _))) (fun k => laws_FnAddPick.l0.eq_2 ..)
  | succ d ih =>
    intro i hi
    refine Ev.step (Ev.pos (by omega) (addpick_l1 (m := m) hm.symm h12 i true (fun bits hb hbl => ?_) m 0 [] (by omega) (fun x hx => by simp at hx) rfl)) (fun k => laws_FnAddPick.l0.eq_2 ..)
    have hbi : (bits.length : Int) = inputs := by omega
    have pre : allNodes L bits <+: allNodes (pickP inputs L by_ yes no).1 bits := by
      obtain ⟨t, ht⟩ := s2
      rw [← ht]
      unfold allNodes
      rw [nodes_app]
      exact nodes_prefix _ _
    have nl := all_len L bits
    have tk : (allNodes (pickP inputs L by_ yes no).1 bits).take (((allNodes L bits).length : Int)).toNat = allNodes L bits := by
      rw [Int.toNat_natCast]
      exact (List.prefix_iff_eq_take.1 pre).symm
    refine Ev.bind (nodeValues_of h.1 hb hbi) (Ev.bind (nodeValues_of s1 hb hbi) (Ev.neg (by have := pre.length_le; omega) (Ev.pos (by omega) (Ev.pos (by have := pre.length_le; omega) ?_))))
    rw [tk]
    refine Ev.bind (wc_same _ (by omega)) (Ev.step (Ev.neg (by decide) ?_) (fun k => laws_FnAddPick.j3.eq_2 ..))
    have eb := edgeValue_of h.1 h.2.1 hb hbi
    have ey := edgeValue_of h.1 h.2.2.1 hb hbi
    have en := edgeValue_of h.1 h.2.2.2 hb hbi
    have ex := edgeValue_of s1 ⟨hr, s3⟩ hb hbi
    have nx := ih (i + 1) (by omega)
    have sv := s4 bits hb hbi
    rw [← wsucc i (by omega)] at nx
    by_cases c : edgeV L by_ bits = 1
    · rw [if_pos c] at sv
      exact Ev.bind en (Ev.bind eb (Ev.pos c (Ev.bind ey (Ev.bind ex (Ev.pos sv nx)))))
    · rw [if_neg c] at sv
      exact Ev.bind en (Ev.bind eb (Ev.neg c (Ev.bind ex (Ev.pos sv nx))))
theorem FnAddPick : laws_FnAddPick.Pure := by
  intro code _ _ hc
  apply Ev.get
  unfold laws_FnAddPick.f
  by_cases c0 : (code.length : Int) > 1048576
  · exact Ev.pos c0 (Ev.val _)
  refine Ev.neg c0 ?_
  obtain ⟨⟨inputs, L, by_, yes, no⟩, hdraw, _⟩ := draw_addpick code hc
  refine Ev.bind hdraw ?_
  simp only
  obtain ⟨⟨r1, R, r3⟩, ht, hR⟩ := addIs_ex inputs L by_ yes no
  refine Ev.bind (addpick_v ht) (Ev.bind (spec_addpick ht) (Ev.pos rfl (Ev.pos rfl ?_)))
  simp only
  obtain ⟨hy, hn⟩ := ht
  have bad : (r1, R, r3) = ((0 : Int), ([] : List S92), (-1 : Int)) → Ev (fun k => laws_FnAddPick.j0 k by_ yes no r3 r3 (decide (r3 < 0)) inputs L r1 R r1 R) true := by
    intro hh
    simp only [Prod.mk.injEq] at hh
    obtain ⟨rfl, rfl, rfl⟩ := hh
    exact Ev.step (Ev.pos (by decide) (Ev.pos rfl (Ev.pos rfl (Ev.val _)))) (fun k => laws_FnAddPick.j0.eq_2 ..)
  by_cases ask : AddAsk inputs L by_ yes no
  · have hh := hy ask
    unfold toldP at hh
    by_cases cn : (pickP inputs L by_ yes no).2 < 0
    · rw [if_pos cn] at hh
      exact bad hh
    · rw [if_neg cn] at hh
      simp only [Prod.mk.injEq] at hh
      obtain ⟨rfl, rfl, rfl⟩ := hh
      rw [decide_eq_false cn]
      exact Ev.step (Ev.neg (by decide) (addpick_l0 ask (Int.not_lt.mp cn) 8 0 (by omega))) (fun k => laws_FnAddPick.j0.eq_2 ..)
  · exact bad (hn ask)

end Go.Proofs.Ytpcckoljocpchaa.Pure
