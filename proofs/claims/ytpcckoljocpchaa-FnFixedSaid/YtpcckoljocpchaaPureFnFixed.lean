/- FnFixed: the circuit in which an input is a constant has the elder one's values there and does not need the input, on both sides, whatever is drawn. -/
import Derived.Test.YtpcckoljocpchaaQFnFixedx11
namespace Go.Proofs.Ytpcckoljocpchaa.Pure
open Go.RowKit Go.Proofs.Ytpcckoljocpchaa.QFnFixed Go.Proofs.YtpcckoljocpchaaW.PrintWords Go.Proofs.YtpcckoljocpchaaW.PrintLast Go.Proofs.YtpcckoljocpchaaW.PrintMore
set_option linter.unusedVariables false
set_option linter.unusedSimpArgs false

/-! #### rounds -/
/-- From some number of rounds on, g tells r. -/
def Ev {α : Type} (g : Nat → Option α) (r : α) : Prop := ∃ K, ∀ k, K ≤ k → g k = some r
theorem Ev.val {α : Type} (r : α) : Ev (fun _ => some r) r := ⟨0, fun _ _ => rfl⟩
theorem Ev.valEq {α : Type} {r r' : α} (h : r = r') : Ev (fun _ => some r) r' := ⟨0, fun _ _ => by rw [h]⟩
theorem Ev.const {α : Type} {g : Option α} {r : α} (h : g = some r) : Ev (fun _ => g) r := ⟨0, fun _ _ => h⟩
theorem Ev.bind {α β : Type} {g : Nat → Option α} {f : Nat → α → Option β} {a : α} {b : β} (h : Ev g a) (h2 : Ev (fun k => f k a) b) : Ev (fun k => (g k).bind (f k)) b := by
  obtain ⟨K, hK⟩ := h
  obtain ⟨L, hL⟩ := h2
  exact ⟨max K L, fun k hk => by show (g k).bind (f k) = _; rw [hK k (by omega)]; exact hL k (by omega)⟩
theorem Ev.step {α : Type} {g g' : Nat → Option α} {r : α} (h : Ev g' r) (e : ∀ k, g (k + 1) = g' k) : Ev g r := by
  obtain ⟨K, hK⟩ := h
  exact ⟨K + 1, fun k hk => by
    obtain ⟨m, rfl⟩ : ∃ m, k = m + 1 := ⟨k - 1, by omega⟩
    rw [e]
    exact hK m (by omega)⟩
theorem Ev.pos {α : Type} {c : Prop} [Decidable c] {g g' : Nat → Option α} {r : α} (hc : c) (h : Ev g r) : Ev (fun k => if c then g k else g' k) r := by
  obtain ⟨K, hK⟩ := h
  exact ⟨K, fun k hk => by simp only [if_pos hc]; exact hK k hk⟩
theorem Ev.neg {α : Type} {c : Prop} [Decidable c] {g g' : Nat → Option α} {r : α} (hc : ¬ c) (h : Ev g' r) : Ev (fun k => if c then g k else g' k) r := by
  obtain ⟨K, hK⟩ := h
  exact ⟨K, fun k hk => by simp only [if_neg hc]; exact hK k hk⟩
theorem Ev.get {α : Type} {g : Nat → Option α} {r : α} (h : Ev g r) : ∃ k, g k = some r := by
  obtain ⟨K, hK⟩ := h
  exact ⟨K, hK K (Nat.le_refl _)⟩
/-! #### numbers -/
theorem w_id {x : Int} (h0 : -9223372036854775808 ≤ x) (h1 : x ≤ 9223372036854775807) : wrap64 x = x := by
  unfold wrap64
  omega
/-! #### lists -/
theorem rd_nat (l : List Int) (i : Nat) : rd l (i : Int) = l.getD i 0 := by
  unfold rd
  rw [Int.toNat_natCast]
theorem getD_lt {α : Type} {l : List α} {i : Nat} (h : i < l.length) (d : α) : l.getD i d = l[i] := by
  rw [List.getD_eq_getElem?_getD, List.getElem?_eq_getElem h]
  rfl
theorem rd_lt {l : List Int} {i : Nat} (h : i < l.length) : rd l (i : Int) = l[i] := by rw [rd_nat, getD_lt h]
theorem rd_set_eq {l : List Int} {i : Nat} {v : Int} (h : i < l.length) : rd (l.set i v) (i : Int) = v := by
  rw [rd_lt (by simpa using h)]
  simp
theorem rd_set_ne {l : List Int} {i j : Nat} {v : Int} (h : i ≠ j) : rd (l.set i v) (j : Int) = rd l (j : Int) := by
  rw [rd_nat, rd_nat, List.getD_eq_getElem?_getD, List.getD_eq_getElem?_getD, List.getElem?_set_ne h]
theorem rd_app_lt {l m : List Int} {j : Nat} (h : j < l.length) : rd (l ++ m) (j : Int) = rd l (j : Int) := by
  rw [rd_nat, rd_nat, List.getD_eq_getElem?_getD, List.getD_eq_getElem?_getD, List.getElem?_append_left h]
theorem rd_app_eq {l : List Int} {v : Int} : rd (l ++ [v]) (l.length : Int) = v := by
  rw [rd_nat, List.getD_eq_getElem?_getD, List.getElem?_append_right (Nat.le_refl _)]
  simp
theorem list_eq_rd {l m : List Int} (hl : l.length = m.length) (h : ∀ j : Nat, j < l.length → rd l (j : Int) = rd m (j : Int)) : l = m := by
  apply List.ext_getElem hl
  intro i h1 h2
  rw [← rd_lt h1, ← rd_lt h2]
  exact h i h1
theorem wsucc (i : Nat) (h : i ≤ 4611686018427387904) : wrap64 ((i : Int) + 1) = ((i + 1 : Nat) : Int) := by
  unfold wrap64
  omega
/-- g tells in the end whether p is so. -/
def Dec (g : Nat → Option Bool) (p : Prop) : Prop := ∃ b, Ev g b ∧ (b = true ↔ p)
theorem Dec.no {g : Nat → Option Bool} {p : Prop} (h : Ev g false) (hp : ¬ p) : Dec g p := ⟨false, h, by simp [hp]⟩
/-! #### it tells something, of which P holds -/
def Tot {α : Type} (g : Nat → Option α) (P : α → Prop) : Prop := ∃ r, Ev g r ∧ P r
theorem Tot.of {α : Type} {g : Nat → Option α} {P : α → Prop} {r : α} (h : Ev g r) (hp : P r) : Tot g P := ⟨r, h, hp⟩
theorem Tot.val {α : Type} {P : α → Prop} {r : α} (h : P r) : Tot (fun _ => some r) P := ⟨r, Ev.val r, h⟩
theorem Tot.mono {α : Type} {g : Nat → Option α} {P Q : α → Prop} (h : Tot g P) (hq : ∀ r, P r → Q r) : Tot g Q := by
  obtain ⟨r, h1, h2⟩ := h
  exact ⟨r, h1, hq r h2⟩
theorem Tot.step {α : Type} {g g' : Nat → Option α} {P : α → Prop} (h : Tot g' P) (e : ∀ k, g (k + 1) = g' k) : Tot g P := by
  obtain ⟨r, h1, h2⟩ := h
  exact ⟨r, Ev.step h1 e, h2⟩
theorem Tot.bind {α β : Type} {g : Nat → Option α} {f : Nat → α → Option β} {Q : α → Prop} {P : β → Prop} (h : Tot g Q) (h2 : ∀ a, Q a → Tot (fun k => f k a) P) : Tot (fun k => (g k).bind (f k)) P := by
  obtain ⟨a, ha, hq⟩ := h
  obtain ⟨r, h1, h3⟩ := h2 a hq
  exact ⟨r, Ev.bind ha h1, h3⟩
theorem Tot.pos {α : Type} {c : Prop} [Decidable c] {g g' : Nat → Option α} {P : α → Prop} (hc : c) (h : Tot g P) : Tot (fun k => if c then g k else g' k) P := by
  obtain ⟨r, h1, h2⟩ := h
  exact ⟨r, Ev.pos hc h1, h2⟩
theorem Tot.neg {α : Type} {c : Prop} [Decidable c] {g g' : Nat → Option α} {P : α → Prop} (hc : ¬ c) (h : Tot g' P) : Tot (fun k => if c then g k else g' k) P := by
  obtain ⟨r, h1, h2⟩ := h
  exact ⟨r, Ev.neg hc h1, h2⟩
theorem Tot.ite {α : Type} {c : Prop} [Decidable c] {g g' : Nat → Option α} {P : α → Prop} (h1 : c → Tot g P) (h2 : ¬ c → Tot g' P) : Tot (fun k => if c then g k else g' k) P := by
  by_cases hc : c
  · exact Tot.pos hc (h1 hc)
  · exact Tot.neg hc (h2 hc)
theorem in_dec {x a b : Int} : Ev (fun _ => impl_in.f x a b) (decide (a ≤ x ∧ x ≤ b)) := by
  unfold impl_in.f
  by_cases h : x ≥ a
  · refine Ev.pos h (Ev.valEq ?_)
    simp only [decide_eq_decide]
    omega
  · refine Ev.neg h (Ev.valEq ?_)
    symm
    rw [decide_eq_false_iff_not]
    omega
theorem idx_tot (p : Nat → Int → Option Bool) (P : Nat → Prop) (m : Nat) (hp : ∀ j : Nat, j < m → Dec (fun k => p k (j : Int)) (P j)) : ∀ (d i : Nat), i + d = m →
    Tot (fun k => Copy.idxO (p k) d (i : Int)) (fun r => 0 ≤ r ↔ ∃ j : Nat, i ≤ j ∧ j < m ∧ P j) := by
  intro d
  induction d with
  | zero =>
    intro i hi
    exact Tot.val ⟨fun h => by omega, fun ⟨j, h1, h2, _⟩ => by omega⟩
  | succ d ih =>
    intro i hi
    obtain ⟨b, hb, hbi⟩ := hp i (by omega)
    cases b with
    | true => exact ⟨(i : Int), Ev.bind hb (Ev.pos rfl (Ev.val _)), fun _ => ⟨i, Nat.le_refl _, by omega, hbi.mp rfl⟩, fun _ => by omega⟩
    | false =>
      obtain ⟨r, hr, hri⟩ := ih (i + 1) (by omega)
      refine ⟨r, Ev.bind hb (Ev.neg (by decide) ?_), hri.trans ?_⟩
      · have e : ((i + 1 : Nat) : Int) = (i : Int) + 1 := by omega
        rw [← e]
        exact hr
      · constructor
        · rintro ⟨j, h1, h2, h3⟩
          exact ⟨j, by omega, h2, h3⟩
        · rintro ⟨j, h1, h2, h3⟩
          rcases Nat.lt_or_eq_of_le h1 with h4 | rfl
          · exact ⟨j, h4, h2, h3⟩
          · exact absurd (hbi.mpr h3) (by decide)
/-! #### the truth of clauses by a row of bits -/
def Bit01 (xs : List Int) : Prop := ∀ j : Nat, j < xs.length → rd xs (j : Int) = 0 ∨ rd xs (j : Int) = 1
theorem bits_valid (xs : List Int) (hl : xs.length ≤ 1048576) (hb : Bit01 xs) : Ev (fun _ => impl_bitsValid.f xs) true := by
  unfold impl_bitsValid.f
  obtain ⟨r, h1, h2⟩ := idx_tot (fun _ => impl_bitsValid.p xs) (fun _ => False) xs.length (fun j hj => by
    unfold impl_bitsValid.p
    refine Dec.no (Ev.bind in_dec (Ev.valEq ?_)) id
    have := hb j hj
    simp
    omega) xs.length 0 (by omega)
  refine Ev.bind h1 (Ev.valEq ?_)
  have : ¬ 0 ≤ r := fun h => by
    obtain ⟨j, _, _, h3⟩ := h2.mp h
    exact h3
  simp [this]
theorem shr_bit (v i : Nat) : Int.tmod (shr .i64 (v : Int) (i : Int)) 2 = 0 ∨ Int.tmod (shr .i64 (v : Int) (i : Int)) 2 = 1 := by
  unfold shr
  have h0 : 0 ≤ (v : Int) / 2 ^ min (i : Int).toNat IntKind.i64.bits := Int.ediv_nonneg (Int.natCast_nonneg _) (Int.le_of_lt (Int.pow_pos (by decide)))
  rw [Int.tmod_eq_emod_of_nonneg h0]
  omega
/-! #### the drawer of numbers -/
def Drawer (b : List Int) : Prop := b.length ≤ 2000 ∧ ∀ j : Nat, j < b.length → 0 ≤ rd b (j : Int) ∧ rd b (j : Int) ≤ 255
theorem xor_nonneg (a c : Int) (ha : 0 ≤ a) (ha2 : a < 4611686018427387904) (hc : 0 ≤ c) (hc2 : c < 4611686018427387904) : 0 ≤ Go.bits .xor .i64 a c := by
  obtain ⟨m, rfl⟩ := Int.eq_ofNat_of_zero_le ha
  obtain ⟨n, rfl⟩ := Int.eq_ofNat_of_zero_le hc
  have hm : m < 2 ^ 62 := by omega
  have hn : n < 2 ^ 62 := by omega
  have hx := Nat.xor_lt_two_pow hm hn
  have hm' : m % 2 ^ 64 = m := Nat.mod_eq_of_lt (by omega)
  have hn' : n % 2 ^ 64 = n := Nat.mod_eq_of_lt (by omega)
  have e : (BitVec.ofInt 64 (m : Int) ^^^ BitVec.ofInt 64 (n : Int)).toNat = m ^^^ n := by
    rw [BitVec.ofInt_natCast, BitVec.ofInt_natCast, BitVec.toNat_xor, BitVec.toNat_ofNat, BitVec.toNat_ofNat, hm', hn']
  have e2 : Go.bits .xor .i64 (m : Int) (n : Int) = IntKind.i64.wrap ((BitVec.ofInt 64 (m : Int) ^^^ BitVec.ofInt 64 (n : Int)).toNat : Int) := rfl
  rw [e2, e, IntKind.wrap_i64]
  omega
theorem tmod_range (x n : Int) (h0 : 0 ≤ x) (hn : 1 ≤ n) : 0 ≤ Int.tmod x n ∧ Int.tmod x n < n := by
  rw [Int.tmod_eq_emod_of_nonneg h0]
  exact ⟨Int.emod_nonneg _ (by omega), Int.emod_lt_of_pos _ (by omega)⟩
theorem pick_tot (b : List Int) (hb : Drawer b) (p n : Int) (hp : 0 ≤ p) (hp2 : p ≤ 1000000) :
    Tot (fun k => spec_l40Rd_pick.f k b p n) (fun r => r.2 = p + 1 ∧ 0 ≤ r.1 ∧ (1 ≤ n → r.1 < n)) := by
  obtain ⟨hl, hbb⟩ := hb
  have w1 : wrap64 (p + 1) = p + 1 := w_id (by omega) (by omega)
  have w2 : wrap64 (p + 1 - 1) = p := by rw [w_id (by omega) (by omega)]; omega
  have byte : ∀ z : Int, 0 ≤ z → z < (b.length : Int) → 0 ≤ rd b z ∧ rd b z ≤ 255 := by
    intro z h0 h1
    obtain ⟨m, rfl⟩ := Int.eq_ofNat_of_zero_le h0
    exact hbb m (by omega)
  unfold spec_l40Rd_pick.f
  rw [w1]
  refine Tot.ite (fun hn => ?_) (fun hn => ?_)
  · refine Tot.step (Tot.pos rfl (Tot.val ?_)) (fun k => spec_l40Rd_pick.j0.eq_2 ..)
    exact ⟨rfl, Int.le_refl _, fun h => by omega⟩
  · refine Tot.step ?_ (fun k => spec_l40Rd_pick.j0.eq_2 ..)
    refine Tot.ite (fun hz => Tot.val ⟨rfl, Int.le_refl _, fun h => by show (0 : Int) < n; omega⟩) (fun hz => ?_)
    have hlen : (b.length : Int) ≠ 0 := by simpa using hz
    rw [w2]
    refine Tot.ite (fun hpl => ?_) (fun hpl => ?_)
    · obtain ⟨y0, y1⟩ := byte p hp hpl
      refine Tot.pos hp (Tot.neg (by omega) (Tot.val ?_))
      rw [w_id (by omega) (by omega)]
      obtain ⟨z0, z1⟩ := tmod_range (rd b p) n y0 (by omega)
      exact ⟨rfl, z0, fun _ => z1⟩
    · obtain ⟨i0, i1⟩ := tmod_range p (b.length : Int) hp (by omega)
      have w3 : wrap64 (p * 7) = p * 7 := w_id (by omega) (by omega)
      have w4 : wrap64 (p * 7 + 3) = p * 7 + 3 := w_id (by omega) (by omega)
      rw [w3, w4]
      obtain ⟨j0, j1⟩ := tmod_range (p * 7 + 3) (b.length : Int) (by omega) (by omega)
      refine Tot.neg (by omega) (Tot.pos i0 (Tot.pos i1 (Tot.pos j0 (Tot.pos j1 (Tot.neg (by omega) (Tot.val ?_))))))
      obtain ⟨u0, u1⟩ := byte _ i0 i1
      obtain ⟨v0, v1⟩ := byte _ j0 j1
      generalize rd b (Int.tmod p (b.length : Int)) = u at u0 u1 ⊢
      generalize rd b (Int.tmod (p * 7 + 3) (b.length : Int)) = v at v0 v1 ⊢
      have q0 : 0 ≤ Int.tdiv p (b.length : Int) ∧ Int.tdiv p (b.length : Int) ≤ p := by
        rw [Int.tdiv_eq_ediv_of_nonneg hp]
        exact ⟨Int.ediv_nonneg hp (by omega), Int.ediv_le_self _ hp⟩
      generalize Int.tdiv p (b.length : Int) = q at q0 ⊢
      rw [w_id (x := u) (by omega) (by omega), w_id (x := v) (by omega) (by omega), w_id (x := q) (by omega) (by omega), w_id (x := u * 131) (by omega) (by omega), w_id (x := v * 1117) (by omega) (by omega),
        w_id (x := p * 29) (by omega) (by omega), w_id (x := q * 53) (by omega) (by omega), w_id (x := u * 131 + v * 1117) (by omega) (by omega), w_id (x := u * 131 + v * 1117 + p * 29) (by omega) (by omega), w_id (x := u * 131 + v * 1117 + p * 29 + q * 53) (by omega) (by omega)]
      generalize hA : u * 131 + v * 1117 + p * 29 + q * 53 = A
      have hA0 : 0 ≤ A ∧ A ≤ 1000000000 := by omega
      have hd : 0 ≤ Int.tdiv A 64 ∧ Int.tdiv A 64 ≤ A := by
        rw [Int.tdiv_eq_ediv_of_nonneg hA0.1]
        omega
      rw [w_id (x := Int.tdiv A 64) (by omega) (by omega)]
      have hx := xor_nonneg A (Int.tdiv A 64) hA0.1 (by omega) hd.1 (by omega)
      obtain ⟨z0, z1⟩ := tmod_range _ n hx (by omega)
      exact ⟨rfl, z0, fun _ => z1⟩
theorem num_tot (b : List Int) (hb : Drawer b) (p : Int) (l : List Int) (hp : 0 ≤ p) (hp2 : p ≤ 1000000) (hl : 1 ≤ l.length) :
    Tot (fun k => spec_l40Rd_num.f k b p l) (fun r => r.2 = p + 1 ∧ r.1 ∈ l) := by
  unfold spec_l40Rd_num.f
  refine Tot.bind (pick_tot b hb p (l.length : Int) hp hp2) ?_
  rintro ⟨x, q⟩ ⟨h1, h2, h3⟩
  have h4 := h3 (by omega)
  refine Tot.pos h2 (Tot.pos h4 (Tot.val ⟨h1, ?_⟩))
  show rd l x ∈ l
  obtain ⟨m, rfl⟩ := Int.eq_ofNat_of_zero_le h2
  rw [rd_lt (by show m < _; simp only at h4; omega)]
  exact List.getElem_mem _
theorem open_tot (code : List Int) (hc : ∀ x ∈ code, (Lit.int .u8 x).wf = true) : ∃ b, spec_l40Open.f code = some (b, 0) ∧ Drawer b := by
  have byte : ∀ b : List Int, (∀ x ∈ b, x ∈ code) → ∀ j : Nat, j < b.length → 0 ≤ rd b (j : Int) ∧ rd b (j : Int) ≤ 255 := by
    intro b hs j hj
    rw [rd_lt hj]
    have := hc _ (hs _ (List.getElem_mem hj))
    simp [Lit.wf, IntKind.min, IntKind.max, IntKind.signed, IntKind.bits] at this
    omega
  unfold spec_l40Open.f
  by_cases c : (code.length : Int) > 2000
  · rw [if_pos c, if_pos (by omega)]
    refine ⟨_, rfl, by simp; omega, byte _ (fun x hx => List.mem_of_mem_take hx)⟩
  · rw [if_neg c]
    exact ⟨_, rfl, by omega, byte _ (fun x hx => hx)⟩
/-! #### small laws of numbers -/
theorem l1In_val (a b c : Int) : spec_l1In.f a b c = some (decide (b ≤ a ∧ a ≤ c)) := by
  unfold spec_l1In.f
  by_cases h : a ≥ b
  · rw [if_pos h]
    congr 1
    rw [decide_eq_decide]
    constructor
    · intro h2; exact ⟨h, h2⟩
    · intro h2; exact h2.2
  · rw [if_neg h]
    congr 1
    symm
    rw [decide_eq_false_iff_not]
    intro h2
    exact h h2.1
theorem in_val (a b c : Int) : impl_in.f a b c = some (decide (b ≤ a ∧ a ≤ c)) := by
  unfold impl_in.f
  by_cases h : a ≥ b
  · rw [if_pos h]
    congr 1
    rw [decide_eq_decide]
    constructor
    · intro h2; exact ⟨h, h2⟩
    · intro h2; exact h2.2
  · rw [if_neg h]
    congr 1
    symm
    rw [decide_eq_false_iff_not]
    intro h2
    exact h h2.1
theorem and_one (x : Int) (h0 : 0 ≤ x) (h1 : x < 9223372036854775808) : Go.bits .and .i64 x 1 = x % 2 := by
  have := bits_mask .i64 63 (by decide) (fun n a b => by rw [IntKind.wrap_i64]; omega) 1 (by decide) x h0 (by omega)
  simpa using this
def BitRow (vs : List Int) : Prop := ∀ x ∈ vs, x = 0 ∨ x = 1
theorem BitRow.take {vs : List Int} (h : BitRow vs) (n : Nat) : BitRow (vs.take n) := fun x hx => h x (List.mem_of_mem_take hx)
theorem BitRow.drop {vs : List Int} (h : BitRow vs) (n : Nat) : BitRow (vs.drop n) := fun x hx => h x (List.mem_of_mem_drop hx)
/-! #### circuits: which are valid, and what their nodes are -/
def GOk (inputs : Int) (i : Nat) (g : S92) : Prop := (0 ≤ g.f0 ∧ g.f0 ≤ 2 * (1 + inputs + i) - 1) ∧ (0 ≤ g.f1 ∧ g.f1 ≤ 2 * (1 + inputs + i) - 1)
structure CV (inputs : Int) (L : List S92) : Prop where
  i0 : 0 ≤ inputs
  i12 : inputs ≤ 12
  len : L.length ≤ 600
  ok : ∀ (i : Nat) (h : i < L.length), GOk inputs i L[i]
theorem rdG {L : List S92} {i : Nat} (h : i < L.length) : rd_T92 L (i : Int) = L[i] := by
  unfold rd_T92
  rw [Int.toNat_natCast, List.getD_eq_getElem?_getD, List.getElem?_eq_getElem h]
  rfl
theorem gate_split {inputs : Int} {L : List S92} {i : Nat} (hi : i < L.length) : (∀ q (h : q < L.length), i ≤ q → GOk inputs q L[q]) ↔ GOk inputs i L[i] ∧ ∀ q (h : q < L.length), i + 1 ≤ q → GOk inputs q L[q] := by
  constructor
  · intro h
    exact ⟨h i hi (Nat.le_refl _), fun q hq hq2 => h q hq (by omega)⟩
  · rintro ⟨ha, hb⟩ q hq hq2
    by_cases c : i = q
    · subst c
      exact ha
    · exact hb q hq (by omega)
theorem most_w {inputs : Int} (h0 : 0 ≤ inputs) (h1 : inputs ≤ 12) (i : Nat) (hi : i ≤ 600) : wrap64 (wrap64 (2 * wrap64 (wrap64 (1 + inputs) + (i : Int))) - 1) = 2 * (1 + inputs + i) - 1 := by
  rw [w_id (x := 1 + inputs) (by omega) (by omega), w_id (x := 1 + inputs + (i : Int)) (by omega) (by omega), w_id (x := 2 * (1 + inputs + (i : Int))) (by omega) (by omega), w_id (by omega) (by omega)]
theorem impl_cv_loop {inputs : Int} (h0 : 0 ≤ inputs) (h1 : inputs ≤ 12) (L : List S92) (hl : L.length ≤ 600) : ∀ (d i : Nat), i + d = L.length → ∃ b, Ev (fun k => impl_CircuitValid.l0 k L (L.length : Int) (i : Int) inputs L) b ∧ (b = true ↔ ∀ q (h : q < L.length), i ≤ q → GOk inputs q L[q]) := by
  intro d
  induction d with
  | zero =>
    intro i hi
    exact ⟨true, Ev.step (Ev.neg (by omega) (Ev.val _)) (fun k => impl_CircuitValid.l0.eq_2 ..), fun _ q h hq => absurd h (by omega), fun _ => rfl⟩
  | succ d ih =>
    intro i hi
    have hil : i < L.length := by omega
    obtain ⟨rest, er, hr⟩ := ih (i + 1) (by omega)
    rw [gate_split hil]
    unfold GOk at hr ⊢
    have st : ∀ b, Ev (fun k => (impl_in.f L[i].f0 0 (2 * (1 + inputs + (i : Int)) - 1)).bind fun t => if t = true then (impl_in.f L[i].f1 0 (2 * (1 + inputs + (i : Int)) - 1)).bind fun t => if t = true then impl_CircuitValid.l0 k L (L.length : Int) (wrap64 ((i : Int) + 1)) inputs L else some false else some false) b → Ev (fun k => impl_CircuitValid.l0 k L (L.length : Int) (i : Int) inputs L) b := fun b hb => by
      refine Ev.step (Ev.pos (by omega) (Ev.pos (by omega) (Ev.pos (by omega) ?_))) (fun k => impl_CircuitValid.l0.eq_2 ..)
      rw [rdG hil, most_w h0 h1 i (by omega)]
      exact hb
    by_cases c1 : 0 ≤ L[i].f0 ∧ L[i].f0 ≤ 2 * (1 + inputs + (i : Int)) - 1
    · by_cases c2 : 0 ≤ L[i].f1 ∧ L[i].f1 ≤ 2 * (1 + inputs + (i : Int)) - 1
      · refine ⟨rest, st _ ?_, ?_⟩
        · simp only [in_val, Option.bind_some, decide_eq_true_eq]
          refine Ev.pos c1 (Ev.pos c2 ?_)
          rw [wsucc i (by omega)]
          exact er
        · rw [hr]
          exact ⟨fun h => ⟨⟨c1, c2⟩, h⟩, fun h => h.2⟩
      · refine ⟨false, st _ ?_, fun h => (by cases h), fun h => absurd h.1.2 c2⟩
        simp only [in_val, Option.bind_some, decide_eq_true_eq]
        exact Ev.pos c1 (Ev.neg c2 (Ev.val _))
    · refine ⟨false, st _ ?_, fun h => (by cases h), fun h => absurd h.1.1 c1⟩
      simp only [in_val, Option.bind_some, decide_eq_true_eq]
      exact Ev.neg c1 (Ev.val _)
theorem impl_cv (inputs : Int) (L : List S92) : ∃ b, Ev (fun k => impl_CircuitValid.f k inputs L) b ∧ (b = true ↔ CV inputs L) := by
  unfold impl_CircuitValid.f
  simp only [in_val, Option.bind_some]
  have e0 : Ev (fun k => impl_CircuitValid.j0 k true inputs L) false := Ev.step (Ev.pos rfl (Ev.val _)) (fun k => impl_CircuitValid.j0.eq_2 ..)
  by_cases c1 : 0 ≤ inputs ∧ inputs ≤ 12
  · rw [decide_eq_true c1]
    by_cases c2 : (L.length : Int) > 600
    · rw [decide_eq_true c2]
      exact ⟨false, Ev.pos rfl e0, fun h => (by cases h), fun h => by have := h.len; omega⟩
    · rw [decide_eq_false c2]
      obtain ⟨b, hb, h2⟩ := impl_cv_loop c1.1 c1.2 L (by omega) L.length 0 (by omega)
      refine ⟨b, Ev.pos rfl (Ev.step (Ev.neg (by decide) hb) (fun k => impl_CircuitValid.j0.eq_2 ..)), ?_⟩
      rw [h2]
      exact ⟨fun h => ⟨c1.1, c1.2, by omega, fun i hi => h i hi (Nat.zero_le _)⟩, fun h q hq _ => h.ok q hq⟩
  · rw [decide_eq_false c1]
    exact ⟨false, Ev.neg (by decide) e0, fun h => (by cases h), fun h => absurd ⟨h.i0, h.i12⟩ c1⟩
theorem spec_cv_loop {inputs : Int} (h0 : 0 ≤ inputs) (h1 : inputs ≤ 12) (L : List S92) (hl : L.length ≤ 600) : ∀ (d i : Nat), i + d = L.length → ∃ b, Ev (fun k => spec_CircuitValid.l0 k (i : Int) inputs L) b ∧ (b = true ↔ ∀ q (h : q < L.length), i ≤ q → GOk inputs q L[q]) := by
  intro d
  induction d with
  | zero =>
    intro i hi
    exact ⟨true, Ev.step (Ev.neg (by omega) (Ev.val _)) (fun k => spec_CircuitValid.l0.eq_2 ..), fun _ q h hq => absurd h (by omega), fun _ => rfl⟩
  | succ d ih =>
    intro i hi
    have hil : i < L.length := by omega
    obtain ⟨rest, er, hr⟩ := ih (i + 1) (by omega)
    rw [gate_split hil]
    unfold GOk at hr ⊢
    have st : ∀ b, Ev (fun k => (spec_l1In.f L[i].f0 0 (2 * (1 + inputs + (i : Int)) - 1)).bind fun t => if t = true then (spec_l1In.f L[i].f1 0 (2 * (1 + inputs + (i : Int)) - 1)).bind fun t => if t = true then spec_CircuitValid.l0 k (wrap64 ((i : Int) + 1)) inputs L else some false else some false) b → Ev (fun k => spec_CircuitValid.l0 k (i : Int) inputs L) b := fun b hb => by
      refine Ev.step (Ev.pos (by omega) (Ev.pos (by omega) ?_)) (fun k => spec_CircuitValid.l0.eq_2 ..)
      rw [rdG hil, most_w h0 h1 i (by omega)]
      exact hb
    by_cases c1 : 0 ≤ L[i].f0 ∧ L[i].f0 ≤ 2 * (1 + inputs + (i : Int)) - 1
    · by_cases c2 : 0 ≤ L[i].f1 ∧ L[i].f1 ≤ 2 * (1 + inputs + (i : Int)) - 1
      · refine ⟨rest, st _ ?_, ?_⟩
        · simp only [l1In_val, Option.bind_some, decide_eq_true_eq]
          refine Ev.pos c1 (Ev.pos c2 ?_)
          rw [wsucc i (by omega)]
          exact er
        · rw [hr]
          exact ⟨fun h => ⟨⟨c1, c2⟩, h⟩, fun h => h.2⟩
      · refine ⟨false, st _ ?_, fun h => (by cases h), fun h => absurd h.1.2 c2⟩
        simp only [l1In_val, Option.bind_some, decide_eq_true_eq]
        exact Ev.pos c1 (Ev.neg c2 (Ev.val _))
    · refine ⟨false, st _ ?_, fun h => (by cases h), fun h => absurd h.1.1 c1⟩
      simp only [l1In_val, Option.bind_some, decide_eq_true_eq]
      exact Ev.neg c1 (Ev.val _)
theorem spec_cv (inputs : Int) (L : List S92) : ∃ b, Ev (fun k => spec_CircuitValid.f k inputs L) b ∧ (b = true ↔ CV inputs L) := by
  unfold spec_CircuitValid.f
  simp only [l1In_val, Option.bind_some]
  have e0 : Ev (fun k => spec_CircuitValid.j0 k true inputs L) false := Ev.step (Ev.pos rfl (Ev.val _)) (fun k => spec_CircuitValid.j0.eq_2 ..)
  by_cases c1 : 0 ≤ inputs ∧ inputs ≤ 12
  · rw [decide_eq_true c1]
    by_cases c2 : (L.length : Int) > 600
    · rw [decide_eq_true c2]
      exact ⟨false, Ev.pos rfl e0, fun h => (by cases h), fun h => by have := h.len; omega⟩
    · rw [decide_eq_false c2]
      obtain ⟨b, hb, h2⟩ := spec_cv_loop c1.1 c1.2 L (by omega) L.length 0 (by omega)
      refine ⟨b, Ev.pos rfl (Ev.step (Ev.neg (by decide) hb) (fun k => spec_CircuitValid.j0.eq_2 ..)), ?_⟩
      rw [h2]
      exact ⟨fun h => ⟨c1.1, c1.2, by omega, fun i hi => h i hi (Nat.zero_le _)⟩, fun h q hq _ => h.ok q hq⟩
  · rw [decide_eq_false c1]
    exact ⟨false, Ev.neg (by decide) e0, fun h => (by cases h), fun h => absurd ⟨h.i0, h.i12⟩ c1⟩
theorem impl_edge {inputs : Int} {L : List S92} (h : CV inputs L) (e : Int) : impl_Circuit_isEdge.f inputs L e = some (decide (0 ≤ e ∧ e ≤ 2 * (1 + inputs + (L.length : Int)) - 1)) := by
  unfold impl_Circuit_isEdge.f
  rw [most_w h.i0 h.i12 L.length h.len, in_val]
  rfl
theorem spec_edge {inputs : Int} {L : List S92} (h : CV inputs L) (e : Int) : spec_l7Edge.f inputs L e = some (decide (0 ≤ e ∧ e ≤ 2 * (1 + inputs + (L.length : Int)) - 1)) := by
  unfold spec_l7Edge.f spec_l7Nodes.f
  simp only [Option.bind_some]
  rw [most_w h.i0 h.i12 L.length h.len, l1In_val]
  rfl
/-- The value of an edge by the values of nodes. -/
def edv (vs : List Int) (e : Int) : Int := if e % 2 = 1 then 1 - rd vs (e / 2) else rd vs (e / 2)
/-- The values of the nodes behind some. -/
def nodesV : List S92 → List Int → List Int
  | [], vs => vs
  | g :: gs, vs => nodesV gs (vs ++ [edv vs g.f0 * edv vs g.f1])
theorem bits_rd {vs : List Int} (h : BitRow vs) {z : Int} (h0 : 0 ≤ z) (h1 : z < (vs.length : Int)) : rd vs z = 0 ∨ rd vs z = 1 := by
  obtain ⟨m, rfl⟩ := Int.eq_ofNat_of_zero_le h0
  have hm : m < vs.length := by omega
  rw [rd_lt hm]
  exact h _ (List.getElem_mem hm)
theorem edv_01 {vs : List Int} (h : BitRow vs) {e : Int} (h0 : 0 ≤ e) (h1 : e ≤ 2 * (vs.length : Int) - 1) : edv vs e = 0 ∨ edv vs e = 1 := by
  have := bits_rd h (z := e / 2) (by omega) (by omega)
  unfold edv
  split <;> omega
theorem BitRow.snoc {vs : List Int} (h : BitRow vs) {x : Int} (hx : x = 0 ∨ x = 1) : BitRow (vs ++ [x]) := fun y hy => by
  rcases List.mem_append.mp hy with h2 | h2
  · exact h y h2
  · rw [List.mem_singleton.mp h2]
    exact hx
theorem impl_edgeOf_val {vs : List Int} (h : BitRow vs) (hl : vs.length ≤ 1000000) {e : Int} (h0 : 0 ≤ e) (h1 : e ≤ 2 * (vs.length : Int) - 1) : impl_edgeOf.f vs e = some (edv vs e) := by
  have ht : Int.tdiv e 2 = e / 2 := Int.tdiv_eq_ediv_of_nonneg h0
  have hb := bits_rd h (z := e / 2) (by omega) (by omega)
  unfold impl_edgeOf.f edv
  rw [ht, w_id (by omega) (by omega), if_pos (by omega), if_pos (by omega), and_one e h0 (by omega)]
  congr 1
  generalize rd vs (e / 2) = x at hb ⊢
  have he : e % 2 = 0 ∨ e % 2 = 1 := by omega
  rcases he with he | he <;> rcases hb with rfl | rfl <;> rw [he] <;> decide +kernel
theorem bits_mul {a b : Int} (ha : a = 0 ∨ a = 1) (hb : b = 0 ∨ b = 1) : (a * b = 0 ∨ a * b = 1) ∧ Go.bits .and .i64 a b = a * b ∧ wrap64 (a * b) = a * b := by
  rcases ha with rfl | rfl <;> rcases hb with rfl | rfl <;> decide +kernel
theorem impl_values_loop {inputs : Int} (h0 : 0 ≤ inputs) (h1 : inputs ≤ 12) (L : List S92) (hl : L.length ≤ 600) (hok : ∀ (i : Nat) (h : i < L.length), GOk inputs i L[i]) : ∀ (d i : Nat) (vs : List Int), i + d = L.length → (vs.length : Int) = 1 + inputs + i → BitRow vs →
    Ev (fun k => impl_Circuit_values.l0 k vs L (L.length : Int) (i : Int)) (nodesV (L.drop i) vs) ∧ BitRow (nodesV (L.drop i) vs) ∧ ((nodesV (L.drop i) vs).length : Int) = 1 + inputs + L.length := by
  intro d
  induction d with
  | zero =>
    intro i vs hi hv hb
    have e : L.drop i = [] := List.drop_of_length_le (by omega)
    rw [e]
    exact ⟨Ev.step (Ev.neg (by omega) (Ev.val _)) (fun k => impl_Circuit_values.l0.eq_2 ..), hb, by show (vs.length : Int) = _; omega⟩
  | succ d ih =>
    intro i vs hi hv hb
    have hil : i < L.length := by omega
    obtain ⟨⟨g1, g2⟩, g3, g4⟩ := hok i hil
    have x1 := edv_01 hb (e := L[i].f0) g1 (by omega)
    have x2 := edv_01 hb (e := L[i].f1) g3 (by omega)
    obtain ⟨m1, m2, m3⟩ := bits_mul x1 x2
    obtain ⟨k1, k2, k3⟩ := ih (i + 1) (vs ++ [edv vs L[i].f0 * edv vs L[i].f1]) (by omega) (by simp; omega) (hb.snoc m1)
    have e : nodesV (L.drop i) vs = nodesV (L.drop (i + 1)) (vs ++ [edv vs L[i].f0 * edv vs L[i].f1]) := by
      rw [List.drop_eq_getElem_cons hil]
      rfl
    rw [e]
    refine ⟨Ev.step (Ev.pos (by omega) (Ev.pos (by omega) (Ev.pos (by omega) ?_))) (fun k => impl_Circuit_values.l0.eq_2 ..), k2, k3⟩
    rw [rdG hil, wsucc i (by omega)]
    refine Ev.bind (Ev.const (impl_edgeOf_val hb (by omega) g1 (by omega))) (Ev.bind (Ev.const (impl_edgeOf_val hb (by omega) g3 (by omega))) (Ev.pos (by omega) ?_))
    rw [m2]
    exact k1
/-- The values of all nodes. -/
def allNodes (L : List S92) (bits : List Int) : List Int := nodesV L ([0] ++ bits)
theorem impl_values_val {inputs : Int} {L : List S92} (h : CV inputs L) {bits : List Int} (hl : (bits.length : Int) = inputs) (hb : BitRow bits) : Ev (fun k => impl_Circuit_values.f k inputs L bits) (allNodes L bits) ∧ BitRow (allNodes L bits) ∧ ((allNodes L bits).length : Int) = 1 + inputs + L.length := by
  have hb0 : BitRow ([0] ++ bits) := fun x hx => by
    rcases List.mem_append.mp hx with h2 | h2
    · rw [List.mem_singleton.mp h2]
      exact .inl rfl
    · exact hb x h2
  have h12 := h.i12
  obtain ⟨k1, k2, k3⟩ := impl_values_loop h.i0 h.i12 L h.len h.ok L.length 0 ([0] ++ bits) (by omega) (by simp; omega) hb0
  refine ⟨?_, k2, k3⟩
  unfold impl_Circuit_values.f
  simp only [Option.bind_some]
  exact Ev.pos (by simp; omega) k1
/-- The value of an edge for a row of bits. -/
def edgeV (L : List S92) (e : Int) (bits : List Int) : Int := edv (allNodes L bits) e
/-! #### drawn circuits -/
theorem l7nodes_ev (a : Int) (L : List S92) : ∃ t, Ev (fun _ => spec_l7Nodes.f a L) t := ⟨_, Ev.val _⟩
theorem l7draw_loop (b : List Int) (hb : Drawer b) : ∀ (d : Nat) (inputs : Int) (L : List S92) (p : Int), 0 ≤ p → p + 2 * d ≤ 900000 → L.length + d ≤ 14 →
    Tot (fun k => spec_l7Draw.l0 k (d : Int) b p inputs L) (fun r => r.1 = inputs ∧ r.2.1.length ≤ 14 ∧ 0 ≤ r.2.2 ∧ r.2.2 ≤ p + 2 * d) := by
  intro d
  induction d with
  | zero =>
    intro inputs L p p0 p1 hl
    exact Tot.step (Tot.neg (by omega) (Tot.val ⟨rfl, by show L.length ≤ 14; omega, p0, by show p ≤ p + _; omega⟩)) (fun k => spec_l7Draw.l0.eq_2 ..)
  | succ d ih =>
    intro inputs L p p0 p1 hl
    obtain ⟨t, ht⟩ := l7nodes_ev inputs L
    refine Tot.step (Tot.pos (by omega) (Tot.bind (Tot.of ht (P := fun _ => True) trivial) ?_)) (fun k => spec_l7Draw.l0.eq_2 ..)
    intro t _
    refine Tot.bind (pick_tot b hb p _ p0 (by omega)) ?_
    rintro ⟨y, q⟩ ⟨e1, _⟩
    simp only at e1 ⊢
    subst e1
    refine Tot.bind (pick_tot b hb (p + 1) _ (by omega) (by omega)) ?_
    rintro ⟨z, q⟩ ⟨e1, _⟩
    simp only at e1 ⊢
    subst e1
    refine Tot.pos (by omega) ?_
    rw [w_id (x := ((d + 1 : Nat) : Int) - 1) (by omega) (by omega), show ((d + 1 : Nat) : Int) - 1 = (d : Int) by omega]
    refine (ih inputs _ (p + 1 + 1) (by omega) (by omega) (by simp; omega)).mono ?_
    rintro r ⟨r1, r2, r3, r4⟩
    exact ⟨r1, r2, r3, by omega⟩
theorem l7draw_tot (b : List Int) (hb : Drawer b) (p most : Int) (p0 : 0 ≤ p) (p1 : p ≤ 50000) (m0 : 0 ≤ most) (m1 : most ≤ 100) : Tot (fun k => spec_l7Draw.f k b p most) (fun r => (0 ≤ r.1 ∧ r.1 ≤ most) ∧ r.2.1.length ≤ 14 ∧ 0 ≤ r.2.2 ∧ r.2.2 ≤ p + 30) := by
  unfold spec_l7Draw.f
  rw [w_id (by omega) (by omega)]
  refine Tot.bind (pick_tot b hb p _ p0 (by omega)) ?_
  rintro ⟨y, q⟩ ⟨e1, y0, y1⟩
  simp only at e1 y0 y1 ⊢
  subst e1
  have y2 := y1 (by omega)
  refine Tot.bind (num_tot b hb (p + 1) _ (by omega) (by omega) (by simp)) ?_
  rintro ⟨d, q⟩ ⟨e1, hd⟩
  simp only at e1 hd ⊢
  subst e1
  have hd3 : 0 ≤ d ∧ d ≤ 14 := by simp at hd; omega
  obtain ⟨n, rfl⟩ := Int.eq_ofNat_of_zero_le hd3.1
  refine (l7draw_loop b hb n y [] (p + 1 + 1) (by omega) (by omega) (by simp; omega)).mono ?_
  rintro r ⟨r1, r2, r3, r4⟩
  exact ⟨by omega, r2, r3, by omega⟩
theorem l7any_tot (b : List Int) (hb : Drawer b) (p most : Int) (p0 : 0 ≤ p) (p1 : p ≤ 50000) (m0 : 0 ≤ most) (m1 : most ≤ 13) : Tot (fun k => spec_l7Any.f k b p most) (fun r => (-1 ≤ r.1 ∧ r.1 ≤ 13) ∧ r.2.1.length ≤ 14 ∧ 0 ≤ r.2.2 ∧ r.2.2 ≤ p + 40) := by
  unfold spec_l7Any.f
  refine Tot.bind (l7draw_tot b hb p most p0 p1 m0 (by omega)) ?_
  rintro ⟨i, L, q⟩ ⟨⟨i0, i1⟩, hl, q0, q1⟩
  simp only at i0 i1 hl q0 q1 ⊢
  refine Tot.bind (pick_tot b hb q 14 q0 (by omega)) ?_
  rintro ⟨y, q⟩ ⟨e1, _⟩
  simp only at e1 ⊢
  subst e1
  refine Tot.ite (fun _ => ?_) (fun _ => Tot.val ⟨⟨by show -1 ≤ i; omega, by show i ≤ 13; omega⟩, hl, by show 0 ≤ q + 1; omega, by show q + 1 ≤ p + 40; omega⟩)
  refine Tot.bind (pick_tot b hb (q + 1) 2 (by omega) (by omega)) ?_
  rintro ⟨y, q⟩ ⟨e1, _⟩
  simp only at e1 ⊢
  subst e1
  have yes : Tot (fun k => spec_l7Any.j0 k true b (q + 1 + 1) i L) (fun r => (-1 ≤ r.1 ∧ r.1 ≤ 13) ∧ r.2.1.length ≤ 14 ∧ 0 ≤ r.2.2 ∧ r.2.2 ≤ p + 40) := by
    refine Tot.step (Tot.pos rfl (Tot.bind (num_tot b hb (q + 1 + 1) _ (by omega) (by omega) (by simp)) ?_)) (fun k => spec_l7Any.j0.eq_2 ..)
    rintro ⟨z, q2⟩ ⟨e1, hz⟩
    simp only at e1 hz ⊢
    subst e1
    have hz3 : -1 ≤ z ∧ z ≤ 13 := by simp at hz; omega
    exact Tot.val ⟨hz3, hl, by show 0 ≤ q + 1 + 1 + 1; omega, by show q + 1 + 1 + 1 ≤ p + 40; omega⟩
  refine Tot.ite (fun _ => yes) (fun _ => ?_)
  cases hc : ((L.length : Int) == 0) with
  | true => exact yes
  | false =>
    have hne : ¬ (L.length : Int) = 0 := fun e => by rw [e] at hc; simp at hc
    refine Tot.step (Tot.neg (by decide) (Tot.bind (pick_tot b hb (q + 1 + 1) _ (by omega) (by omega)) ?_)) (fun k => spec_l7Any.j0.eq_2 ..)
    rintro ⟨z, q2⟩ ⟨e1, z0, z1⟩
    simp only at e1 z0 z1 ⊢
    subst e1
    have z2 := z1 (by omega)
    refine Tot.bind (num_tot b hb (q + 1 + 1 + 1) _ (by omega) (by omega) (by simp)) ?_
    rintro ⟨u, q2⟩ ⟨e1, _⟩
    simp only at e1 ⊢
    subst e1
    exact Tot.pos z0 (Tot.pos z2 (Tot.val ⟨⟨by show -1 ≤ i; omega, by show i ≤ 13; omega⟩, by show (L.set _ _).length ≤ 14; simpa using hl, by show 0 ≤ q + 1 + 1 + 1 + 1; omega, by show q + 1 + 1 + 1 + 1 ≤ p + 40; omega⟩))
theorem l7some_tot (b : List Int) (hb : Drawer b) (p : Int) (p0 : 0 ≤ p) (p1 : p ≤ 60000) (i : Int) (L : List S92) : Tot (fun k => spec_l7Some.f k b p i L) (fun r => 0 ≤ r.2 ∧ r.2 ≤ p + 3) := by
  unfold spec_l7Some.f
  obtain ⟨t, ht⟩ := l7nodes_ev i L
  refine Tot.bind (Tot.of ht (P := fun _ => True) trivial) ?_
  intro t _
  refine Tot.bind (pick_tot b hb p 15 p0 (by omega)) ?_
  rintro ⟨y, q⟩ ⟨e1, _⟩
  simp only at e1 ⊢
  subst e1
  refine Tot.ite (fun _ => ?_) (fun _ => ?_)
  · refine Tot.bind (num_tot b hb (p + 1) _ (by omega) (by omega) (by simp)) ?_
    rintro ⟨u, q⟩ ⟨e1, _⟩
    simp only at e1 ⊢
    subst e1
    exact Tot.val ⟨by show 0 ≤ p + 1 + 1; omega, by show p + 1 + 1 ≤ p + 3; omega⟩
  · refine Tot.bind (pick_tot b hb (p + 1) 2 (by omega) (by omega)) ?_
    rintro ⟨y, q⟩ ⟨e1, _⟩
    simp only at e1 ⊢
    subst e1
    refine Tot.ite (fun _ => ?_) (fun _ => ?_)
    all_goals
      refine Tot.bind (pick_tot b hb (p + 1 + 1) _ (by omega) (by omega)) ?_
      rintro ⟨u, q⟩ ⟨e1, _⟩
      simp only at e1 ⊢
      subst e1
      exact Tot.val ⟨by show 0 ≤ p + 1 + 1 + 1; omega, by show p + 1 + 1 + 1 ≤ p + 3; omega⟩
/-! #### gates that are added once: the reference and the program -/
theorem xor_val (m n : Nat) (hm : m < 2 ^ 62) (hn : n < 2 ^ 62) : Go.bits .xor .i64 (m : Int) (n : Int) = ((m ^^^ n : Nat) : Int) := by
  have hx := Nat.xor_lt_two_pow hm hn
  have e : (BitVec.ofInt 64 (m : Int) ^^^ BitVec.ofInt 64 (n : Int)).toNat = m ^^^ n := by
    rw [BitVec.ofInt_natCast, BitVec.ofInt_natCast, BitVec.toNat_xor, BitVec.toNat_ofNat, BitVec.toNat_ofNat, Nat.mod_eq_of_lt (by omega), Nat.mod_eq_of_lt (by omega)]
  have e2 : Go.bits .xor .i64 (m : Int) (n : Int) = IntKind.i64.wrap ((BitVec.ofInt 64 (m : Int) ^^^ BitVec.ofInt 64 (n : Int)).toNat : Int) := rfl
  rw [e2, e, IntKind.wrap_i64]
  omega
/-- The contrary of an edge. -/
def notE (x : Int) : Int := x + 1 - 2 * (x % 2)
theorem xor_one {x : Int} (h0 : 0 ≤ x) (h1 : x ≤ 1000000000) : Go.bits .xor .i64 x 1 = notE x := by
  obtain ⟨n, rfl⟩ := Int.eq_ofNat_of_zero_le h0
  have := xor_val n 1 (by omega) (by decide)
  rw [show ((1 : Nat) : Int) = 1 from rfl] at this
  rw [this]
  have a : (n ^^^ 1) / 2 = n / 2 := by rw [Nat.xor_div_two]; simp
  have b := @Nat.xor_mod_two_eq_one n 1
  unfold notE
  omega
theorem xor_zero {x : Int} (h0 : 0 ≤ x) (h1 : x ≤ 1000000000) : Go.bits .xor .i64 x 0 = x := by
  obtain ⟨n, rfl⟩ := Int.eq_ofNat_of_zero_le h0
  have := xor_val n 0 (by omega) (by decide)
  rw [Nat.xor_zero] at this
  exact this
def cfind (G : List S92) (x : S92) : Option Nat := G.findIdx? (fun y => decide (y = x))
theorem cfind_at {G : List S92} {x : S92} {i : Nat} (hi : i < G.length) (h : G[i] = x) (hn : ∀ q (hq : q < G.length), q < i → G[q] ≠ x) : cfind G x = some i := by
  unfold cfind
  rw [List.findIdx?_eq_some_iff_getElem]
  exact ⟨hi, decide_eq_true h, fun j hj => by simpa using hn j (by omega) hj⟩
theorem cfind_no {G : List S92} {x : S92} (hn : ∀ q (hq : q < G.length), G[q] ≠ x) : cfind G x = none := by
  unfold cfind
  rw [List.findIdx?_eq_none_iff]
  intro y hy
  obtain ⟨q, hq, rfl⟩ := List.mem_iff_getElem.1 hy
  simpa using hn q hq
theorem cfind_lt {G : List S92} {x : S92} {i : Nat} (h : cfind G x = some i) : i < G.length := by
  unfold cfind at h
  rw [List.findIdx?_eq_some_iff_getElem] at h
  exact h.1
theorem cfind_ne {G : List S92} {x : S92} (h : cfind G x = none) : ∀ q (hq : q < G.length), G[q] ≠ x := by
  unfold cfind at h
  rw [List.findIdx?_eq_none_iff] at h
  intro q hq
  simpa using h G[q] (List.getElem_mem hq)
theorem cfind_snoc (G : List S92) {x : S92} (hx : cfind G x = none) (y : S92) : cfind (G ++ [x]) y = if y = x then some G.length else cfind G y := by
  by_cases e : y = x
  · rw [if_pos e, e]
    refine cfind_at (by simp) (by simp) (fun q hq hl => ?_)
    rw [List.getElem_append_left (by omega)]
    exact cfind_ne hx q (by omega)
  · rw [if_neg e]
    cases h : cfind G y with
    | some i =>
      have hi := cfind_lt h
      have h2 := h
      unfold cfind at h2
      rw [List.findIdx?_eq_some_iff_getElem] at h2
      obtain ⟨_, g1, g2⟩ := h2
      refine cfind_at (by simp; omega) (by rw [List.getElem_append_left hi]; exact of_decide_eq_true g1) (fun q hq hl => ?_)
      rw [List.getElem_append_left (by omega)]
      simpa using g2 q hl
    | none =>
      refine cfind_no (fun q hq => ?_)
      by_cases c : q < G.length
      · rw [List.getElem_append_left c]
        exact cfind_ne h q c
      · have hl : q = G.length := by simp at hq; omega
        subst hl
        simp
        exact fun e2 => e e2.symm
/-- And of two edges, the lesser one first. -/
def caddO (inputs : Int) (G : List S92) (a b : Int) : List S92 × Int :=
  if a = 0 then (G, 0) else if a / 2 = b / 2 ∧ a ≠ b then (G, 0) else if a = 1 then (G, b) else if a = b then (G, b) else
  match cfind G ⟨a, b⟩ with
  | some i => (G, 2 * (1 + inputs + (i : Int)))
  | none => if 600 ≤ G.length then (G, -1) else (G ++ [⟨a, b⟩], 2 * (1 + inputs + (G.length : Int)))
def cadd (inputs : Int) (G : List S92) (x y : Int) : List S92 × Int := caddO inputs G (if y < x then y else x) (if x < y then y else x)
theorem find_loop {inputs : Int} (h0 : 0 ≤ inputs) (h12 : inputs ≤ 12) (G : List S92) (hl : G.length ≤ 600) (a b : Int) : ∀ (d i : Nat), i + d = G.length → (∀ q (hq : q < G.length), q < i → G[q] ≠ (⟨a, b⟩ : S92)) →
    Ev (fun k => spec_l7Find.l0 k a b (i : Int) inputs G) (match cfind G ⟨a, b⟩ with | some i => 1 + inputs + (i : Int) | none => -1) := by
  intro d
  induction d with
  | zero =>
    intro i hi hn
    rw [cfind_no (fun q hq => hn q hq (by omega))]
    exact Ev.step (Ev.neg (by omega) (Ev.val _)) (fun k => spec_l7Find.l0.eq_2 ..)
  | succ d ih =>
    intro i hi hn
    have hil : i < G.length := by omega
    refine Ev.step (Ev.pos (by omega) (Ev.pos (by omega) ?_)) (fun k => spec_l7Find.l0.eq_2 ..)
    rw [rdG hil, wsucc i (by omega)]
    by_cases c : G[i] = (⟨a, b⟩ : S92)
    · rw [cfind_at hil c hn, c]
      refine Ev.pos rfl (Ev.pos rfl (Ev.valEq ?_))
      simp only
      rw [w_id (x := 1 + inputs) (by omega) (by omega), w_id (by omega) (by omega)]
    · have nx := ih (i + 1) (by omega) (fun q hq hl => by
        by_cases e : q = i
        · subst e
          exact c
        · exact hn q hq (by omega))
      by_cases c1 : G[i].f0 = a
      · by_cases c2 : G[i].f1 = b
        · refine absurd ?_ c
          generalize G[i] = z at c1 c2
          obtain ⟨z0, z1⟩ := z
          simp only at c1 c2
          rw [c1, c2]
        · exact Ev.pos c1 (Ev.neg c2 nx)
      · exact Ev.neg c1 nx
theorem spec_caddO {inputs : Int} (h0 : 0 ≤ inputs) (h12 : inputs ≤ 12) (G : List S92) (hl : G.length ≤ 600) {a b : Int} (a0 : 0 ≤ a) (a1 : a ≤ 1000000) (b0 : 0 ≤ b) (b1 : b ≤ 1000000) :
    Ev (fun k => spec_l7And.j0 k a b inputs G) (inputs, (caddO inputs G a b).1, (caddO inputs G a b).2) := by
  have ta : wrap64 (Int.tdiv a 2) = a / 2 := by rw [Int.tdiv_eq_ediv_of_nonneg a0, w_id (by omega) (by omega)]
  have tb : wrap64 (Int.tdiv b 2) = b / 2 := by rw [Int.tdiv_eq_ediv_of_nonneg b0, w_id (by omega) (by omega)]
  have y1 : Ev (fun k => spec_l7And.j1 k a b true inputs G) (inputs, G, 0) := Ev.step (Ev.pos rfl (Ev.val _)) (fun k => spec_l7And.j1.eq_2 ..)
  have y2 : Ev (fun k => spec_l7And.j2 k a b true inputs G) (inputs, G, b) := Ev.step (Ev.pos rfl (Ev.val _)) (fun k => spec_l7And.j2.eq_2 ..)
  refine Ev.step ?_ (fun k => spec_l7And.j0.eq_2 ..)
  rw [ta, tb]
  unfold caddO
  by_cases c1 : a = 0
  · rw [if_pos c1]
    exact Ev.pos c1 y1
  rw [if_neg c1]
  refine Ev.neg c1 ?_
  have no : ∀ q : Bool, q = false → ¬ (a / 2 = b / 2 ∧ a ≠ b) → Ev (fun k => spec_l7And.j1 k a b q inputs G) (inputs, (if a / 2 = b / 2 ∧ a ≠ b then (G, 0) else if a = 1 then (G, b) else if a = b then (G, b) else match cfind G ⟨a, b⟩ with | some i => (G, 2 * (1 + inputs + (i : Int))) | none => if 600 ≤ G.length then (G, -1) else (G ++ [⟨a, b⟩], 2 * (1 + inputs + (G.length : Int)))).1, (if a / 2 = b / 2 ∧ a ≠ b then (G, 0) else if a = 1 then (G, b) else if a = b then (G, b) else match cfind G ⟨a, b⟩ with | some i => (G, 2 * (1 + inputs + (i : Int))) | none => if 600 ≤ G.length then (G, -1) else (G ++ [⟨a, b⟩], 2 * (1 + inputs + (G.length : Int)))).2) := by
    intro q hq c2
    rw [hq, if_neg c2]
    refine Ev.step (Ev.neg (by decide) ?_) (fun k => spec_l7And.j1.eq_2 ..)
    by_cases c3 : a = 1
    · rw [if_pos c3]
      exact Ev.pos c3 y2
    rw [if_neg c3]
    refine Ev.neg c3 ?_
    by_cases c4 : a = b
    · rw [if_pos c4, beq_iff_eq.mpr c4]
      exact y2
    rw [if_neg c4, beq_eq_false_iff_ne.mpr c4]
    refine Ev.step (Ev.neg (by decide) (Ev.bind (find_loop h0 h12 G hl a b G.length 0 (by omega) (fun q hq h => absurd h (by omega))) ?_)) (fun k => spec_l7And.j2.eq_2 ..)
    cases hf : cfind G ⟨a, b⟩ with
    | some i =>
      have hi := cfind_lt hf
      refine Ev.pos (by simp only; omega) (Ev.valEq ?_)
      simp only
      rw [w_id (by omega) (by omega)]
    | none =>
      refine Ev.neg (by simp only; omega) ?_
      by_cases c5 : 600 ≤ G.length
      · simp only [if_pos c5]
        exact Ev.pos (by omega) (Ev.val _)
      · simp only [if_neg c5]
        refine Ev.neg (by omega) (Ev.pos (by omega) (Ev.bind (Ev.val _) (Ev.bind (a := 1 + inputs + ((G.length : Int) + 1)) (Ev.const ?_) (Ev.valEq ?_))))
        · unfold spec_l7Nodes.f
          rw [w_id (x := 1 + inputs) (by omega) (by omega), List.length_append, List.length_singleton, w_id (by omega) (by omega)]
          congr 1
        · rw [w_id (x := 1 + inputs + ((G.length : Int) + 1) - 1) (by omega) (by omega), w_id (by omega) (by omega)]
          congr 2
          omega
  by_cases c2 : a / 2 = b / 2
  · refine Ev.pos c2 ?_
    by_cases c3 : a = b
    · exact no _ (bne_eq_false_iff_eq.mpr c3) (fun h => h.2 c3)
    · rw [bne_iff_ne.mpr c3, if_pos ⟨c2, c3⟩]
      exact y1
  · exact Ev.neg c2 (no false rfl (fun h => c2 h.1))
theorem spec_cadd {inputs : Int} (h0 : 0 ≤ inputs) (h12 : inputs ≤ 12) (G : List S92) (hl : G.length ≤ 600) {x y : Int} (a0 : 0 ≤ x) (a1 : x ≤ 1000000) (b0 : 0 ≤ y) (b1 : y ≤ 1000000) :
    Ev (fun k => spec_l7And.f k inputs G x y) (inputs, (cadd inputs G x y).1, (cadd inputs G x y).2) := by
  unfold spec_l7And.f cadd
  by_cases c : x > y
  · rw [if_pos (show y < x by omega), if_neg (show ¬ x < y by omega)]
    exact Ev.pos c (spec_caddO h0 h12 G hl b0 b1 a0 a1)
  · rw [if_neg (show ¬ y < x by omega)]
    by_cases c2 : x < y
    · rw [if_pos c2]
      exact Ev.neg c (spec_caddO h0 h12 G hl a0 a1 b0 b1)
    · have e : x = y := by omega
      subst e
      rw [if_neg c2]
      exact Ev.neg c (spec_caddO h0 h12 G hl a0 a1 a0 a1)
/-- The state of a circuit that grows. -/
structure CB (inputs : Int) (G : List S92) (s : BS) : Prop where
  ins : s.inputs = inputs
  gates : s.gates = G
  full : s.full = false
  seen : ∀ y, s.seen y = (cfind G y).map (fun (i : Nat) => 2 * (1 + inputs + (i : Int)))
theorem and_cadd {inputs : Int} (h0 : 0 ≤ inputs) (h12 : inputs ≤ 12) {G : List S92} (hl : G.length ≤ 600) {s : BS} (h : CB inputs G s) {x y : Int} (x0 : 0 ≤ x) (x1 : x ≤ 1000000) (y0 : 0 ≤ y) (y1 : y ≤ 1000000) :
    (0 ≤ (cadd inputs G x y).2 → ∃ s', impl_builder_and.f s x y = some (s', (cadd inputs G x y).2) ∧ CB inputs (cadd inputs G x y).1 s') ∧ ((cadd inputs G x y).2 < 0 → impl_builder_and.f s x y = some ({ s with full := true }, 0)) := by
  unfold cadd impl_builder_and.f
  obtain ⟨a, ha⟩ : ∃ a, (if y < x then y else x) = a := ⟨_, rfl⟩
  obtain ⟨b, hb⟩ : ∃ b, (if x < y then y else x) = b := ⟨_, rfl⟩
  rw [ha, hb]
  have a0 : 0 ≤ a ∧ a ≤ 1000000 := by rw [← ha]; split <;> omega
  have b0 : 0 ≤ b ∧ b ≤ 1000000 := by rw [← hb]; split <;> omega
  rw [xor_one a0.1 (by omega)]
  unfold caddO
  by_cases c1 : a = 0
  · rw [if_pos c1, if_pos c1]
    exact ⟨fun _ => ⟨s, rfl, h⟩, fun h => absurd (show (0 : Int) < 0 from h) (by decide)⟩
  rw [if_neg c1, if_neg c1]
  by_cases c2 : a / 2 = b / 2 ∧ a ≠ b
  · rw [if_pos c2, if_pos (show notE a = b by unfold notE; omega)]
    exact ⟨fun _ => ⟨s, rfl, h⟩, fun h => absurd (show (0 : Int) < 0 from h) (by decide)⟩
  rw [if_neg c2, if_neg (show ¬ notE a = b by unfold notE; omega)]
  by_cases c3 : a = 1
  · rw [if_pos c3, if_pos c3]
    exact ⟨fun _ => ⟨s, rfl, h⟩, fun h => absurd h (by simp only; omega)⟩
  rw [if_neg c3, if_neg c3]
  by_cases c4 : a = b
  · rw [if_pos c4, if_pos c4]
    exact ⟨fun _ => ⟨s, rfl, h⟩, fun h => absurd h (by simp only; omega)⟩
  rw [if_neg c4, if_neg c4]
  unfold impl_builder_and.put
  rw [if_pos (show okA ⟨a, b⟩ from ⟨⟨a0.1, by show a ≤ 9223372036854775807; omega⟩, ⟨b0.1, by show b ≤ 9223372036854775807; omega⟩⟩), h.seen]
  cases hf : cfind G ⟨a, b⟩ with
  | some i =>
    simp only [Option.map_some]
    exact ⟨fun _ => ⟨s, rfl, h⟩, fun h => absurd h (by omega)⟩
  | none =>
    simp only [Option.map_none]
    rw [h.gates]
    by_cases c5 : 600 ≤ G.length
    · simp only [if_pos c5]
      rw [if_pos (by omega)]
      exact ⟨fun h => absurd h (by decide), fun _ => by first | rfl | rw [← h.gates]⟩
    · simp only [if_neg c5]
      rw [if_neg (by omega)]
      have e : wrap64 (2 * (wrap64 (s.inputs + ((G.length : Int) + 1)))) = 2 * (1 + inputs + (G.length : Int)) := by
        rw [h.ins, w_id (x := inputs + ((G.length : Int) + 1)) (by omega) (by omega), w_id (by omega) (by omega)]
        omega
      rw [e]
      refine ⟨fun _ => ⟨_, rfl, h.ins, rfl, h.full, fun y => ?_⟩, fun h => absurd h (by omega)⟩
      rw [cfind_snoc G hf y]
      simp only
      by_cases ey : y = ⟨a, b⟩
      · rw [if_pos ey, if_pos ey]
        rfl
      · rw [if_neg ey, if_neg ey]
        exact h.seen y
/-- Which edges there are behind. -/
theorem cadd_bound {inputs : Int} (h0 : 0 ≤ inputs) {G : List S92} (hl : G.length < 600) {x y : Int} (x0 : 0 ≤ x) (x1 : x < 2 * (1 + inputs + (G.length : Int))) (y0 : 0 ≤ y) (y1 : y < 2 * (1 + inputs + (G.length : Int))) :
    0 ≤ (cadd inputs G x y).2 ∧ (cadd inputs G x y).2 < 2 * (1 + inputs + ((cadd inputs G x y).1.length : Int)) ∧ G.length ≤ (cadd inputs G x y).1.length ∧ (cadd inputs G x y).1.length ≤ G.length + 1 := by
  unfold cadd
  obtain ⟨a, ha⟩ : ∃ a, (if y < x then y else x) = a := ⟨_, rfl⟩
  obtain ⟨b, hb⟩ : ∃ b, (if x < y then y else x) = b := ⟨_, rfl⟩
  rw [ha, hb]
  have b0 : 0 ≤ b ∧ b < 2 * (1 + inputs + (G.length : Int)) := by rw [← hb]; split <;> omega
  unfold caddO
  by_cases c1 : a = 0
  · rw [if_pos c1]
    exact ⟨Int.le_refl _, by simp only; omega, Nat.le_refl _, by simp⟩
  rw [if_neg c1]
  by_cases c2 : a / 2 = b / 2 ∧ a ≠ b
  · rw [if_pos c2]
    exact ⟨Int.le_refl _, by simp only; omega, Nat.le_refl _, by simp⟩
  rw [if_neg c2]
  by_cases c3 : a = 1
  · rw [if_pos c3]
    exact ⟨b0.1, b0.2, Nat.le_refl _, by simp⟩
  rw [if_neg c3]
  by_cases c4 : a = b
  · rw [if_pos c4]
    exact ⟨b0.1, b0.2, Nat.le_refl _, by simp⟩
  rw [if_neg c4]
  cases hf : cfind G ⟨a, b⟩ with
  | some i =>
    have := cfind_lt hf
    exact ⟨by simp only; omega, by simp only; omega, Nat.le_refl _, by simp⟩
  | none =>
    simp only [if_neg (show ¬ 600 ≤ G.length by omega), List.length_append, List.length_singleton]
    exact ⟨by omega, by omega, by omega, by omega⟩
/-! #### an input as a constant: the reference and the program -/
def edg (E : List Int) (e : Int) : Int := if e % 2 = 1 then notE (rd E (e / 2)) else rd E (e / 2)
def fxL (inputs : Int) : List S92 → List S92 → List Int → List S92 × List Int
  | [], G, E => (G, E)
  | g :: gs, G, E => fxL inputs gs (cadd inputs G (edg E g.f0) (edg E g.f1)).1 (E ++ [(cadd inputs G (edg E g.f0) (edg E g.f1)).2])
/-- Each edge is one of the circuit. -/
def FB (inputs : Int) (G : List S92) (E : List Int) : Prop := ∀ z : Int, 0 ≤ z → z < (E.length : Int) → 0 ≤ rd E z ∧ rd E z < 2 * (1 + inputs + (G.length : Int))
theorem sgn_bound {inputs : Int} {G : List S92} {E : List Int} (h : FB inputs G E) {e : Int} (e0 : 0 ≤ e) (e1 : e < 2 * (E.length : Int)) : 0 ≤ edg E e ∧ edg E e < 2 * (1 + inputs + (G.length : Int)) := by
  have := h (e / 2) (by omega) (by omega)
  unfold edg notE
  split <;> omega
theorem rd_snoc {E : List Int} {v z : Int} (h0 : 0 ≤ z) (h : z < ((E ++ [v]).length : Int)) : (z < (E.length : Int) ∧ rd (E ++ [v]) z = rd E z) ∨ (z = (E.length : Int) ∧ rd (E ++ [v]) z = v) := by
  obtain ⟨n, rfl⟩ := Int.eq_ofNat_of_zero_le h0
  simp only [List.length_append, List.length_singleton] at h
  by_cases c : n < E.length
  · exact .inl ⟨by omega, rd_app_lt c⟩
  · have e : n = E.length := by omega
    subst e
    exact .inr ⟨rfl, rd_app_eq⟩
theorem fb_step {inputs : Int} (h0 : 0 ≤ inputs) {G : List S92} {E : List Int} (h : FB inputs G E) (hl : G.length < 600) {e f : Int} (e0 : 0 ≤ e) (e1 : e < 2 * (E.length : Int)) (f0 : 0 ≤ f) (f1 : f < 2 * (E.length : Int)) :
    0 ≤ (cadd inputs G (edg E e) (edg E f)).2 ∧ (cadd inputs G (edg E e) (edg E f)).1.length ≤ G.length + 1 ∧ FB inputs (cadd inputs G (edg E e) (edg E f)).1 (E ++ [(cadd inputs G (edg E e) (edg E f)).2]) := by
  obtain ⟨a0, a1⟩ := sgn_bound h e0 e1
  obtain ⟨b0, b1⟩ := sgn_bound h f0 f1
  obtain ⟨c1, c2, c3, c4⟩ := cadd_bound h0 hl a0 a1 b0 b1
  refine ⟨c1, c4, fun z z0 z1 => ?_⟩
  rcases rd_snoc z0 z1 with ⟨h2, e⟩ | ⟨_, e⟩
  · rw [e]
    have := h z z0 h2
    omega
  · rw [e]
    exact ⟨c1, c2⟩
theorem half_w {e : Int} (h0 : 0 ≤ e) (h1 : e ≤ 1000000) : wrap64 (Int.tdiv e 2) = e / 2 := by rw [Int.tdiv_eq_ediv_of_nonneg h0, w_id (by omega) (by omega)]
theorem not_val {x : Int} (h0 : 0 ≤ x) (h1 : x ≤ 1000000) : spec_l7Not.f x = some (notE x) := by
  unfold spec_l7Not.f notE
  rw [if_neg (by omega), half_w h0 h1, Int.tmod_eq_emod_of_nonneg h0, w_id (x := x / 2 * 2) (by omega) (by omega), w_id (x := x / 2 * 2 + 1) (by omega) (by omega), w_id (by omega) (by omega)]
  congr 1
  omega
theorem at_val {E : List Int} {e : Int} (h0 : 0 ≤ e) (h1 : e ≤ 1000000) (b : 0 ≤ rd E (e / 2) ∧ rd E (e / 2) ≤ 1000000) : impl_Fixed.at_ E e = edg E e := by
  unfold impl_Fixed.at_ edg
  rw [half_w h0 h1, and_one e h0 (by omega)]
  by_cases c : e % 2 = 1
  · rw [if_pos c, c, xor_one b.1 (by omega)]
  · rw [if_neg c, show e % 2 = 0 by omega, xor_zero b.1 (by omega)]
theorem fx_len (inputs : Int) : ∀ (L : List S92) (G : List S92) (E : List Int), (fxL inputs L G E).2.length = E.length + L.length := by
  intro L
  induction L with
  | nil => intro G E; rfl
  | cons g gs ih =>
    intro G E
    unfold fxL
    rw [ih, List.length_append, List.length_singleton, List.length_cons]
    omega
/-- Both go through the gates side by side. -/
theorem fx_both {inputs : Int} {L : List S92} (hc : CV inputs L) {edge : Int} (he : 0 ≤ edge ∧ edge ≤ 2 * (1 + inputs + (L.length : Int)) - 1) : ∀ (d i : Nat) (G : List S92) (E : List Int) (s : BS), i + d = L.length → G.length ≤ i → (E.length : Int) = 1 + inputs + i → FB inputs G E → CB inputs G s →
    Ev (fun k => spec_Fixed.l1 k edge E (i : Int) inputs L inputs G) (inputs, (fxL inputs (L.drop i) G E).1, edg (fxL inputs (L.drop i) G E).2 edge) ∧
    (∃ s', impl_Fixed.lp (L.drop i) s E = some (s', (fxL inputs (L.drop i) G E).2) ∧ CB inputs (fxL inputs (L.drop i) G E).1 s') ∧ FB inputs (fxL inputs (L.drop i) G E).1 (fxL inputs (L.drop i) G E).2 ∧ (fxL inputs (L.drop i) G E).1.length ≤ L.length := by
  have h0 := hc.i0
  have h12 := hc.i12
  have hl := hc.len
  intro d
  induction d with
  | zero =>
    intro i G E s hi hg hE hb hs
    rw [List.drop_of_length_le (by omega)]
    refine ⟨?_, ⟨s, rfl, hs⟩, hb, by show G.length ≤ L.length; omega⟩
    have hr := hb (edge / 2) (by omega) (by omega)
    refine Ev.step (Ev.neg (by omega) ?_) (fun k => spec_Fixed.l1.eq_2 ..)
    rw [half_w he.1 (by omega), Int.tmod_eq_emod_of_nonneg he.1]
    refine Ev.pos (by omega) (Ev.pos (by omega) ?_)
    show Ev _ (inputs, G, edg E edge)
    by_cases c : edge % 2 = 1
    · have e : edg E edge = notE (rd E (edge / 2)) := by unfold edg; rw [if_pos c]
      rw [e]
      exact Ev.pos c (Ev.bind (Ev.const (not_val hr.1 (by omega))) (Ev.val _))
    · have e : edg E edge = rd E (edge / 2) := by unfold edg; rw [if_neg c]
      rw [e]
      exact Ev.neg c (Ev.val _)
  | succ d ih =>
    intro i G E s hi hg hE hb hs
    have hil : i < L.length := by omega
    obtain ⟨⟨g1, g2⟩, g3, g4⟩ := hc.ok i hil
    have e1 : L[i].f0 < 2 * (E.length : Int) := by omega
    have f1 : L[i].f1 < 2 * (E.length : Int) := by omega
    obtain ⟨p1, p2, p3⟩ := fb_step h0 hb (by omega) g1 e1 g3 f1
    obtain ⟨a0, a1⟩ := sgn_bound hb g1 e1
    obtain ⟨b0, b1⟩ := sgn_bound hb g3 f1
    have ra := hb (L[i].f0 / 2) (by omega) (by omega)
    have rb := hb (L[i].f1 / 2) (by omega) (by omega)
    obtain ⟨s', s1, s2⟩ := (and_cadd h0 h12 (by omega) hs (x := edg E L[i].f0) (y := edg E L[i].f1) a0 (by omega) b0 (by omega)).1 p1
    have nx := ih (i + 1) _ _ s' (by omega) (by omega) (by simp; omega) p3 s2
    rw [List.drop_eq_getElem_cons hil]
    obtain ⟨n1, ⟨s3, n2, n3⟩, n4, n5⟩ := nx
    refine ⟨?_, ⟨s3, ?_, n3⟩, n4, n5⟩
    · have sa := spec_cadd h0 h12 G (by omega) a0 (show edg E L[i].f0 ≤ 1000000 by omega) b0 (show edg E L[i].f1 ≤ 1000000 by omega)
      have j3 : ∀ v, v = edg E L[i].f0 → Ev (fun k => spec_Fixed.j3 k edge E (i : Int) v inputs L inputs G) (inputs, (fxL inputs (L[i] :: L.drop (i + 1)) G E).1, edg (fxL inputs (L[i] :: L.drop (i + 1)) G E).2 edge) := by
        intro v hv
        subst hv
        refine Ev.step ?_ (fun k => spec_Fixed.j3.eq_2 ..)
        rw [rdG hil, half_w g3 (by omega), Int.tmod_eq_emod_of_nonneg g3, wsucc i (by omega)]
        refine Ev.pos (by omega) (Ev.pos (by omega) (Ev.pos (by omega) (Ev.pos (by omega) ?_)))
        by_cases c : L[i].f1 % 2 = 1
        · have e : notE (rd E (L[i].f1 / 2)) = edg E L[i].f1 := by unfold edg; rw [if_pos c]
          refine Ev.pos c (Ev.bind (Ev.const (not_val rb.1 (by omega))) ?_)
          rw [e]
          exact Ev.bind sa (Ev.pos (by omega) n1)
        · have e : rd E (L[i].f1 / 2) = edg E L[i].f1 := by unfold edg; rw [if_neg c]
          rw [e]
          exact Ev.neg c (Ev.bind sa (Ev.pos (by omega) n1))
      refine Ev.step ?_ (fun k => spec_Fixed.l1.eq_2 ..)
      rw [rdG hil, half_w g1 (by omega), Int.tmod_eq_emod_of_nonneg g1]
      refine Ev.pos (by omega) (Ev.pos (by omega) (Ev.pos (by omega) (Ev.pos (by omega) ?_)))
      by_cases c : L[i].f0 % 2 = 1
      · exact Ev.pos c (Ev.bind (Ev.const (not_val ra.1 (by omega))) (j3 _ (by unfold edg; rw [if_pos c])))
      · exact Ev.neg c (j3 _ (by unfold edg; rw [if_neg c]))
    · unfold impl_Fixed.lp
      have i0 : impl_Fixed.in_ E L[i].f0 := by
        unfold impl_Fixed.in_
        rw [half_w g1 (by omega)]
        omega
      have i1 : impl_Fixed.in_ E L[i].f1 := by
        unfold impl_Fixed.in_
        rw [half_w g3 (by omega)]
        omega
      rw [if_pos ⟨i0, i1, by omega⟩, at_val g1 (by omega) ⟨ra.1, by omega⟩, at_val g3 (by omega) ⟨rb.1, by omega⟩, s1]
      exact n2
/-- The edges of the nodes that are inputs. -/
def e0L (m : Nat) (input value : Int) : List Int := (List.range (m + 1)).map (fun j => if ((j : Nat) : Int) = input + 1 then value else 2 * ((j : Nat) : Int))
theorem e0_len (m : Nat) (input value : Int) : (e0L m input value).length = m + 1 := by simp [e0L]
theorem e0_get {m : Nat} {input value : Int} {j : Nat} (h : j < m + 1) : rd (e0L m input value) (j : Int) = if (j : Int) = input + 1 then value else 2 * (j : Int) := by
  rw [rd_lt (by rw [e0_len]; exact h)]
  simp [e0L]
theorem to0_len (n : Nat) : (impl_Fixed.to0 n).length = n := by simp [impl_Fixed.to0]
theorem e0_impl {m : Nat} (hm : m ≤ 12) {input value : Int} (i0 : 0 ≤ input) (i1 : input ≤ (m : Int) - 1) : (impl_Fixed.to0 (m + 1)).set (wrap64 (input + 1)).toNat value = e0L m input value := by
  rw [w_id (by omega) (by omega)]
  refine list_eq_rd (by rw [List.length_set, to0_len, e0_len]) (fun j hj => ?_)
  rw [List.length_set, to0_len] at hj
  rw [e0_get hj]
  by_cases e : (j : Int) = input + 1
  · rw [if_pos e, show (input + 1).toNat = j by omega, rd_set_eq (by rw [to0_len]; exact hj)]
  · rw [if_neg e, rd_set_ne (by omega), rd_lt (by rw [to0_len]; exact hj)]
    simp only [impl_Fixed.to0, List.getElem_map, List.getElem_range]
    rw [w_id (by omega) (by omega)]
theorem e0_spec {m : Nat} (hm : m ≤ 12) {L : List S92} {edge input value : Int} (i0 : 0 ≤ input) (r : Int × List S92 × Int) (rest : Ev (fun k => spec_Fixed.l1 k edge (e0L m input value) 0 (m : Int) L (m : Int) []) r) : ∀ (d i : Nat), i + d = m →
    Ev (fun k => spec_Fixed.l0 k edge input value ((e0L m input value).take (i + 1)) (i : Int) (m : Int) L (m : Int)) r := by
  intro d
  induction d with
  | zero =>
    intro i hi
    rw [List.take_of_length_le (by rw [e0_len]; omega)]
    exact Ev.step (Ev.neg (by omega) rest) (fun k => spec_Fixed.l0.eq_2 ..)
  | succ d ih =>
    intro i hi
    have nx := ih (i + 1) (by omega)
    have hg := e0_get (m := m) (input := input) (value := value) (j := i + 1) (by omega)
    rw [rd_lt (by rw [e0_len]; omega)] at hg
    have et : (e0L m input value).take (i + 1 + 1) = (e0L m input value).take (i + 1) ++ [if ((i + 1 : Nat) : Int) = input + 1 then value else 2 * ((i + 1 : Nat) : Int)] := by
      rw [List.take_add_one, List.getElem?_eq_getElem (by rw [e0_len]; omega), hg]
      rfl
    rw [et] at nx
    have tl : ((e0L m input value).take (i + 1)).length ≤ 14 := by rw [List.length_take, e0_len]; omega
    refine Ev.step (Ev.pos (by omega) ?_) (fun k => spec_Fixed.l0.eq_2 ..)
    rw [wsucc i (by omega)]
    by_cases c : (i : Int) = input
    · rw [if_pos (by omega)] at nx
      exact Ev.pos c (Ev.pos (by omega) nx)
    · rw [if_neg (by omega)] at nx
      have e : wrap64 (2 * (wrap64 (1 + (i : Int)))) = 2 * ((i + 1 : Nat) : Int) := by rw [w_id (x := 1 + (i : Int)) (by omega) (by omega), w_id (by omega) (by omega)]; omega
      rw [e]
      exact Ev.neg c (Ev.pos (by omega) nx)
def FixAsk (inputs : Int) (L : List S92) (edge input value : Int) : Prop := CV inputs L ∧ (0 ≤ edge ∧ edge ≤ 2 * (1 + inputs + (L.length : Int)) - 1) ∧ (0 ≤ input ∧ input ≤ inputs - 1) ∧ (0 ≤ value ∧ value ≤ 1)
def fixed (inputs : Int) (L : List S92) (input value : Int) : List S92 × List Int := fxL inputs L [] (e0L inputs.toNat input value)
def FixIs (inputs : Int) (L : List S92) (edge input value : Int) (r : Int × List S92 × Int) : Prop :=
  (FixAsk inputs L edge input value → r = (inputs, (fixed inputs L input value).1, edg (fixed inputs L input value).2 edge)) ∧ (¬ FixAsk inputs L edge input value → r = (0, [], -1))
theorem cb_nil (inputs : Int) : CB inputs [] ⟨inputs, [], fun _ => none, false⟩ := ⟨rfl, rfl, rfl, fun _ => rfl⟩
theorem fb_e0 {inputs : Int} {m : Nat} (hm : (m : Int) = inputs) {input value : Int} (v0 : 0 ≤ value) (v1 : value ≤ 1) : FB inputs [] (e0L m input value) := fun z z0 z1 => by
  obtain ⟨j, rfl⟩ := Int.eq_ofNat_of_zero_le z0
  rw [e0_len] at z1
  rw [e0_get (by omega)]
  simp only [List.length_nil]
  split <;> omega
theorem fix_run {inputs : Int} {L : List S92} {edge input value : Int} (h : FixAsk inputs L edge input value) :
    Ev (fun k => spec_Fixed.l0 k edge input value [0] 0 inputs L inputs) (inputs, (fixed inputs L input value).1, edg (fixed inputs L input value).2 edge) ∧
    (∃ s', impl_Fixed.lp L ⟨inputs, [], fun _ => none, false⟩ (e0L inputs.toNat input value) = some (s', (fixed inputs L input value).2) ∧ CB inputs (fixed inputs L input value).1 s') ∧ FB inputs (fixed inputs L input value).1 (fixed inputs L input value).2 ∧ (fixed inputs L input value).1.length ≤ L.length := by
  obtain ⟨hc, he, hi, hv⟩ := h
  have h12 := hc.i12
  obtain ⟨m, rfl⟩ := Int.eq_ofNat_of_zero_le hc.i0
  obtain ⟨k1, k2, k3, k4⟩ := fx_both hc he L.length 0 [] (e0L m input value) _ (by omega) (Nat.zero_le _) (by rw [e0_len]; omega) (fb_e0 rfl hv.1 hv.2) (cb_nil (m : Int))
  rw [List.drop_zero] at k1 k2 k3 k4
  unfold fixed
  rw [Int.toNat_natCast]
  refine ⟨?_, k2, k3, k4⟩
  have := e0_spec (m := m) (by omega) hi.1 _ k1 m 0 (by omega)
  have e : (e0L m input value).take (0 + 1) = [0] := by
    have := e0_get (m := m) (input := input) (value := value) (j := 0) (by omega)
    rw [rd_lt (by rw [e0_len]; omega), if_neg (by omega)] at this
    rw [List.take_add_one, List.take_zero, List.getElem?_eq_getElem (by rw [e0_len]; omega), this]
    rfl
  rw [e] at this
  exact this
theorem fixIs_ex (inputs : Int) (L : List S92) (edge input value : Int) : ∃ r, FixIs inputs L edge input value r ∧ r.2.1.length ≤ 600 := by
  by_cases c : FixAsk inputs L edge input value
  · refine ⟨_, ⟨fun _ => rfl, fun h => absurd c h⟩, ?_⟩
    have := (fix_run c).2.2.2
    have := c.1.len
    show (fixed inputs L input value).1.length ≤ 600
    omega
  · exact ⟨(0, [], -1), ⟨fun h => absurd h c, fun _ => rfl⟩, Nat.zero_le _⟩
theorem spec_fix {inputs edge input value : Int} {L : List S92} {r : Int × List S92 × Int} (h : FixIs inputs L edge input value r) : Ev (fun k => spec_Fixed.f k inputs L edge input value) r := by
  obtain ⟨hy, hn⟩ := h
  unfold spec_Fixed.f
  have e0 : Ev (fun k => spec_Fixed.j0 k edge input value true inputs L) (0, [], -1) := Ev.step (Ev.pos rfl (Ev.val _)) (fun k => spec_Fixed.j0.eq_2 ..)
  obtain ⟨q, hb, h1⟩ := spec_cv inputs L
  cases q with
  | false =>
    rw [hn (fun h => by have := h1.2 h.1; cases this)]
    exact Ev.bind hb (Ev.neg (by decide) e0)
  | true =>
    have hd := h1.1 rfl
    refine Ev.bind hb (Ev.pos rfl (Ev.bind (Ev.const (spec_edge hd edge)) ?_))
    have w1 : wrap64 (inputs - 1) = inputs - 1 := by have := hd.i0; have := hd.i12; exact w_id (by omega) (by omega)
    by_cases c : 0 ≤ edge ∧ edge ≤ 2 * (1 + inputs + (L.length : Int)) - 1
    · rw [decide_eq_true c]
      refine Ev.pos rfl (Ev.bind (Ev.const (l1In_val _ _ _)) ?_)
      rw [w1]
      by_cases c2 : 0 ≤ input ∧ input ≤ inputs - 1
      · rw [decide_eq_true c2]
        refine Ev.pos rfl (Ev.bind (Ev.const (l1In_val _ _ _)) ?_)
        by_cases c3 : 0 ≤ value ∧ value ≤ 1
        · rw [decide_eq_true c3, hy ⟨hd, c, c2, c3⟩]
          exact Ev.step (Ev.neg (by decide) (fix_run ⟨hd, c, c2, c3⟩).1) (fun k => spec_Fixed.j0.eq_2 ..)
        · rw [decide_eq_false c3, hn (fun h => c3 h.2.2.2)]
          exact e0
      · rw [decide_eq_false c2, hn (fun h => c2 h.2.2.1)]
        exact Ev.neg (by decide) e0
    · rw [decide_eq_false c, hn (fun h => c h.2.1)]
      exact Ev.neg (by decide) e0
theorem fix_v {inputs edge input value : Int} {L : List S92} {r : Int × List S92 × Int} (h : FixIs inputs L edge input value r) : Ev (fun k => impl_Fixed.f k inputs L edge input value) r := by
  obtain ⟨hy, hn⟩ := h
  unfold impl_Fixed.f
  obtain ⟨q, hb, h1⟩ := impl_cv inputs L
  cases q with
  | false =>
    rw [hn (fun h => by have := h1.2 h.1; cases this)]
    exact Ev.bind hb (Ev.pos rfl (Ev.val _))
  | true =>
    have hd := h1.1 rfl
    have i0 := hd.i0
    have i12 := hd.i12
    have hl := hd.len
    refine Ev.bind hb (Ev.neg (by decide) (Ev.bind (Ev.const (impl_edge hd edge)) ?_))
    have w1 : wrap64 (inputs - 1) = inputs - 1 := w_id (by omega) (by omega)
    by_cases c : 0 ≤ edge ∧ edge ≤ 2 * (1 + inputs + (L.length : Int)) - 1
    · rw [decide_eq_true c]
      refine Ev.neg (by decide) (Ev.bind (Ev.const (in_val _ _ _)) ?_)
      rw [w1]
      by_cases c2 : 0 ≤ input ∧ input ≤ inputs - 1
      · rw [decide_eq_true c2]
        refine Ev.neg (by decide) (Ev.bind (Ev.const (in_val _ _ _)) ?_)
        by_cases c3 : 0 ≤ value ∧ value ≤ 1
        · rw [decide_eq_true c3, hy ⟨hd, c, c2, c3⟩]
          obtain ⟨_, ⟨s', s1, s2⟩, s3, s4⟩ := fix_run ⟨hd, c, c2, c3⟩
          have w2 : wrap64 (input + 1) = input + 1 := w_id (by omega) (by omega)
          have e1 := e0_impl (m := inputs.toNat) (by omega) (value := value) c2.1 (show input ≤ (inputs.toNat : Int) - 1 by omega)
          have bo : impl_building.f inputs [] = some ⟨inputs, [], fun _ => none, false⟩ := by
            unfold impl_building.f impl_And_108.f
            simp [impl_building.seen]
          have fl : ((fixed inputs L input value).2.length : Int) = 1 + inputs + (L.length : Int) := by
            unfold fixed
            rw [fx_len, e0_len]
            omega
          have hr := s3 (edge / 2) (by omega) (by omega)
          have ie : impl_Fixed.in_ (fixed inputs L input value).2 edge := by
            unfold impl_Fixed.in_
            rw [half_w c.1 (by omega)]
            omega
          refine Ev.neg (by decide) (Ev.pos ⟨⟨i0, by omega⟩, by rw [w2]; omega, by rw [w2]; omega⟩ (Ev.bind (Ev.const bo) (Ev.bind (a := (s', (fixed inputs L input value).2)) (Ev.const (by rw [e1]; exact s1)) (Ev.pos ie (Ev.const ?_)))))
          show impl_builder_done.f s' (impl_Fixed.at_ (fixed inputs L input value).2 edge) = _
          rw [at_val c.1 (by omega) ⟨hr.1, by omega⟩]
          unfold impl_builder_done.f impl_And_109.f
          rw [if_neg (by rw [s2.full]; decide), s2.gates, if_pos (by omega), s2.ins]
          rfl
        · rw [decide_eq_false c3, hn (fun h => c3 h.2.2.2)]
          exact Ev.pos rfl (Ev.val _)
      · rw [decide_eq_false c2, hn (fun h => c2 h.2.2.1)]
        exact Ev.pos rfl (Ev.val _)
    · rw [decide_eq_false c, hn (fun h => c h.2.1)]
      exact Ev.pos rfl (Ev.val _)
/-! #### what a gate that is added once means -/
theorem edv_not (vs : List Int) (e : Int) : edv vs (notE e) = 1 - edv vs e := by
  unfold notE edv
  have h1 : (e + 1 - 2 * (e % 2)) / 2 = e / 2 := by omega
  have h2 : (e + 1 - 2 * (e % 2)) % 2 = 1 - e % 2 := by omega
  rw [h1, h2]
  by_cases c : e % 2 = 1
  · rw [if_pos c, if_neg (by omega)]
    omega
  · rw [if_neg c, if_pos (by omega)]
theorem nodes_len : ∀ (G : List S92) (vs : List Int), (nodesV G vs).length = vs.length + G.length := by
  intro G
  induction G with
  | nil => intro vs; rfl
  | cons g gs ih =>
    intro vs
    unfold nodesV
    rw [ih, List.length_append, List.length_singleton, List.length_cons]
    omega
theorem nodes_pre : ∀ (G : List S92) (vs : List Int) (z : Int), 0 ≤ z → z < (vs.length : Int) → rd (nodesV G vs) z = rd vs z := by
  intro G
  induction G with
  | nil => intro vs z _ _; rfl
  | cons g gs ih =>
    intro vs z z0 z1
    unfold nodesV
    rw [ih _ z z0 (by simp; omega)]
    obtain ⟨n, rfl⟩ := Int.eq_ofNat_of_zero_le z0
    exact rd_app_lt (by omega)
theorem edv_pre (G : List S92) (vs : List Int) {e : Int} (e0 : 0 ≤ e) (e1 : e < 2 * (vs.length : Int)) : edv (nodesV G vs) e = edv vs e := by
  unfold edv
  rw [nodes_pre G vs (e / 2) (by omega) (by omega)]
theorem nodes_app : ∀ (G H : List S92) (vs : List Int), nodesV (G ++ H) vs = nodesV H (nodesV G vs) := by
  intro G
  induction G with
  | nil => intro H vs; rfl
  | cons g gs ih =>
    intro H vs
    show nodesV (gs ++ H) _ = nodesV H (nodesV gs _)
    exact ih H _
theorem node_at {G : List S92} {vs : List Int} {i : Nat} (hi : i < G.length) (a0 : 0 ≤ G[i].f0) (a1 : G[i].f0 < 2 * ((vs.length : Int) + i)) (b0 : 0 ≤ G[i].f1) (b1 : G[i].f1 < 2 * ((vs.length : Int) + i)) :
    rd (nodesV G vs) ((vs.length : Int) + i) = edv (nodesV G vs) G[i].f0 * edv (nodesV G vs) G[i].f1 := by
  have sp : G = G.take i ++ G[i] :: G.drop (i + 1) := by rw [List.getElem_cons_drop, List.take_append_drop]
  obtain ⟨V, hV⟩ : ∃ V, V = nodesV (G.take i) vs := ⟨_, rfl⟩
  have hl : V.length = vs.length + i := by rw [hV, nodes_len, List.length_take]; omega
  have e : nodesV G vs = nodesV (G.drop (i + 1)) (V ++ [edv V G[i].f0 * edv V G[i].f1]) := by
    rw [hV]
    conv => lhs; rw [sp, nodes_app]
    rfl
  have one : ∀ f : Int, 0 ≤ f → f < 2 * (V.length : Int) → edv (V ++ [edv V G[i].f0 * edv V G[i].f1]) f = edv V f := fun f f0 f1 => by
    obtain ⟨n, hn⟩ := Int.eq_ofNat_of_zero_le (show 0 ≤ f / 2 by omega)
    unfold edv
    rw [hn, rd_app_lt (by omega)]
  rw [e, edv_pre _ _ a0 (by simp; omega), edv_pre _ _ b0 (by simp; omega), one _ a0 (by omega), one _ b0 (by omega), nodes_pre _ _ _ (by omega) (by simp; omega), show (vs.length : Int) + i = (V.length : Int) by omega]
  exact rd_app_eq
theorem all_bits {inputs : Int} {G : List S92} (h : CV inputs G) {bits : List Int} (hl : (bits.length : Int) = inputs) (hb : BitRow bits) : BitRow (allNodes G bits) := (impl_values_val h hl hb).2.1
theorem all_len (G : List S92) (bits : List Int) : (allNodes G bits).length = 1 + bits.length + G.length := by
  unfold allNodes
  rw [nodes_len]
  simp
  omega
theorem node0 (G : List S92) (bits : List Int) : rd (allNodes G bits) 0 = 0 := by
  unfold allNodes
  rw [nodes_pre _ _ _ (by decide) (by rw [List.length_append, List.length_singleton]; omega)]
  rfl
theorem cv_snoc {inputs : Int} {G : List S92} (h : CV inputs G) (hl : G.length < 600) {a b : Int} (a0 : 0 ≤ a) (a1 : a < 2 * (1 + inputs + (G.length : Int))) (b0 : 0 ≤ b) (b1 : b < 2 * (1 + inputs + (G.length : Int))) : CV inputs (G ++ [⟨a, b⟩]) := by
  refine ⟨h.i0, h.i12, by simp; omega, fun i hi => ?_⟩
  by_cases c : i < G.length
  · rw [List.getElem_append_left c]
    exact h.ok i c
  · have e : i = G.length := by simp at hi; omega
    subst e
    simp only [List.getElem_concat_length]
    exact ⟨⟨a0, by show a ≤ _; omega⟩, ⟨b0, by show b ≤ _; omega⟩⟩
theorem mul_bits {p q : Int} (hp : p = 0 ∨ p = 1) (hq : q = 0 ∨ q = 1) : p * q = q * p ∧ p * p = p := by
  rcases hp with rfl | rfl <;> rcases hq with rfl | rfl <;> decide
/-- The value of an added gate. -/
theorem cadd_sem {inputs : Int} {G : List S92} (h : CV inputs G) (hl : G.length < 600) {bits : List Int} (hbl : (bits.length : Int) = inputs) (hb : BitRow bits) {x y : Int} (x0 : 0 ≤ x) (x1 : x < 2 * (1 + inputs + (G.length : Int))) (y0 : 0 ≤ y) (y1 : y < 2 * (1 + inputs + (G.length : Int))) :
    CV inputs (cadd inputs G x y).1 ∧ G <+: (cadd inputs G x y).1 ∧ edv (allNodes (cadd inputs G x y).1 bits) (cadd inputs G x y).2 = edv (allNodes G bits) x * edv (allNodes G bits) y := by
  have vb := all_bits h hbl hb
  have vl := all_len G bits
  have bit : ∀ e : Int, 0 ≤ e → e < 2 * (1 + inputs + (G.length : Int)) → edv (allNodes G bits) e = 0 ∨ edv (allNodes G bits) e = 1 := fun e e0 e1 => edv_01 vb e0 (by rw [vl]; omega)
  obtain ⟨a, ha⟩ : ∃ a, (if y < x then y else x) = a := ⟨_, rfl⟩
  obtain ⟨b, hb2⟩ : ∃ b, (if x < y then y else x) = b := ⟨_, rfl⟩
  have hx := bit x x0 x1
  have hy := bit y y0 y1
  have prod : edv (allNodes G bits) x * edv (allNodes G bits) y = edv (allNodes G bits) a * edv (allNodes G bits) b := by
    rw [← ha, ← hb2]
    by_cases c : y < x
    · rw [if_pos c, if_neg (by omega)]
      exact (mul_bits hx hy).1
    · rw [if_neg c]
      by_cases c2 : x < y
      · rw [if_pos c2]
      · have e : x = y := by omega
        rw [if_neg c2, e]
  have a0 : 0 ≤ a ∧ a < 2 * (1 + inputs + (G.length : Int)) := by rw [← ha]; split <;> omega
  have b0 : 0 ≤ b ∧ b < 2 * (1 + inputs + (G.length : Int)) := by rw [← hb2]; split <;> omega
  have bitA := bit a a0.1 a0.2
  have bitB := bit b b0.1 b0.2
  rw [prod]
  unfold cadd
  rw [ha, hb2]
  unfold caddO
  have e0 : edv (allNodes G bits) 0 = 0 := by
    unfold edv
    rw [if_neg (by decide)]
    exact node0 G bits
  by_cases c1 : a = 0
  · rw [if_pos c1]
    refine ⟨h, List.prefix_refl _, ?_⟩
    show edv (allNodes G bits) 0 = _
    rw [c1, e0, Int.zero_mul]
  rw [if_neg c1]
  by_cases c2 : a / 2 = b / 2 ∧ a ≠ b
  · rw [if_pos c2]
    refine ⟨h, List.prefix_refl _, ?_⟩
    show edv (allNodes G bits) 0 = _
    have e : b = notE a := by unfold notE; omega
    rw [e0, e, edv_not]
    rcases bitA with q | q <;> rw [q] <;> decide
  rw [if_neg c2]
  by_cases c3 : a = 1
  · rw [if_pos c3]
    refine ⟨h, List.prefix_refl _, ?_⟩
    show edv (allNodes G bits) b = _
    have e1 : edv (allNodes G bits) 1 = 1 := by
      have := edv_not (allNodes G bits) 0
      rw [e0] at this
      exact this
    rw [c3, e1, Int.one_mul]
  rw [if_neg c3]
  by_cases c4 : a = b
  · rw [if_pos c4]
    refine ⟨h, List.prefix_refl _, ?_⟩
    show edv (allNodes G bits) b = _
    rw [c4]
    exact (mul_bits bitB bitB).2.symm
  rw [if_neg c4]
  have val : ∀ (H : List S92) (i : Nat), CV inputs H → ∀ hi : i < H.length, H[i] = (⟨a, b⟩ : S92) → edv (allNodes H bits) (2 * (1 + inputs + (i : Int))) = edv (allNodes H bits) a * edv (allNodes H bits) b := by
    intro H i hH hi hg
    obtain ⟨⟨g1, g2⟩, g3, g4⟩ := hH.ok i hi
    have vl0 : (([0] ++ bits).length : Int) = 1 + inputs := by simp; omega
    have n := node_at (G := H) (vs := [0] ++ bits) hi g1 (by rw [vl0]; omega) g3 (by rw [vl0]; omega)
    rw [vl0, hg] at n
    show edv (nodesV H ([0] ++ bits)) _ = _
    have : edv (nodesV H ([0] ++ bits)) (2 * (1 + inputs + (i : Int))) = rd (nodesV H ([0] ++ bits)) (1 + inputs + (i : Int)) := by
      unfold edv
      rw [if_neg (by omega), show 2 * (1 + inputs + (i : Int)) / 2 = 1 + inputs + (i : Int) by omega]
    rw [this]
    exact n
  cases hf : cfind G ⟨a, b⟩ with
  | some i =>
    have hi := cfind_lt hf
    have hg : G[i] = (⟨a, b⟩ : S92) := by
      have h2 := hf
      unfold cfind at h2
      rw [List.findIdx?_eq_some_iff_getElem] at h2
      exact of_decide_eq_true h2.2.1
    exact ⟨h, List.prefix_refl _, val G i h hi hg⟩
  | none =>
    simp only [if_neg (show ¬ 600 ≤ G.length by omega)]
    have hc := cv_snoc h hl a0.1 a0.2 b0.1 b0.2
    refine ⟨hc, List.prefix_append _ _, ?_⟩
    rw [val _ G.length hc (by simp) (by simp)]
    have ex : ∀ e : Int, 0 ≤ e → e < 2 * (1 + inputs + (G.length : Int)) → edv (allNodes (G ++ [⟨a, b⟩]) bits) e = edv (allNodes G bits) e := fun e e0 e1 => by
      unfold allNodes
      rw [nodes_app]
      exact edv_pre _ _ e0 (by rw [nodes_len]; simp; omega)
    rw [ex a a0.1 a0.2, ex b b0.1 b0.2]
/-- The values of a beginning stay. -/
theorem edv_ext {inputs : Int} {G H : List S92} (he : G <+: H) {bits : List Int} (hbl : (bits.length : Int) = inputs) {e : Int} (e0 : 0 ≤ e) (e1 : e < 2 * (1 + inputs + (G.length : Int))) : edv (allNodes H bits) e = edv (allNodes G bits) e := by
  obtain ⟨t, rfl⟩ := he
  unfold allNodes
  rw [nodes_app]
  exact edv_pre _ _ e0 (by rw [nodes_len]; simp; omega)
/-! #### what the circuit means in which an input is a constant -/
/-- Each node of the elder circuit, the input being the constant, has its edge's value. -/
def Sem (L : List S92) (bits2 : List Int) (G : List S92) (bits E : List Int) : Prop := ∀ z : Int, 0 ≤ z → z < (E.length : Int) → rd (allNodes L bits2) z = edv (allNodes G bits) (rd E z)
theorem sem_sgn {L G : List S92} {bits2 bits E : List Int} (h : Sem L bits2 G bits E) {e : Int} (e0 : 0 ≤ e) (e1 : e < 2 * (E.length : Int)) : edv (allNodes L bits2) e = edv (allNodes G bits) (edg E e) := by
  have := h (e / 2) (by omega) (by omega)
  unfold edg
  by_cases c : e % 2 = 1
  · rw [if_pos c, edv_not, ← this]
    unfold edv
    rw [if_pos c]
  · rw [if_neg c, ← this]
    unfold edv
    rw [if_neg c]
theorem fx_sem {inputs : Int} {L : List S92} (hc : CV inputs L) {bits bits2 : List Int} (hbl : (bits.length : Int) = inputs) (hb : BitRow bits) (hbl2 : (bits2.length : Int) = inputs) (hb2 : BitRow bits2) : ∀ (d i : Nat) (G : List S92) (E : List Int), i + d = L.length → G.length ≤ i → (E.length : Int) = 1 + inputs + i → FB inputs G E → CV inputs G → Sem (L.take i) bits2 G bits E →
    CV inputs (fxL inputs (L.drop i) G E).1 ∧ Sem L bits2 (fxL inputs (L.drop i) G E).1 bits (fxL inputs (L.drop i) G E).2 := by
  have h0 := hc.i0
  have h12 := hc.i12
  have hl := hc.len
  intro d
  induction d with
  | zero =>
    intro i G E hi hg hE hf hG hs
    rw [List.take_of_length_le (by omega)] at hs
    rw [List.drop_of_length_le (by omega)]
    exact ⟨hG, hs⟩
  | succ d ih =>
    intro i G E hi hg hE hf hG hs
    have hil : i < L.length := by omega
    obtain ⟨⟨g1, g2⟩, g3, g4⟩ := hc.ok i hil
    have e1 : L[i].f0 < 2 * (E.length : Int) := by omega
    have f1 : L[i].f1 < 2 * (E.length : Int) := by omega
    obtain ⟨p1, p2, p3⟩ := fb_step h0 hf (by omega) g1 e1 g3 f1
    obtain ⟨a0, a1⟩ := sgn_bound hf g1 e1
    obtain ⟨b0, b1⟩ := sgn_bound hf g3 f1
    obtain ⟨q1, q2, q3⟩ := cadd_sem hG (by omega) hbl hb a0 a1 b0 b1
    rw [List.drop_eq_getElem_cons hil]
    refine ih (i + 1) _ _ (by omega) (by omega) (by simp; omega) p3 q1 (fun z z0 z1 => ?_)
    have ts : L.take (i + 1) = L.take i ++ [L[i]] := by
      rw [List.take_add_one, List.getElem?_eq_getElem hil]
      rfl
    have an : allNodes (L.take (i + 1)) bits2 = allNodes (L.take i) bits2 ++ [edv (allNodes (L.take i) bits2) L[i].f0 * edv (allNodes (L.take i) bits2) L[i].f1] := by
      rw [ts]
      unfold allNodes
      rw [nodes_app]
      rfl
    have al : ((allNodes (L.take i) bits2).length : Int) = (E.length : Int) := by rw [all_len, List.length_take]; omega
    rw [an]
    rcases rd_snoc z0 z1 with ⟨z2, e⟩ | ⟨z2, e⟩
    · rw [e]
      obtain ⟨n, rfl⟩ := Int.eq_ofNat_of_zero_le z0
      rw [rd_app_lt (by omega), hs _ z0 z2]
      have := hf _ z0 z2
      exact (edv_ext q2 hbl this.1 this.2).symm
    · rw [e, z2, ← al, rd_app_eq, q3, sem_sgn hs g1 e1, sem_sgn hs g3 f1]
theorem cv_nil {inputs : Int} (h0 : 0 ≤ inputs) (h12 : inputs ≤ 12) : CV inputs [] := ⟨h0, h12, Nat.zero_le _, fun i hi => absurd hi (Nat.not_lt_zero _)⟩
/-- The circuit in which an input is a constant has the elder one's values. -/
theorem fixed_sem {inputs : Int} {L : List S92} {edge input value : Int} (h : FixAsk inputs L edge input value) {bits : List Int} (hbl : (bits.length : Int) = inputs) (hb : BitRow bits) :
    CV inputs (fixed inputs L input value).1 ∧ edgeV (fixed inputs L input value).1 (edg (fixed inputs L input value).2 edge) bits = edgeV L edge (bits.set input.toNat value) := by
  obtain ⟨hc, he, hi, hv⟩ := h
  have h12 := hc.i12
  obtain ⟨m, rfl⟩ := Int.eq_ofNat_of_zero_le hc.i0
  have hb2 : BitRow (bits.set input.toNat value) := fun x hx => by
    rcases List.mem_or_eq_of_mem_set hx with h | h
    · exact hb x h
    · rw [h]
      omega
  have s0 : Sem (L.take 0) (bits.set input.toNat value) [] bits (e0L m input value) := fun z z0 z1 => by
    obtain ⟨j, rfl⟩ := Int.eq_ofNat_of_zero_le z0
    rw [e0_len] at z1
    rw [List.take_zero, e0_get (by omega)]
    show rd ([0] ++ bits.set input.toNat value) (j : Int) = edv ([0] ++ bits) _
    cases j with
    | zero =>
      rw [if_neg (by omega)]
      rfl
    | succ j =>
      have hj : j < bits.length := by omega
      have r1 : ∀ xs : List Int, rd ([0] ++ xs) ((j + 1 : Nat) : Int) = rd xs (j : Int) := fun xs => by
        rw [rd_nat, rd_nat]
        rfl
      rw [r1]
      by_cases c : ((j + 1 : Nat) : Int) = input + 1
      · rw [if_pos c, show input.toNat = j by omega, rd_set_eq hj]
        rcases (show value = 0 ∨ value = 1 by omega) with q | q
        · rw [q]
          rfl
        · rw [q]
          rfl
      · rw [if_neg c, rd_set_ne (by omega)]
        unfold edv
        rw [if_neg (by omega), show 2 * ((j + 1 : Nat) : Int) / 2 = ((j + 1 : Nat) : Int) by omega, r1]
  obtain ⟨k1, k2⟩ := fx_sem hc hbl hb (bits2 := bits.set input.toNat value) (by rw [List.length_set]; exact hbl) hb2 L.length 0 [] (e0L m input value) (by omega) (Nat.zero_le _) (by rw [e0_len]; omega) (fb_e0 rfl hv.1 hv.2) (cv_nil hc.i0 h12) s0
  rw [List.drop_zero] at k1 k2
  unfold fixed
  rw [Int.toNat_natCast]
  refine ⟨k1, ?_⟩
  unfold edgeV
  exact (sem_sgn k2 he.1 (by rw [fx_len, e0_len]; omega)).symm
/-- No edge is the input's. -/
def NoIn (input : Int) (G : List S92) (E : List Int) : Prop := (∀ z : Int, 0 ≤ z → z < (E.length : Int) → rd E z / 2 ≠ input + 1) ∧ ∀ g ∈ G, g.f0 / 2 ≠ input + 1 ∧ g.f1 / 2 ≠ input + 1
theorem noin_sgn {input : Int} {G : List S92} {E : List Int} (h : NoIn input G E) {e : Int} (e0 : 0 ≤ e) (e1 : e < 2 * (E.length : Int)) : edg E e / 2 ≠ input + 1 := by
  have := h.1 (e / 2) (by omega) (by omega)
  unfold edg notE
  split <;> omega
theorem noin_cadd {inputs input : Int} (i0 : 0 ≤ input) (i1 : input ≤ inputs - 1) {G : List S92} (hl : G.length < 600) (hG : ∀ g ∈ G, g.f0 / 2 ≠ input + 1 ∧ g.f1 / 2 ≠ input + 1) {x y : Int} (hx : x / 2 ≠ input + 1) (hy : y / 2 ≠ input + 1) :
    (cadd inputs G x y).2 / 2 ≠ input + 1 ∧ ∀ g ∈ (cadd inputs G x y).1, g.f0 / 2 ≠ input + 1 ∧ g.f1 / 2 ≠ input + 1 := by
  unfold cadd
  obtain ⟨a, ha⟩ : ∃ a, (if y < x then y else x) = a := ⟨_, rfl⟩
  obtain ⟨b, hb⟩ : ∃ b, (if x < y then y else x) = b := ⟨_, rfl⟩
  have a0 : a / 2 ≠ input + 1 := by rw [← ha]; split <;> assumption
  have b0 : b / 2 ≠ input + 1 := by rw [← hb]; split <;> assumption
  rw [ha, hb]
  unfold caddO
  by_cases c1 : a = 0
  · rw [if_pos c1]
    exact ⟨by show (0 : Int) / 2 ≠ _; omega, hG⟩
  rw [if_neg c1]
  by_cases c2 : a / 2 = b / 2 ∧ a ≠ b
  · rw [if_pos c2]
    exact ⟨by show (0 : Int) / 2 ≠ _; omega, hG⟩
  rw [if_neg c2]
  by_cases c3 : a = 1
  · rw [if_pos c3]
    exact ⟨b0, hG⟩
  rw [if_neg c3]
  by_cases c4 : a = b
  · rw [if_pos c4]
    exact ⟨b0, hG⟩
  rw [if_neg c4]
  cases hf : cfind G ⟨a, b⟩ with
  | some i => exact ⟨by simp only; omega, hG⟩
  | none =>
    simp only [if_neg (show ¬ 600 ≤ G.length by omega)]
    refine ⟨by omega, fun g hg => ?_⟩
    rcases List.mem_append.mp hg with h | h
    · exact hG g h
    · rw [List.mem_singleton.mp h]
      exact ⟨a0, b0⟩
theorem fx_noin {inputs input : Int} (i0 : 0 ≤ input) (i1 : input ≤ inputs - 1) {L : List S92} (hc : CV inputs L) : ∀ (d i : Nat) (G : List S92) (E : List Int), i + d = L.length → G.length ≤ i → (E.length : Int) = 1 + inputs + i → FB inputs G E → NoIn input G E → NoIn input (fxL inputs (L.drop i) G E).1 (fxL inputs (L.drop i) G E).2 := by
  have h0 := hc.i0
  have hl := hc.len
  intro d
  induction d with
  | zero =>
    intro i G E hi hg hE hf hn
    rw [List.drop_of_length_le (by omega)]
    exact hn
  | succ d ih =>
    intro i G E hi hg hE hf hn
    have hil : i < L.length := by omega
    obtain ⟨⟨g1, g2⟩, g3, g4⟩ := hc.ok i hil
    have e1 : L[i].f0 < 2 * (E.length : Int) := by omega
    have f1 : L[i].f1 < 2 * (E.length : Int) := by omega
    obtain ⟨p1, p2, p3⟩ := fb_step h0 hf (by omega) g1 e1 g3 f1
    obtain ⟨q1, q2⟩ := noin_cadd i0 i1 (show G.length < 600 by omega) hn.2 (noin_sgn hn g1 e1) (noin_sgn hn g3 f1)
    rw [List.drop_eq_getElem_cons hil]
    refine ih (i + 1) _ _ (by omega) (by omega) (by simp; omega) p3 ⟨fun z z0 z1 => ?_, q2⟩
    rcases rd_snoc z0 z1 with ⟨z2, e⟩ | ⟨_, e⟩
    · rw [e]
      exact hn.1 z z0 z2
    · rw [e]
      exact q1
theorem fixed_noin {inputs : Int} {L : List S92} {edge input value : Int} (h : FixAsk inputs L edge input value) : edg (fixed inputs L input value).2 edge / 2 ≠ input + 1 ∧ ∀ g ∈ (fixed inputs L input value).1, g.f0 / 2 ≠ input + 1 ∧ g.f1 / 2 ≠ input + 1 := by
  obtain ⟨hc, he, hi, hv⟩ := h
  have h12 := hc.i12
  obtain ⟨m, rfl⟩ := Int.eq_ofNat_of_zero_le hc.i0
  have k := fx_noin hi.1 hi.2 hc L.length 0 [] (e0L m input value) (by omega) (Nat.zero_le _) (by rw [e0_len]; omega) (fb_e0 rfl hv.1 hv.2) ⟨fun z z0 z1 => by
    obtain ⟨j, rfl⟩ := Int.eq_ofNat_of_zero_le z0
    rw [e0_len] at z1
    rw [e0_get (by omega)]
    split <;> omega, fun g hg => by simp at hg⟩
  rw [List.drop_zero] at k
  unfold fixed
  rw [Int.toNat_natCast]
  exact ⟨noin_sgn k he.1 (by rw [fx_len, e0_len]; omega), k.2⟩
/-! #### the inputs to which one comes -/
theorem rdOf_nat2 (l : List Bool) (i : Nat) : rdOf false l (i : Int) = l.getD i false := by
  unfold rdOf
  rw [Int.toNat_natCast]
theorem rdOf_set_ne {l : List Bool} {i j : Int} (h0 : 0 ≤ i) (h1 : 0 ≤ j) (h : i ≠ j) : rdOf false (l.set i.toNat true) j = rdOf false l j := by
  unfold rdOf
  rw [List.getD_eq_getElem?_getD, List.getD_eq_getElem?_getD, List.getElem?_set_ne (by omega)]
theorem cneeds_loop {inputs : Int} {G : List S92} (h : CV inputs G) {q : Int} (hq : 0 ≤ q) (hG : ∀ g ∈ G, g.f0 / 2 ≠ q ∧ g.f1 / 2 ≠ q) : ∀ (d : Nat) (X : List Bool), d ≤ G.length → (X.length : Int) = 1 + inputs + G.length → rdOf false X q = false →
    ∃ Y, Ev (fun k => impl_Circuit_needs.l0 k X ((d : Int) - 1) inputs G) Y ∧ (Y.length : Int) = 1 + inputs + G.length ∧ rdOf false Y q = false := by
  have h0 := h.i0
  have h12 := h.i12
  have hl := h.len
  intro d
  induction d with
  | zero =>
    intro X _ hX hX2
    exact ⟨X, Ev.step (Ev.neg (by omega) (Ev.val _)) (fun k => impl_Circuit_needs.l0.eq_2 ..), hX, hX2⟩
  | succ d ih =>
    intro X hd hX hX2
    have hil : d < G.length := by omega
    obtain ⟨⟨g1, g2⟩, g3, g4⟩ := h.ok d hil
    have hg := hG G[d] (List.getElem_mem hil)
    have w1 : wrap64 (wrap64 (1 + inputs) + (d : Int)) = 1 + inputs + (d : Int) := by rw [w_id (x := 1 + inputs) (by omega) (by omega), w_id (by omega) (by omega)]
    have w2 : wrap64 ((d : Int) - 1) = (d : Int) - 1 := w_id (by omega) (by omega)
    have w3 : wrap64 (Int.tdiv G[d].f0 2) = G[d].f0 / 2 := by rw [Int.tdiv_eq_ediv_of_nonneg g1, w_id (by omega) (by omega)]
    have w4 : wrap64 (Int.tdiv G[d].f1 2) = G[d].f1 / 2 := by rw [Int.tdiv_eq_ediv_of_nonneg g3, w_id (by omega) (by omega)]
    have st : ∀ Z : List Bool, Ev (fun k => if rdOf false X (1 + inputs + (d : Int)) = true then (if 0 ≤ (d : Int) then (if (d : Int) < (G.length : Int) then (if 0 ≤ G[d].f0 / 2 then (if G[d].f0 / 2 < (X.length : Int) then (if 0 ≤ G[d].f1 / 2 then (if G[d].f1 / 2 < (X.length : Int) then impl_Circuit_needs.l0 k ((X.set (G[d].f0 / 2).toNat true).set (G[d].f1 / 2).toNat true) ((d : Int) - 1) inputs G else none) else none) else none) else none) else none) else none) else impl_Circuit_needs.l0 k X ((d : Int) - 1) inputs G) Z → Ev (fun k => impl_Circuit_needs.l0 k X (((d + 1 : Nat) : Int) - 1) inputs G) Z := by
      intro Z hZ
      rw [show ((d + 1 : Nat) : Int) - 1 = (d : Int) by omega]
      refine Ev.step ?_ (fun k => impl_Circuit_needs.l0.eq_2 ..)
      rw [w1, w2, rdG hil, w3, w4]
      exact Ev.pos (by omega) (Ev.pos (by omega) (Ev.pos (by omega) hZ))
    by_cases c : rdOf false X (1 + inputs + (d : Int)) = true
    · obtain ⟨Y, y1, y2, y3⟩ := ih ((X.set (G[d].f0 / 2).toNat true).set (G[d].f1 / 2).toNat true) (by omega) (by rw [List.length_set, List.length_set]; exact hX) (by rw [rdOf_set_ne (by omega) hq hg.2, rdOf_set_ne (by omega) hq hg.1]; exact hX2)
      exact ⟨Y, st Y (Ev.pos c (Ev.pos (by omega) (Ev.pos (by omega) (Ev.pos (by omega) (Ev.pos (by omega) (Ev.pos (by omega) (Ev.pos (by omega) y1))))))), y2, y3⟩
    · obtain ⟨Y, y1, y2, y3⟩ := ih X (by omega) hX hX2
      exact ⟨Y, st Y (Ev.neg c y1), y2, y3⟩
theorem cneeds_val {inputs : Int} {G : List S92} (h : CV inputs G) {e q : Int} (e0 : 0 ≤ e) (e1 : e < 2 * (1 + inputs + (G.length : Int))) (hq : 0 ≤ q) (he : e / 2 ≠ q) (hG : ∀ g ∈ G, g.f0 / 2 ≠ q ∧ g.f1 / 2 ≠ q) : ∃ Y, Ev (fun k => impl_Circuit_needs.f k inputs G e) Y ∧ (Y.length : Int) = 1 + inputs + G.length ∧ rdOf false Y q = false := by
  have h0 := h.i0
  have h12 := h.i12
  have hl := h.len
  have w1 : wrap64 (wrap64 (1 + inputs) + (G.length : Int)) = 1 + inputs + (G.length : Int) := by rw [w_id (x := 1 + inputs) (by omega) (by omega), w_id (by omega) (by omega)]
  have w2 : wrap64 ((G.length : Int) - 1) = (G.length : Int) - 1 := w_id (by omega) (by omega)
  have w3 : wrap64 (Int.tdiv e 2) = e / 2 := by rw [Int.tdiv_eq_ediv_of_nonneg e0, w_id (by omega) (by omega)]
  have r0 : rdOf false (List.replicate (1 + inputs + (G.length : Int)).toNat false) q = false := by
    unfold rdOf
    rw [List.getD_eq_getElem?_getD, List.getElem?_replicate]
    split <;> rfl
  obtain ⟨Y, y1, y2, y3⟩ := cneeds_loop h hq hG G.length ((List.replicate (1 + inputs + (G.length : Int)).toNat false).set (e / 2).toNat true) (Nat.le_refl _) (by rw [List.length_set, List.length_replicate]; omega) (by rw [rdOf_set_ne (by omega) hq he]; exact r0)
  refine ⟨Y, ?_, y2, y3⟩
  unfold impl_Circuit_needs.f
  rw [w1, w2, w3]
  simp only [Option.bind_some]
  exact Ev.pos (by omega) (Ev.pos (by omega) (Ev.pos (by omega) (Ev.pos (by rw [List.length_replicate]; omega) y1)))
theorem listOf_loop (X : List Bool) (hl : X.length ≤ 1000) (q : Int) (hX : ∀ j : Nat, j < X.length → (j : Int) = q → rdOf false X (j : Int) = false) : ∀ (d i : Nat) (xs : List Int), i + d = X.length → xs.length ≤ i → q ∉ xs → ∃ r, Ev (fun k => impl_listOf.l0 k xs X (X.length : Int) (i : Int)) r ∧ q ∉ r ∧ r.length ≤ X.length := by
  intro d
  induction d with
  | zero =>
    intro i xs hi hx hq
    refine ⟨xs, Ev.step (Ev.neg (by omega) (Ev.bind (a := xs) (Ev.const ?_) (Ev.val _))) (fun k => impl_listOf.l0.eq_2 ..), hq, by omega⟩
    unfold impl_clone_int.f
    rw [if_pos (by omega)]
  | succ d ih =>
    intro i xs hi hx hq
    by_cases c : rdOf false X (i : Int) = true
    · obtain ⟨r, r1, r2, r3⟩ := ih (i + 1) (xs ++ [(i : Int)]) (by omega) (by simp; omega) (fun hm => by
        rcases List.mem_append.mp hm with h | h
        · exact hq h
        · have e := (List.mem_singleton.mp h).symm
          have := hX i (by omega) e
          rw [this] at c
          cases c)
      refine ⟨r, Ev.step (Ev.pos (by omega) (Ev.pos (by omega) (Ev.pos (by omega) (Ev.pos c (Ev.pos (by omega) ?_))))) (fun k => impl_listOf.l0.eq_2 ..), r2, r3⟩
      rw [wsucc i (by omega)]
      exact r1
    · obtain ⟨r, r1, r2, r3⟩ := ih (i + 1) xs (by omega) (by omega) hq
      refine ⟨r, Ev.step (Ev.pos (by omega) (Ev.pos (by omega) (Ev.pos (by omega) (Ev.neg c ?_)))) (fun k => impl_listOf.l0.eq_2 ..), r2, r3⟩
      rw [wsucc i (by omega)]
      exact r1
theorem has_no (xs : List Int) (hl : xs.length ≤ 1000) (q : Int) (hq : q ∉ xs) : ∀ (d i : Nat), i + d = xs.length → Ev (fun k => laws_wcHas.l0 k q xs (xs.length : Int) (i : Int)) false := by
  intro d
  induction d with
  | zero =>
    intro i hi
    exact Ev.step (Ev.neg (by omega) (Ev.val _)) (fun k => laws_wcHas.l0.eq_2 ..)
  | succ d ih =>
    intro i hi
    have ne : ¬ rd xs (i : Int) = q := fun e => hq (by rw [← e, rd_lt (by omega)]; exact List.getElem_mem _)
    refine Ev.step (Ev.pos (by omega) (Ev.pos (by omega) (Ev.pos (by omega) (Ev.neg ne ?_)))) (fun k => laws_wcHas.l0.eq_2 ..)
    rw [wsucc i (by omega)]
    exact ih (i + 1) (by omega)
theorem needs_no {inputs : Int} {G : List S92} (h : CV inputs G) {e q : Int} (e0 : 0 ≤ e) (e1 : e < 2 * (1 + inputs + (G.length : Int))) (hq : 0 ≤ q) (he : e / 2 ≠ q + 1) (hG : ∀ g ∈ G, g.f0 / 2 ≠ q + 1 ∧ g.f1 / 2 ≠ q + 1) : ∃ r, Ev (fun k => impl_NeedsInputs.f k inputs G e) r ∧ q ∉ r ∧ r.length ≤ 1000 := by
  have h0 := h.i0
  have h12 := h.i12
  have hl := h.len
  obtain ⟨t, ht, h1⟩ := impl_cv inputs G
  obtain rfl : t = true := h1.2 h
  obtain ⟨Y, y1, y2, y3⟩ := cneeds_val h e0 e1 (q := q + 1) (by omega) he hG
  have w1 : wrap64 (1 + inputs) = 1 + inputs := w_id (by omega) (by omega)
  obtain ⟨X, hX⟩ : ∃ X, X = (Y.take (1 + inputs).toNat).drop 1 := ⟨_, rfl⟩
  have xl : X.length ≤ 1000 := by rw [hX, List.length_drop, List.length_take]; omega
  obtain ⟨r, r1, r2, r3⟩ := listOf_loop X xl q (fun j hj ej => by
    have hj2 := hj
    rw [hX, List.length_drop, List.length_take] at hj2
    rw [rdOf_nat2, hX, List.getD_eq_getElem?_getD, List.getElem?_drop, List.getElem?_take, if_pos (by omega)]
    have := y3
    unfold rdOf at this
    rw [List.getD_eq_getElem?_getD, show (q + 1).toNat = 1 + j by omega] at this
    exact this) X.length 0 [] (by omega) (Nat.le_refl _) (by simp)
  refine ⟨r, ?_, r2, by omega⟩
  unfold impl_NeedsInputs.f
  refine Ev.bind ht (Ev.pos rfl (Ev.bind (Ev.const (impl_edge h e)) ?_))
  rw [decide_eq_true (show 0 ≤ e ∧ e ≤ 2 * (1 + inputs + (G.length : Int)) - 1 by omega)]
  refine Ev.step (Ev.neg (by decide) (Ev.bind y1 ?_)) (fun k => impl_NeedsInputs.j0.eq_2 ..)
  rw [w1]
  refine Ev.pos (by omega) (Ev.pos (by omega) (Ev.bind (a := r) ?_ (Ev.val _)))
  unfold impl_listOf.f
  rw [← hX]
  exact r1

theorem draw_fixed (code : List Int) (hc : ∀ x ∈ code, (Lit.int .u8 x).wf = true) : Tot (fun k => spec_DrawFixed.f k code) (fun _ => True) := by
  obtain ⟨b, ho, hb⟩ := open_tot code hc
  unfold spec_DrawFixed.f
  refine Tot.bind (Tot.of (Ev.const ho) (P := fun r => r = (b, 0)) rfl) ?_
  rintro r rfl
  refine Tot.bind (l7any_tot b hb 0 5 (by decide) (by decide) (by decide) (by decide)) ?_
  rintro ⟨i, L, q⟩ ⟨_, _, q0, q1⟩
  simp only at q0 q1 ⊢
  refine Tot.bind (l7some_tot b hb q q0 (by omega) i L) ?_
  rintro ⟨e, q2⟩ ⟨q3, q4⟩
  simp only at q3 q4 ⊢
  refine Tot.bind (pick_tot b hb q2 _ q3 (by omega)) ?_
  rintro ⟨y, q5⟩ ⟨e1, _⟩
  simp only at e1 ⊢
  subst e1
  exact Tot.bind (num_tot b hb (q2 + 1) _ (by omega) (by omega) (by simp)) (fun _ _ => Tot.val trivial)
theorem edgeValue_of {inputs e : Int} {L : List S92} (h : CV inputs L) (he : 0 ≤ e ∧ e ≤ 2 * (1 + inputs + (L.length : Int)) - 1) {bits : List Int} (hb : BitRow bits) (hl : (bits.length : Int) = inputs) : Ev (fun k => impl_EdgeValue.f k inputs L bits e) (edgeV L e bits) := by
  obtain ⟨k1, k2, k3⟩ := impl_values_val h hl hb
  have h12 := h.i12
  obtain ⟨q, hq, h1⟩ := impl_cv inputs L
  obtain rfl : q = true := h1.2 h
  have h01 : Bit01 bits := fun j hj => by
    rw [rd_lt hj]
    exact hb _ (List.getElem_mem hj)
  unfold impl_EdgeValue.f
  refine Ev.bind hq (Ev.pos rfl (Ev.pos hl (Ev.bind (bits_valid bits (by omega) h01) (Ev.pos rfl (Ev.bind (Ev.const (impl_edge h e)) ?_)))))
  rw [decide_eq_true he]
  exact Ev.step (Ev.neg (by decide) (Ev.bind k1 (Ev.bind (Ev.const (impl_edgeOf_val k2 (by have := h.len; omega) he.1 (by rw [k3]; omega))) (Ev.val _)))) (fun k => impl_EdgeValue.j0.eq_2 ..)
theorem fixed_l1 {inputs : Int} {m : Nat} (hm : (m : Int) = inputs) (h12 : inputs ≤ 12) (v : Nat) {edge input value e : Int} {L G : List S92} (r : Bool)
    (rest : ∀ bits : List Int, BitRow bits → bits.length = m → Ev (fun k => (impl_EdgeValue.f k inputs G bits e).bind fun t347 => if 0 ≤ input then if input < (bits.length : Int) then (impl_EdgeValue.f k inputs L (bits.set (input : Int).toNat value) edge).bind fun t349 => if t349 = t347 then laws_FnFixed.l0 k edge input value e (wrap64 ((v : Int) + 1)) inputs L inputs G else some false else none else none) r) :
    ∀ (d j : Nat) (bits : List Int), j + d = m → BitRow bits → bits.length = j → Ev (fun k => laws_FnFixed.l1 k edge input value e (v : Int) bits (v : Int) inputs (j : Int) inputs L inputs G) r := by
  intro d
  induction d with
  | zero =>
    intro j bits hj hb hl
    exact Ev.step (Ev.neg (by omega) (rest bits hb (by omega))) (fun k => laws_FnFixed.l1.eq_2 ..)
  | succ d ih =>
    intro j bits hj hb hl
    have t0 : 0 ≤ Int.tmod (j : Int) 3 := by rw [Int.tmod_eq_emod_of_nonneg (by omega)]; omega
    obtain ⟨t, ht⟩ := Int.eq_ofNat_of_zero_le t0
    refine Ev.step (Ev.pos (by omega) (Ev.pos t0 (Ev.pos (by omega) ?_))) (fun k => laws_FnFixed.l1.eq_2 ..)
    rw [wsucc j (by omega), ht]
    exact ih (j + 1) _ (by omega) (hb.snoc (shr_bit v t)) (by simp; omega)
theorem fixed_l0 {inputs edge input value : Int} {L : List S92} (h : FixAsk inputs L edge input value) : ∀ (d i : Nat), i + d = 8 → Ev (fun k => laws_FnFixed.l0 k edge input value (edg (fixed inputs L input value).2 edge) (i : Int) inputs L inputs (fixed inputs L input value).1) true := by
  have h0 := h.1.i0
  have h12 := h.1.i12
  have hl := h.1.len
  obtain ⟨m, hm⟩ := Int.eq_ofNat_of_zero_le h0
  have fr := fix_run h
  have fb := sgn_bound fr.2.2.1 h.2.1.1 (by have := h.2.1.2; have fl : ((fixed inputs L input value).2.length : Int) = 1 + inputs + (L.length : Int) := by { unfold fixed; rw [fx_len, e0_len]; omega }; omega)
  have hG := (fixed_sem h (bits := List.replicate m 0) (by rw [List.length_replicate]; omega) (fun x hx => .inl (List.eq_of_mem_replicate hx))).1
  intro d
  induction d with
  | zero =>
    intro i hi
    have hi8 : i = 8 := by omega
    subst hi8
    obtain ⟨n1, n2⟩ := fixed_noin h
    obtain ⟨r, r1, r2, r3⟩ := needs_no hG fb.1 fb.2 h.2.2.1.1 n1 n2
    have hw : Ev (fun k => laws_wcHas.f k r input) false := by
      unfold laws_wcHas.f
      exact has_no r r3 input r2 r.length 0 (by omega)
    exact Ev.step (Ev.neg (by decide) (Ev.bind r1 (Ev.bind hw (show Ev (fun _ => some (!false)) true from Ev.val true)))) (fun k => laws_FnFixed.l0.eq_2 ..)
  | succ d ih =>
    intro i hi
    refine Ev.step (Ev.pos (by omega) (fixed_l1 (m := m) hm.symm h12 i true (fun bits hb hbl => ?_) m 0 [] (by omega) (fun x hx => by simp at hx) rfl)) (fun k => laws_FnFixed.l0.eq_2 ..)
    obtain ⟨s1, s2⟩ := fixed_sem h (bits := bits) (by omega) hb
    have hi2 := h.2.2.1
    have hv := h.2.2.2
    have hb2 : BitRow (bits.set input.toNat value) := fun x hx => by
      rcases List.mem_or_eq_of_mem_set hx with h | h
      · exact hb x h
      · rw [h]
        omega
    refine Ev.bind (edgeValue_of s1 ⟨fb.1, by have := fb.2; omega⟩ hb (by omega)) (Ev.pos hi2.1 (Ev.pos (by omega) (Ev.bind (edgeValue_of h.1 h.2.1 hb2 (by rw [List.length_set]; omega)) (Ev.pos s2.symm ?_))))
    rw [wsucc i (by omega)]
    exact ih (i + 1) (by omega)
theorem FnFixed : laws_FnFixed.Pure := by
  intro code _ _ hc
  apply Ev.get
  unfold laws_FnFixed.f
  by_cases c0 : (code.length : Int) > 1048576
  · exact Ev.pos c0 (Ev.val _)
  refine Ev.neg c0 ?_
  obtain ⟨⟨inputs, L, edge, input, value⟩, hdraw, _⟩ := draw_fixed code hc
  refine Ev.bind hdraw ?_
  simp only
  obtain ⟨⟨r1, R, r3⟩, ht, hR⟩ := fixIs_ex inputs L edge input value
  refine Ev.bind (fix_v ht) (Ev.bind (spec_fix ht) (Ev.pos rfl (Ev.pos rfl ?_)))
  simp only
  obtain ⟨hy, hn⟩ := ht
  by_cases ask : FixAsk inputs L edge input value
  · have hh := hy ask
    simp only [Prod.mk.injEq] at hh
    obtain ⟨rfl, rfl, rfl⟩ := hh
    have fl : ((fixed r1 L input value).2.length : Int) = 1 + r1 + (L.length : Int) := by
      have := ask.1.i0
      unfold fixed
      rw [fx_len, e0_len]
      omega
    have fb := sgn_bound (fix_run ask).2.2.1 ask.2.1.1 (by have := ask.2.1.2; omega)
    rw [decide_eq_false (show ¬ edg (fixed r1 L input value).2 edge < 0 by omega)]
    exact Ev.step (Ev.neg (by decide) (fixed_l0 ask 8 0 (by omega))) (fun k => laws_FnFixed.j0.eq_2 ..)
  · have hh := hn ask
    simp only [Prod.mk.injEq] at hh
    obtain ⟨rfl, rfl, rfl⟩ := hh
    exact Ev.step (Ev.pos (by decide) (Ev.pos rfl (Ev.pos rfl (Ev.val _)))) (fun k => laws_FnFixed.j0.eq_2 ..)

end Go.Proofs.Ytpcckoljocpchaa.Pure
