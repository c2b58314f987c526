/- FnDiagramRow: the row told is the least row of the place, on both sides, whatever is drawn. -/
import Derived.Test.YtpcompnmadpljaaQFnDiagramRowx13
namespace Go.Proofs.Ytpcompnmadpljaa.Pure
open Go.RowKit Go.Proofs.Ytpcompnmadpljaa.QFnDiagramRow Go.Proofs.YtpcompnmadpljaaW.PrintWords Go.Proofs.YtpcompnmadpljaaW.PrintLast Go.Proofs.YtpcompnmadpljaaW.PrintMore
set_option linter.unusedVariables false
set_option linter.unusedSimpArgs false

/-! #### rounds -/
/-- From some number of rounds on, g tells r. -/
def Ev {α : Type} (g : Nat → Option α) (r : α) : Prop := ∃ K, ∀ k, K ≤ k → g k = some r
theorem Ev.val {α : Type} (r : α) : Ev (fun _ => some r) r := ⟨0, fun _ _ => rfl⟩
theorem Ev.valEq {α : Type} {r r' : α} (h : r = r') : Ev (fun _ => some r) r' := ⟨0, fun _ _ => by rw [h]⟩
theorem Ev.const {α : Type} {g : Option α} {r : α} (h : g = some r) : Ev (fun _ => g) r := ⟨0, fun _ _ => h⟩
theorem Ev.bind {α β : Type} {g : Nat → Option α} {f : Nat → α → Option β} {a : α} {b : β} (h : Ev g a) (h2 : Ev (fun k => f k a) b) : Ev (fun k => (g k).bind (f k)) b := by
  obtain ⟨K, hK⟩ := h
  obtain ⟨L, hL⟩ := h2
  exact ⟨max K L, fun k hk => by show (g k).bind (f k) = _; rw [hK k (by omega)]; exact hL k (by omega)⟩
theorem Ev.step {α : Type} {g g' : Nat → Option α} {r : α} (h : Ev g' r) (e : ∀ k, g (k + 1) = g' k) : Ev g r := by
  obtain ⟨K, hK⟩ := h
  exact ⟨K + 1, fun k hk => by
    obtain ⟨m, rfl⟩ : ∃ m, k = m + 1 := ⟨k - 1, by omega⟩
    rw [e]
    exact hK m (by omega)⟩
theorem Ev.pos {α : Type} {c : Prop} [Decidable c] {g g' : Nat → Option α} {r : α} (hc : c) (h : Ev g r) : Ev (fun k => if c then g k else g' k) r := by
  obtain ⟨K, hK⟩ := h
  exact ⟨K, fun k hk => by simp only [if_pos hc]; exact hK k hk⟩
theorem Ev.neg {α : Type} {c : Prop} [Decidable c] {g g' : Nat → Option α} {r : α} (hc : ¬ c) (h : Ev g' r) : Ev (fun k => if c then g k else g' k) r := by
  obtain ⟨K, hK⟩ := h
  exact ⟨K, fun k hk => by simp only [if_neg hc]; exact hK k hk⟩
theorem Ev.get {α : Type} {g : Nat → Option α} {r : α} (h : Ev g r) : ∃ k, g k = some r := by
  obtain ⟨K, hK⟩ := h
  exact ⟨K, hK K (Nat.le_refl _)⟩
/-! #### numbers -/
theorem w_id {x : Int} (h0 : -9223372036854775808 ≤ x) (h1 : x ≤ 9223372036854775807) : wrap64 x = x := by
  unfold wrap64
  omega
/-! #### lists -/
theorem rd_nat (l : List Int) (i : Nat) : rd l (i : Int) = l.getD i 0 := by
  unfold rd
  rw [Int.toNat_natCast]
theorem getD_lt {α : Type} {l : List α} {i : Nat} (h : i < l.length) (d : α) : l.getD i d = l[i] := by
  rw [List.getD_eq_getElem?_getD, List.getElem?_eq_getElem h]
  rfl
theorem rd_lt {l : List Int} {i : Nat} (h : i < l.length) : rd l (i : Int) = l[i] := by rw [rd_nat, getD_lt h]
theorem wsucc (i : Nat) (h : i ≤ 4611686018427387904) : wrap64 ((i : Int) + 1) = ((i + 1 : Nat) : Int) := by
  unfold wrap64
  omega
/-- g tells in the end whether p is so. -/
def Dec (g : Nat → Option Bool) (p : Prop) : Prop := ∃ b, Ev g b ∧ (b = true ↔ p)
theorem Dec.no {g : Nat → Option Bool} {p : Prop} (h : Ev g false) (hp : ¬ p) : Dec g p := ⟨false, h, by simp [hp]⟩
/-! #### it tells something, of which P holds -/
def Tot {α : Type} (g : Nat → Option α) (P : α → Prop) : Prop := ∃ r, Ev g r ∧ P r
theorem Tot.of {α : Type} {g : Nat → Option α} {P : α → Prop} {r : α} (h : Ev g r) (hp : P r) : Tot g P := ⟨r, h, hp⟩
theorem Tot.val {α : Type} {P : α → Prop} {r : α} (h : P r) : Tot (fun _ => some r) P := ⟨r, Ev.val r, h⟩
theorem Tot.mono {α : Type} {g : Nat → Option α} {P Q : α → Prop} (h : Tot g P) (hq : ∀ r, P r → Q r) : Tot g Q := by
  obtain ⟨r, h1, h2⟩ := h
  exact ⟨r, h1, hq r h2⟩
theorem Tot.step {α : Type} {g g' : Nat → Option α} {P : α → Prop} (h : Tot g' P) (e : ∀ k, g (k + 1) = g' k) : Tot g P := by
  obtain ⟨r, h1, h2⟩ := h
  exact ⟨r, Ev.step h1 e, h2⟩
theorem Tot.bind {α β : Type} {g : Nat → Option α} {f : Nat → α → Option β} {Q : α → Prop} {P : β → Prop} (h : Tot g Q) (h2 : ∀ a, Q a → Tot (fun k => f k a) P) : Tot (fun k => (g k).bind (f k)) P := by
  obtain ⟨a, ha, hq⟩ := h
  obtain ⟨r, h1, h3⟩ := h2 a hq
  exact ⟨r, Ev.bind ha h1, h3⟩
theorem Tot.pos {α : Type} {c : Prop} [Decidable c] {g g' : Nat → Option α} {P : α → Prop} (hc : c) (h : Tot g P) : Tot (fun k => if c then g k else g' k) P := by
  obtain ⟨r, h1, h2⟩ := h
  exact ⟨r, Ev.pos hc h1, h2⟩
theorem Tot.neg {α : Type} {c : Prop} [Decidable c] {g g' : Nat → Option α} {P : α → Prop} (hc : ¬ c) (h : Tot g' P) : Tot (fun k => if c then g k else g' k) P := by
  obtain ⟨r, h1, h2⟩ := h
  exact ⟨r, Ev.neg hc h1, h2⟩
theorem Tot.ite {α : Type} {c : Prop} [Decidable c] {g g' : Nat → Option α} {P : α → Prop} (h1 : c → Tot g P) (h2 : ¬ c → Tot g' P) : Tot (fun k => if c then g k else g' k) P := by
  by_cases hc : c
  · exact Tot.pos hc (h1 hc)
  · exact Tot.neg hc (h2 hc)
theorem in_dec {x a b : Int} : Ev (fun _ => impl_in.f x a b) (decide (a ≤ x ∧ x ≤ b)) := by
  unfold impl_in.f
  by_cases h : x ≥ a
  · refine Ev.pos h (Ev.valEq ?_)
    simp only [decide_eq_decide]
    omega
  · refine Ev.neg h (Ev.valEq ?_)
    symm
    rw [decide_eq_false_iff_not]
    omega
theorem idx_tot (p : Nat → Int → Option Bool) (P : Nat → Prop) (m : Nat) (hp : ∀ j : Nat, j < m → Dec (fun k => p k (j : Int)) (P j)) : ∀ (d i : Nat), i + d = m →
    Tot (fun k => Copy.idxO (p k) d (i : Int)) (fun r => 0 ≤ r ↔ ∃ j : Nat, i ≤ j ∧ j < m ∧ P j) := by
  intro d
  induction d with
  | zero =>
    intro i hi
    exact Tot.val ⟨fun h => by omega, fun ⟨j, h1, h2, _⟩ => by omega⟩
  | succ d ih =>
    intro i hi
    obtain ⟨b, hb, hbi⟩ := hp i (by omega)
    cases b with
    | true => exact ⟨(i : Int), Ev.bind hb (Ev.pos rfl (Ev.val _)), fun _ => ⟨i, Nat.le_refl _, by omega, hbi.mp rfl⟩, fun _ => by omega⟩
    | false =>
      obtain ⟨r, hr, hri⟩ := ih (i + 1) (by omega)
      refine ⟨r, Ev.bind hb (Ev.neg (by decide) ?_), hri.trans ?_⟩
      · have e : ((i + 1 : Nat) : Int) = (i : Int) + 1 := by omega
        rw [← e]
        exact hr
      · constructor
        · rintro ⟨j, h1, h2, h3⟩
          exact ⟨j, by omega, h2, h3⟩
        · rintro ⟨j, h1, h2, h3⟩
          rcases Nat.lt_or_eq_of_le h1 with h4 | rfl
          · exact ⟨j, h4, h2, h3⟩
          · exact absurd (hbi.mpr h3) (by decide)
/-! #### the truth of clauses by a row of bits -/
def Bit01 (xs : List Int) : Prop := ∀ j : Nat, j < xs.length → rd xs (j : Int) = 0 ∨ rd xs (j : Int) = 1
theorem bits_valid (xs : List Int) (hl : xs.length ≤ 1048576) (hb : Bit01 xs) : Ev (fun _ => impl_bitsValid.f xs) true := by
  unfold impl_bitsValid.f
  obtain ⟨r, h1, h2⟩ := idx_tot (fun _ => impl_bitsValid.p xs) (fun _ => False) xs.length (fun j hj => by
    unfold impl_bitsValid.p
    refine Dec.no (Ev.bind in_dec (Ev.valEq ?_)) id
    have := hb j hj
    simp
    omega) xs.length 0 (by omega)
  refine Ev.bind h1 (Ev.valEq ?_)
  have : ¬ 0 ≤ r := fun h => by
    obtain ⟨j, _, _, h3⟩ := h2.mp h
    exact h3
  simp [this]
/-! #### the drawer of numbers -/
def Drawer (b : List Int) : Prop := b.length ≤ 2000 ∧ ∀ j : Nat, j < b.length → 0 ≤ rd b (j : Int) ∧ rd b (j : Int) ≤ 255
theorem xor_nonneg (a c : Int) (ha : 0 ≤ a) (ha2 : a < 4611686018427387904) (hc : 0 ≤ c) (hc2 : c < 4611686018427387904) : 0 ≤ Go.bits .xor .i64 a c := by
  obtain ⟨m, rfl⟩ := Int.eq_ofNat_of_zero_le ha
  obtain ⟨n, rfl⟩ := Int.eq_ofNat_of_zero_le hc
  have hm : m < 2 ^ 62 := by omega
  have hn : n < 2 ^ 62 := by omega
  have hx := Nat.xor_lt_two_pow hm hn
  have hm' : m % 2 ^ 64 = m := Nat.mod_eq_of_lt (by omega)
  have hn' : n % 2 ^ 64 = n := Nat.mod_eq_of_lt (by omega)
  have e : (BitVec.ofInt 64 (m : Int) ^^^ BitVec.ofInt 64 (n : Int)).toNat = m ^^^ n := by
    rw [BitVec.ofInt_natCast, BitVec.ofInt_natCast, BitVec.toNat_xor, BitVec.toNat_ofNat, BitVec.toNat_ofNat, hm', hn']
  have e2 : Go.bits .xor .i64 (m : Int) (n : Int) = IntKind.i64.wrap ((BitVec.ofInt 64 (m : Int) ^^^ BitVec.ofInt 64 (n : Int)).toNat : Int) := rfl
  rw [e2, e, IntKind.wrap_i64]
  omega
theorem tmod_range (x n : Int) (h0 : 0 ≤ x) (hn : 1 ≤ n) : 0 ≤ Int.tmod x n ∧ Int.tmod x n < n := by
  rw [Int.tmod_eq_emod_of_nonneg h0]
  exact ⟨Int.emod_nonneg _ (by omega), Int.emod_lt_of_pos _ (by omega)⟩
theorem pick_tot (b : List Int) (hb : Drawer b) (p n : Int) (hp : 0 ≤ p) (hp2 : p ≤ 1000000) :
    Tot (fun k => spec_l40Rd_pick.f k b p n) (fun r => r.2 = p + 1 ∧ 0 ≤ r.1 ∧ (1 ≤ n → r.1 < n)) := by
  obtain ⟨hl, hbb⟩ := hb
  have w1 : wrap64 (p + 1) = p + 1 := w_id (by omega) (by omega)
  have w2 : wrap64 (p + 1 - 1) = p := by rw [w_id (by omega) (by omega)]; omega
  have byte : ∀ z : Int, 0 ≤ z → z < (b.length : Int) → 0 ≤ rd b z ∧ rd b z ≤ 255 := by
    intro z h0 h1
    obtain ⟨m, rfl⟩ := Int.eq_ofNat_of_zero_le h0
    exact hbb m (by omega)
  unfold spec_l40Rd_pick.f
  rw [w1]
  refine Tot.ite (fun hn => ?_) (fun hn => ?_)
  · refine Tot.step (Tot.pos rfl (Tot.val ?_)) (fun k => spec_l40Rd_pick.j0.eq_2 ..)
    exact ⟨rfl, Int.le_refl _, fun h => by omega⟩
  · refine Tot.step ?_ (fun k => spec_l40Rd_pick.j0.eq_2 ..)
    refine Tot.ite (fun hz => Tot.val ⟨rfl, Int.le_refl _, fun h => by show (0 : Int) < n; omega⟩) (fun hz => ?_)
    have hlen : (b.length : Int) ≠ 0 := by simpa using hz
    rw [w2]
    refine Tot.ite (fun hpl => ?_) (fun hpl => ?_)
    · obtain ⟨y0, y1⟩ := byte p hp hpl
      refine Tot.pos hp (Tot.neg (by omega) (Tot.val ?_))
      rw [w_id (by omega) (by omega)]
      obtain ⟨z0, z1⟩ := tmod_range (rd b p) n y0 (by omega)
      exact ⟨rfl, z0, fun _ => z1⟩
    · obtain ⟨i0, i1⟩ := tmod_range p (b.length : Int) hp (by omega)
      have w3 : wrap64 (p * 7) = p * 7 := w_id (by omega) (by omega)
      have w4 : wrap64 (p * 7 + 3) = p * 7 + 3 := w_id (by omega) (by omega)
      rw [w3, w4]
      obtain ⟨j0, j1⟩ := tmod_range (p * 7 + 3) (b.length : Int) (by omega) (by omega)
      refine Tot.neg (by omega) (Tot.pos i0 (Tot.pos i1 (Tot.pos j0 (Tot.pos j1 (Tot.neg (by omega) (Tot.val ?_))))))
      obtain ⟨u0, u1⟩ := byte _ i0 i1
      obtain ⟨v0, v1⟩ := byte _ j0 j1
      generalize rd b (Int.tmod p (b.length : Int)) = u at u0 u1 ⊢
      generalize rd b (Int.tmod (p * 7 + 3) (b.length : Int)) = v at v0 v1 ⊢
      have q0 : 0 ≤ Int.tdiv p (b.length : Int) ∧ Int.tdiv p (b.length : Int) ≤ p := by
        rw [Int.tdiv_eq_ediv_of_nonneg hp]
        exact ⟨Int.ediv_nonneg hp (by omega), Int.ediv_le_self _ hp⟩
      generalize Int.tdiv p (b.length : Int) = q at q0 ⊢
      rw [w_id (x := u) (by omega) (by omega), w_id (x := v) (by omega) (by omega), w_id (x := q) (by omega) (by omega), w_id (x := u * 131) (by omega) (by omega), w_id (x := v * 1117) (by omega) (by omega),
        w_id (x := p * 29) (by omega) (by omega), w_id (x := q * 53) (by omega) (by omega), w_id (x := u * 131 + v * 1117) (by omega) (by omega), w_id (x := u * 131 + v * 1117 + p * 29) (by omega) (by omega), w_id (x := u * 131 + v * 1117 + p * 29 + q * 53) (by omega) (by omega)]
      generalize hA : u * 131 + v * 1117 + p * 29 + q * 53 = A
      have hA0 : 0 ≤ A ∧ A ≤ 1000000000 := by omega
      have hd : 0 ≤ Int.tdiv A 64 ∧ Int.tdiv A 64 ≤ A := by
        rw [Int.tdiv_eq_ediv_of_nonneg hA0.1]
        omega
      rw [w_id (x := Int.tdiv A 64) (by omega) (by omega)]
      have hx := xor_nonneg A (Int.tdiv A 64) hA0.1 (by omega) hd.1 (by omega)
      obtain ⟨z0, z1⟩ := tmod_range _ n hx (by omega)
      exact ⟨rfl, z0, fun _ => z1⟩
theorem num_tot (b : List Int) (hb : Drawer b) (p : Int) (l : List Int) (hp : 0 ≤ p) (hp2 : p ≤ 1000000) (hl : 1 ≤ l.length) :
    Tot (fun k => spec_l40Rd_num.f k b p l) (fun r => r.2 = p + 1 ∧ r.1 ∈ l) := by
  unfold spec_l40Rd_num.f
  refine Tot.bind (pick_tot b hb p (l.length : Int) hp hp2) ?_
  rintro ⟨x, q⟩ ⟨h1, h2, h3⟩
  have h4 := h3 (by omega)
  refine Tot.pos h2 (Tot.pos h4 (Tot.val ⟨h1, ?_⟩))
  show rd l x ∈ l
  obtain ⟨m, rfl⟩ := Int.eq_ofNat_of_zero_le h2
  rw [rd_lt (by show m < _; simp only at h4; omega)]
  exact List.getElem_mem _
theorem open_tot (code : List Int) (hc : ∀ x ∈ code, (Lit.int .u8 x).wf = true) : ∃ b, spec_l40Open.f code = some (b, 0) ∧ Drawer b := by
  have byte : ∀ b : List Int, (∀ x ∈ b, x ∈ code) → ∀ j : Nat, j < b.length → 0 ≤ rd b (j : Int) ∧ rd b (j : Int) ≤ 255 := by
    intro b hs j hj
    rw [rd_lt hj]
    have := hc _ (hs _ (List.getElem_mem hj))
    simp [Lit.wf, IntKind.min, IntKind.max, IntKind.signed, IntKind.bits] at this
    omega
  unfold spec_l40Open.f
  by_cases c : (code.length : Int) > 2000
  · rw [if_pos c, if_pos (by omega)]
    refine ⟨_, rfl, by simp; omega, byte _ (fun x hx => List.mem_of_mem_take hx)⟩
  · rw [if_neg c]
    exact ⟨_, rfl, by omega, byte _ (fun x hx => hx)⟩
/-! #### diagrams, plainly: forks that are added once -/
/-- A tree of decisions over places. -/
inductive DT where
  | leaf (n : Int)
  | fork (v : Int) (lo hi : DT)
def dfind (L : List S71) (x : S71) : Option Nat := L.findIdx? (fun y => decide (y = x))
def dadd (L : List S71) (v lo hi : Int) : List S71 × Int :=
  if lo < 0 ∨ hi < 0 then (L, -1) else if lo = hi then (L, lo) else
  match dfind L ⟨v, lo, hi⟩ with
  | some i => (L, (i : Int) + 2)
  | none => if 2000 ≤ L.length then (L, -1) else (L ++ [⟨v, lo, hi⟩], (L.length : Int) + 2)
def ins (L : List S71) : DT → List S71 × Int
  | .leaf n => (L, n)
  | .fork v lo hi => if (ins L lo).2 < 0 then (L, -1) else dadd (ins (ins L lo).1 hi).1 v (ins L lo).2 (ins (ins L lo).1 hi).2
theorem dfind_some {L : List S71} {x : S71} {i : Nat} (h : dfind L x = some i) : L[i]? = some x := by
  unfold dfind at h
  rw [List.findIdx?_eq_some_iff_getElem] at h
  obtain ⟨hi, h1, _⟩ := h
  rw [List.getElem?_eq_getElem hi]
  exact congrArg some (of_decide_eq_true h1)
theorem dfind_none {L : List S71} {x : S71} (h : dfind L x = none) : x ∉ L := by
  unfold dfind at h
  rw [List.findIdx?_eq_none_iff] at h
  intro hx
  have := h x hx
  simp at this
theorem dfind_append {L : List S71} {x : S71} {i : Nat} (h : dfind L x = some i) (t : List S71) : dfind (L ++ t) x = some i := by
  unfold dfind at h ⊢
  rw [List.findIdx?_append, h]
  rfl
theorem dfind_new {L : List S71} {x : S71} (h : dfind L x = none) (t : List S71) : dfind (L ++ x :: t) x = some L.length := by
  unfold dfind at h ⊢
  rw [List.findIdx?_append, h, List.findIdx?_cons]
  simp
def NoDup (L : List S71) : Prop := ∀ (i : Nat) x, L[i]? = some x → x ∉ L.take i
theorem neg1 {a : List S71} (h : 0 ≤ (a, (-1 : Int)).2) : False := absurd (show (0 : Int) ≤ -1 from h) (by decide)
theorem dadd_ext (L : List S71) (v lo hi : Int) : L <+: (dadd L v lo hi).1 := by
  unfold dadd
  split
  · exact List.prefix_refl _
  split
  · exact List.prefix_refl _
  split
  · exact List.prefix_refl _
  split
  · exact List.prefix_refl _
  · exact List.prefix_append _ _
theorem ins_ext (L : List S71) (t : DT) : L <+: (ins L t).1 := by
  induction t generalizing L with
  | leaf n => exact List.prefix_refl _
  | fork v lo hi ihl ihh =>
    unfold ins
    split
    · exact List.prefix_refl _
    · exact (ihl L).trans ((ihh _).trans (dadd_ext _ _ _ _))
theorem dadd_stays {L : List S71} {v lo hi : Int} (h : 0 ≤ (dadd L v lo hi).2) {L2 : List S71} (he : (dadd L v lo hi).1 <+: L2) : dadd L2 v lo hi = (L2, (dadd L v lo hi).2) := by
  unfold dadd at h he ⊢
  by_cases c1 : lo < 0 ∨ hi < 0
  · rw [if_pos c1] at h
    exact (neg1 h).elim
  rw [if_neg c1] at h he ⊢
  by_cases c2 : lo = hi
  · rw [if_neg c1, if_pos c2, if_pos c2]
  rw [if_neg c2] at h he ⊢
  rw [if_neg c1, if_neg c2]
  cases hf : dfind L ⟨v, lo, hi⟩ with
  | some i =>
    simp only [hf] at h he ⊢
    obtain ⟨t, rfl⟩ := he
    rw [dfind_append hf t]
  | none =>
    simp only [hf] at h he ⊢
    by_cases c3 : 2000 ≤ L.length
    · rw [if_pos c3] at h
      exact (neg1 h).elim
    rw [if_neg c3] at h he ⊢
    obtain ⟨t, rfl⟩ := he
    rw [List.append_assoc, List.singleton_append, dfind_new hf t]
theorem dadd_nn {L : List S71} {v lo hi : Int} (h : 0 ≤ (dadd L v lo hi).2) : 0 ≤ lo ∧ 0 ≤ hi := by
  unfold dadd at h
  by_cases c1 : lo < 0 ∨ hi < 0
  · rw [if_pos c1] at h
    exact (neg1 h).elim
  · omega
/-- What is there stays: once told, told again of whatever comes behind. -/
theorem ins_stays {L : List S71} {t : DT} (h : 0 ≤ (ins L t).2) {L2 : List S71} (he : (ins L t).1 <+: L2) : ins L2 t = (L2, (ins L t).2) := by
  induction t generalizing L L2 with
  | leaf n => rfl
  | fork v lo hi ihl ihh =>
    unfold ins at h he
    by_cases c : (ins L lo).2 < 0
    · rw [if_pos c] at h
      exact (neg1 h).elim
    rw [if_neg c] at h he
    have e1 : (ins (ins L lo).1 hi).1 <+: L2 := (dadd_ext _ _ _ _).trans he
    have e0 : (ins L lo).1 <+: L2 := (ins_ext _ _).trans e1
    have h2 := (dadd_nn h).2
    have k1 := ihl (by omega) e0
    have k2 := ihh h2 e1
    have k3 := dadd_stays h he
    unfold ins
    rw [if_neg c, k1]
    simp only
    rw [if_neg c, k2]
    simp only
    rw [k3]
/-- The variable of a place; c at constants. -/
def dvar (c : Int) (L : List S71) (n : Int) : Int := if n < 2 then c else (L.getD (n - 2).toNat ⟨0, 0, 0⟩).f0
def Pl (L : List S71) (n : Int) : Prop := 0 ≤ n ∧ n ≤ (L.length : Int) + 1
structure DV (vars : Int) (L : List S71) : Prop where
  v0 : 0 ≤ vars
  v12 : vars ≤ 12
  len : L.length ≤ 2000
  nd : NoDup L
  ok : ∀ (i : Nat) x, L[i]? = some x → 0 ≤ x.f0 ∧ x.f0 < vars ∧ 0 ≤ x.f1 ∧ x.f1 ≤ (i : Int) + 1 ∧ 0 ≤ x.f2 ∧ x.f2 ≤ (i : Int) + 1 ∧ x.f1 ≠ x.f2 ∧ x.f0 < dvar vars L x.f1 ∧ x.f0 < dvar vars L x.f2
theorem Pl.ext {L L2 : List S71} {n : Int} (h : Pl L n) (he : L <+: L2) : Pl L2 n := ⟨h.1, by have := he.length_le; have := h.2; omega⟩
theorem getD_ext {L L2 : List S71} (he : L <+: L2) {i : Nat} (h : i < L.length) (z : S71) : L2.getD i z = L.getD i z := by
  obtain ⟨t, rfl⟩ := he
  rw [List.getD_eq_getElem?_getD, List.getD_eq_getElem?_getD, List.getElem?_append_left h]
theorem dvar_ext {c : Int} {L L2 : List S71} {n : Int} (h : Pl L n) (he : L <+: L2) : dvar c L2 n = dvar c L n := by
  unfold dvar
  by_cases h2 : n < 2
  · rw [if_pos h2, if_pos h2]
  · rw [if_neg h2, if_neg h2, getD_ext he (by have := h.2; omega)]
/-- The fork at a place that is none of the constants. -/
theorem DV.at_ {vars : Int} {L : List S71} (h : DV vars L) {n : Int} (hp : Pl L n) (h2 : ¬ n < 2) : ∃ x, L[(n - 2).toNat]? = some x ∧ L.getD (n - 2).toNat ⟨0, 0, 0⟩ = x ∧ dvar vars L n = x.f0 ∧ 0 ≤ x.f0 ∧ x.f0 < vars ∧ Pl L x.f1 ∧ Pl L x.f2 ∧ x.f1 < n ∧ x.f2 < n ∧ x.f1 ≠ x.f2 ∧ x.f0 < dvar vars L x.f1 ∧ x.f0 < dvar vars L x.f2 := by
  have hl : (n - 2).toNat < L.length := by have := hp.2; omega
  have hx : L[(n - 2).toNat]? = some L[(n - 2).toNat] := List.getElem?_eq_getElem hl
  obtain ⟨a1, a2, a3, a4, a5, a6, a7, a8, a9⟩ := h.ok _ _ hx
  have hd : L.getD (n - 2).toNat ⟨0, 0, 0⟩ = L[(n - 2).toNat] := by rw [List.getD_eq_getElem?_getD, hx]; rfl
  refine ⟨_, hx, hd, ?_, a1, a2, ⟨a3, ?_⟩, ⟨a5, ?_⟩, ?_, ?_, a7, a8, a9⟩
  · unfold dvar
    rw [if_neg h2, hd]
  all_goals (have := hp.2; omega)
theorem DV.dvar_le {vars : Int} {L : List S71} (h : DV vars L) {n : Int} (hp : Pl L n) : 0 ≤ dvar vars L n ∧ dvar vars L n ≤ vars := by
  by_cases h2 : n < 2
  · unfold dvar
    rw [if_pos h2]
    exact ⟨h.v0, Int.le_refl _⟩
  · obtain ⟨x, _, _, e, a, b, _⟩ := h.at_ hp h2
    omega
theorem dv_dadd {vars : Int} {L : List S71} (h : DV vars L) {v lo hi : Int} (hl : Pl L lo) (hh : Pl L hi) (v0 : 0 ≤ v) (v1 : v < vars) (hvl : v < dvar vars L lo) (hvh : v < dvar vars L hi) :
    DV vars (dadd L v lo hi).1 ∧ (0 ≤ (dadd L v lo hi).2 → Pl (dadd L v lo hi).1 (dadd L v lo hi).2 ∧ v ≤ dvar vars (dadd L v lo hi).1 (dadd L v lo hi).2) := by
  unfold dadd
  by_cases c1 : lo < 0 ∨ hi < 0
  · rw [if_pos c1]
    exact ⟨h, fun hn => (neg1 hn).elim⟩
  rw [if_neg c1]
  by_cases c2 : lo = hi
  · rw [if_pos c2]
    exact ⟨h, fun _ => ⟨hl, Int.le_of_lt hvl⟩⟩
  rw [if_neg c2]
  cases hf : dfind L ⟨v, lo, hi⟩ with
  | some i =>
    have hx := dfind_some hf
    obtain ⟨hi, _⟩ := List.getElem?_eq_some_iff.1 hx
    have hp : Pl L ((i : Int) + 2) := ⟨by omega, by omega⟩
    refine ⟨h, fun _ => ⟨hp, ?_⟩⟩
    show v ≤ dvar vars L ((i : Int) + 2)
    unfold dvar
    rw [if_neg (by omega), show ((i : Int) + 2 - 2).toNat = i by omega, List.getD_eq_getElem?_getD, hx]
    exact Int.le_refl _
  | none =>
    simp only
    by_cases c3 : 2000 ≤ L.length
    · rw [if_pos c3]
      exact ⟨h, fun hn => (neg1 hn).elim⟩
    rw [if_neg c3]
    have he : L <+: L ++ [⟨v, lo, hi⟩] := List.prefix_append _ _
    refine ⟨⟨h.v0, h.v12, by simp; omega, ?_, ?_⟩, fun _ => ⟨⟨by simp; omega, by simp; omega⟩, ?_⟩⟩
    · intro i x hx hm
      by_cases hil : i < L.length
      · rw [List.getElem?_append_left hil] at hx
        rw [List.take_append_of_le_length (by omega)] at hm
        exact h.nd i x hx hm
      · have hil : i = L.length := by
          have := (List.getElem?_eq_some_iff.1 hx).1
          simp at this
          omega
        subst hil
        have ex : x = ⟨v, lo, hi⟩ := by simpa using hx.symm
        subst ex
        rw [List.take_append_of_le_length (Nat.le_refl _), List.take_length] at hm
        exact dfind_none hf hm
    · intro i x hx
      by_cases hil : i < L.length
      · rw [List.getElem?_append_left hil] at hx
        obtain ⟨a1, a2, a3, a4, a5, a6, a7, a8, a9⟩ := h.ok _ _ hx
        have p1 : Pl L x.f1 := ⟨a3, by omega⟩
        have p2 : Pl L x.f2 := ⟨a5, by omega⟩
        rw [dvar_ext p1 he, dvar_ext p2 he]
        exact ⟨a1, a2, a3, a4, a5, a6, a7, a8, a9⟩
      · have hil : i = L.length := by
          have := (List.getElem?_eq_some_iff.1 hx).1
          simp at this
          omega
        subst hil
        have ex : x = ⟨v, lo, hi⟩ := by simpa using hx.symm
        subst ex
        refine ⟨v0, v1, hl.1, hl.2, hh.1, hh.2, c2, ?_, ?_⟩
        · rw [dvar_ext hl he]
          exact hvl
        · rw [dvar_ext hh he]
          exact hvh
    · show v ≤ dvar vars _ ((L.length : Int) + 2)
      unfold dvar
      rw [if_neg (by omega), show ((L.length : Int) + 2 - 2).toNat = L.length by omega, List.getD_eq_getElem?_getD]
      simp
/-- A tree whose leaves are places, its variables from m on, ascending. -/
def TOk (vars : Int) (L : List S71) : Int → DT → Prop
  | m, .leaf n => Pl L n ∧ m ≤ dvar vars L n
  | m, .fork v lo hi => m ≤ v ∧ 0 ≤ v ∧ v < vars ∧ TOk vars L (v + 1) lo ∧ TOk vars L (v + 1) hi
theorem TOk.ext {vars : Int} {L L2 : List S71} (he : L <+: L2) {t : DT} : ∀ {m : Int}, TOk vars L m t → TOk vars L2 m t := by
  induction t with
  | leaf n =>
    intro m h
    exact ⟨h.1.ext he, by rw [dvar_ext h.1 he]; exact h.2⟩
  | fork v lo hi ihl ihh =>
    intro m h
    exact ⟨h.1, h.2.1, h.2.2.1, ihl h.2.2.2.1, ihh h.2.2.2.2⟩
theorem dv_ins {vars : Int} {t : DT} : ∀ {L : List S71} {m : Int}, DV vars L → TOk vars L m t → DV vars (ins L t).1 ∧ (0 ≤ (ins L t).2 → Pl (ins L t).1 (ins L t).2 ∧ m ≤ dvar vars (ins L t).1 (ins L t).2) := by
  induction t with
  | leaf n =>
    intro L m h ht
    exact ⟨h, fun _ => ht⟩
  | fork v lo hi ihl ihh =>
    intro L m h ht
    obtain ⟨t1, t2, t3, t4, t5⟩ := ht
    unfold ins
    by_cases c : (ins L lo).2 < 0
    · rw [if_pos c]
      exact ⟨h, fun hn => (neg1 hn).elim⟩
    rw [if_neg c]
    obtain ⟨d1, p1⟩ := ihl h t4
    obtain ⟨p1, q1⟩ := p1 (by omega)
    obtain ⟨d2, p2⟩ := ihh d1 (t5.ext (ins_ext _ _))
    by_cases c2 : (ins (ins L lo).1 hi).2 < 0
    · have : dadd (ins (ins L lo).1 hi).1 v (ins L lo).2 (ins (ins L lo).1 hi).2 = ((ins (ins L lo).1 hi).1, -1) := by
        unfold dadd
        rw [if_pos (.inr c2)]
      rw [this]
      exact ⟨d2, fun hn => (neg1 hn).elim⟩
    obtain ⟨p2, q2⟩ := p2 (by omega)
    have he := ins_ext (ins L lo).1 hi
    obtain ⟨r1, r2⟩ := dv_dadd d2 (p1.ext he) p2 t2 t3 (by rw [dvar_ext p1 he]; omega) (by omega)
    exact ⟨r1, fun hn => ⟨(r2 hn).1, Int.le_trans t1 (r2 hn).2⟩⟩
/-! #### the reference's diagrams -/
theorem l1In_val (a b c : Int) : spec_l1In.f a b c = some (decide (b ≤ a ∧ a ≤ c)) := by
  unfold spec_l1In.f
  by_cases h : a ≥ b
  · rw [if_pos h]
    congr 1
    rw [decide_eq_decide]
    constructor
    · intro h2; exact ⟨h, h2⟩
    · intro h2; exact h2.2
  · rw [if_neg h]
    congr 1
    symm
    rw [decide_eq_false_iff_not]
    intro h2
    exact h h2.1
theorem rdF {L : List S71} {i : Nat} (h : i < L.length) : rd_T71 L (i : Int) = L[i] := by
  unfold rd_T71
  rw [Int.toNat_natCast, List.getD_eq_getElem?_getD, List.getElem?_eq_getElem h]
  rfl
theorem rdP {L : List S71} (n : Int) : rd_T71 L (n - 2) = L.getD (n - 2).toNat ⟨0, 0, 0⟩ := rfl
theorem l8Var_val (c : Int) {L : List S71} {n : Int} (hp : Pl L n) (hl : L.length ≤ 1000000000) : spec_l8Var.f c L n = some (dvar c L n) := by
  unfold spec_l8Var.f dvar
  have h1 := hp.1
  have h2 := hp.2
  by_cases h : n < 2
  · rw [if_pos h, if_pos h]
  · rw [if_neg h, if_neg h, w_id (by omega) (by omega), if_pos (by omega), if_pos (by omega), rdP]
/-- What the reference asks of a fork, the places of which are ahead of it. -/
def FOk (vars : Int) (L : List S71) (x : S71) (most : Int) : Prop := (0 ≤ x.f0 ∧ x.f0 ≤ vars - 1) ∧ (0 ≤ x.f1 ∧ x.f1 ≤ most) ∧ (0 ≤ x.f2 ∧ x.f2 ≤ most) ∧ x.f0 < dvar vars L x.f1 ∧ x.f0 < dvar vars L x.f2
theorem l8Fork_dec (vars : Int) (L : List S71) (x : S71) (most : Int) (hv : -9223372036854775807 ≤ vars ∧ vars ≤ 9223372036854775807) (hm : most ≤ (L.length : Int) + 1) (hl : L.length ≤ 1000000000) :
    ∃ b, Ev (fun k => spec_l8Fork.f k vars L x.f0 x.f1 x.f2 most) b ∧ (b = true ↔ FOk vars L x most) := by
  have hj : ∃ b, Ev (fun k => spec_l8Fork.j0 k true vars L x.f0 x.f1 x.f2) b ∧ b = false := ⟨false, Ev.step (Ev.pos rfl (Ev.val _)) (fun k => spec_l8Fork.j0.eq_2 ..), rfl⟩
  obtain ⟨b0, e0, rfl⟩ := hj
  unfold spec_l8Fork.f
  simp only [l1In_val, Option.bind_some, w_id (show -9223372036854775808 ≤ vars - 1 by omega) (by omega)]
  by_cases c1 : 0 ≤ x.f0 ∧ x.f0 ≤ vars - 1
  · rw [decide_eq_true c1]
    by_cases c2 : 0 ≤ x.f1 ∧ x.f1 ≤ most
    · rw [decide_eq_true c2]
      by_cases c3 : 0 ≤ x.f2 ∧ x.f2 ≤ most
      · rw [decide_eq_true c3]
        have p1 : Pl L x.f1 := ⟨c2.1, by omega⟩
        have p2 : Pl L x.f2 := ⟨c3.1, by omega⟩
        by_cases c4 : x.f0 < dvar vars L x.f1
        · refine ⟨decide (x.f0 < dvar vars L x.f2), Ev.pos rfl (Ev.pos rfl (Ev.step (Ev.neg (by decide) (Ev.bind (Ev.const (l8Var_val vars p1 hl)) (Ev.pos c4 (Ev.bind (Ev.const (l8Var_val vars p2 hl)) (Ev.val (decide (x.f0 < dvar vars L x.f2))))))) (fun k => spec_l8Fork.j0.eq_2 ..))), ?_⟩
          rw [decide_eq_true_eq]
          exact ⟨fun h => ⟨c1, c2, c3, c4, h⟩, fun h => h.2.2.2.2⟩
        · refine ⟨false, Ev.pos rfl (Ev.pos rfl (Ev.step (Ev.neg (by decide) (Ev.bind (Ev.const (l8Var_val vars p1 hl)) (Ev.neg c4 (Ev.val _)))) (fun k => spec_l8Fork.j0.eq_2 ..))), ?_⟩
          exact ⟨fun h => (by cases h), fun h => absurd h.2.2.2.1 c4⟩
      · rw [decide_eq_false c3]
        exact ⟨false, Ev.pos rfl (Ev.pos rfl e0), fun h => (by cases h), fun h => absurd h.2.2.1 c3⟩
    · rw [decide_eq_false c2]
      exact ⟨false, Ev.pos rfl (Ev.neg (by decide) e0), fun h => (by cases h), fun h => absurd h.2.1 c2⟩
  · rw [decide_eq_false c1]
    exact ⟨false, Ev.neg (by decide) e0, fun h => (by cases h), fun h => absurd h.1 c1⟩
/-- What is asked of the fork at i. -/
def OkAt (vars : Int) (L : List S71) (i : Nat) (h : i < L.length) : Prop := FOk vars L L[i] ((i : Int) + 1) ∧ L[i].f1 ≠ L[i].f2 ∧ L[i] ∉ L.take i
theorem dv_iff (vars : Int) (L : List S71) : DV vars L ↔ (0 ≤ vars ∧ vars ≤ 12) ∧ L.length ≤ 2000 ∧ ∀ i (h : i < L.length), OkAt vars L i h := by
  constructor
  · intro h
    refine ⟨⟨h.v0, h.v12⟩, h.len, fun i hi => ?_⟩
    obtain ⟨a1, a2, a3, a4, a5, a6, a7, a8, a9⟩ := h.ok i _ (List.getElem?_eq_getElem hi)
    exact ⟨⟨⟨a1, by omega⟩, ⟨a3, a4⟩, ⟨a5, a6⟩, a8, a9⟩, a7, h.nd i _ (List.getElem?_eq_getElem hi)⟩
  · rintro ⟨⟨h1, h2⟩, h3, h4⟩
    refine ⟨h1, h2, h3, fun i x hx => ?_, fun i x hx => ?_⟩
    · obtain ⟨hi, rfl⟩ := List.getElem?_eq_some_iff.1 hx
      exact (h4 i hi).2.2
    · obtain ⟨hi, rfl⟩ := List.getElem?_eq_some_iff.1 hx
      obtain ⟨⟨a1, a2, a3, a4, a5⟩, b, _⟩ := h4 i hi
      exact ⟨a1.1, by omega, a2.1, a2.2, a3.1, a3.2, b, a4, a5⟩
theorem eqF (a : S71) (p q r : Int) : ((a.f0 == p && (a.f1 == q && (a.f2 == r))) = true) ↔ a = ⟨p, q, r⟩ := by
  obtain ⟨x, y, z⟩ := a
  simp
theorem mem_take {L : List S71} {i : Nat} {x : S71} : x ∈ L.take i ↔ ∃ (j : Nat) (_ : j < i) (hl : j < L.length), L[j] = x := by
  rw [List.mem_iff_getElem?]
  constructor
  · rintro ⟨j, hj⟩
    rw [List.getElem?_take] at hj
    split at hj
    · next hji =>
      obtain ⟨hl, e⟩ := List.getElem?_eq_some_iff.1 hj
      exact ⟨j, hji, hl, e⟩
    · cases hj
  · rintro ⟨j, hji, hl, e⟩
    exact ⟨j, by rw [List.getElem?_take, if_pos hji, List.getElem?_eq_getElem hl, e]⟩
theorem sv_l1 (vars : Int) (L : List S71) (hl : L.length ≤ 2000) (i : Nat) (hi : i < L.length) (rest : Bool) (hrest : Ev (fun k => spec_DiagramValid.l0 k (wrap64 ((i : Int) + 1)) vars L) rest) : ∀ (d j : Nat), j + d = i → (∀ q (hq : q < L.length), q < j → L[q] ≠ L[i]) →
    Ev (fun k => spec_DiagramValid.l1 k (i : Int) (j : Int) vars L L[i].f0 L[i].f1 L[i].f2) (if L[i] ∈ L.take i then false else rest) := by
  intro d
  induction d with
  | zero =>
    intro j hj hn
    have : ¬ L[i] ∈ L.take i := fun h => by
      obtain ⟨q, h1, h2, h3⟩ := mem_take.1 h
      exact hn q h2 (by omega) h3
    rw [if_neg this]
    exact Ev.step (Ev.neg (by omega) hrest) (fun k => spec_DiagramValid.l1.eq_2 ..)
  | succ d ih =>
    intro j hj hn
    have hjl : j < L.length := by omega
    refine Ev.step ?_ (fun k => spec_DiagramValid.l1.eq_2 ..)
    refine Ev.pos (by omega) (Ev.pos (by omega) (Ev.pos (by omega) ?_))
    rw [rdF hjl]
    by_cases e : L[j] = L[i]
    · rw [if_pos (mem_take.2 ⟨j, by omega, hjl, e⟩)]
      exact Ev.pos ((eqF _ _ _ _).2 e) (Ev.val _)
    · refine Ev.neg (fun h => e ((eqF _ _ _ _).1 h)) ?_
      rw [w_id (by omega) (by omega), show (j : Int) + 1 = ((j + 1 : Nat) : Int) by omega]
      exact ih (j + 1) (by omega) (fun q hq hqj => by
        by_cases c : q = j
        · subst c
          exact e
        · exact hn q hq (by omega))
theorem sv_l0 (vars : Int) (L : List S71) (hv : 0 ≤ vars ∧ vars ≤ 12) (hl : L.length ≤ 2000) : ∀ (d i : Nat), i + d = L.length →
    ∃ b, Ev (fun k => spec_DiagramValid.l0 k (i : Int) vars L) b ∧ (b = true ↔ ∀ q (h : q < L.length), i ≤ q → OkAt vars L q h) := by
  intro d
  induction d with
  | zero =>
    intro i hi
    exact ⟨true, Ev.step (Ev.neg (by omega) (Ev.val _)) (fun k => spec_DiagramValid.l0.eq_2 ..), fun _ q h hq => absurd h (by omega), fun _ => rfl⟩
  | succ d ih =>
    intro i hi
    have hil : i < L.length := by omega
    obtain ⟨rest, er, hr⟩ := ih (i + 1) (by omega)
    have hw : wrap64 ((i : Int) + 1) = ((i + 1 : Nat) : Int) := by rw [w_id (by omega) (by omega)]; omega
    obtain ⟨b1, e1, h1⟩ := l8Fork_dec vars L L[i] ((i : Int) + 1) (by omega) (by omega) (by omega)
    have split_ : (∀ q (h : q < L.length), i ≤ q → OkAt vars L q h) ↔ OkAt vars L i hil ∧ ∀ q (h : q < L.length), i + 1 ≤ q → OkAt vars L q h := by
      constructor
      · intro h
        exact ⟨h i hil (Nat.le_refl _), fun q hq hq2 => h q hq (by omega)⟩
      · rintro ⟨ha, hb⟩ q hq hq2
        by_cases c : i = q
        · subst c
          exact ha
        · exact hb q hq (by omega)
    have e1' : Ev (fun k => spec_l8Fork.f k vars L (rd_T71 L (i : Int)).f0 (rd_T71 L (i : Int)).f1 (rd_T71 L (i : Int)).f2 (wrap64 ((i : Int) + 1))) b1 := by
      rw [rdF hil, w_id (by omega) (by omega)]
      exact e1
    have jt : ∀ b, Ev (fun k => spec_DiagramValid.j2 k (i : Int) b vars L (rd_T71 L (i : Int)).f0 (rd_T71 L (i : Int)).f1 (rd_T71 L (i : Int)).f2) (if b = true then false else if L[i] ∈ L.take i then false else rest) := by
      intro b
      refine Ev.step ?_ (fun k => spec_DiagramValid.j2.eq_2 ..)
      cases b with
      | true => exact Ev.pos rfl (Ev.val _)
      | false =>
        refine Ev.neg (by decide) ?_
        rw [rdF hil]
        exact sv_l1 vars L hl i hil rest (by rw [hw]; exact er) i 0 (by omega) (fun q _ hq => absurd hq (by omega))
    cases b1 with
    | false =>
      refine ⟨false, Ev.step (Ev.pos (by omega) (Ev.pos (by omega) (Ev.bind e1' (Ev.neg (by decide) (jt true))))) (fun k => spec_DiagramValid.l0.eq_2 ..), fun h => (by cases h), fun h => ?_⟩
      exact absurd (h1.2 (h i hil (Nat.le_refl _)).1) (by decide)
    | true =>
      refine ⟨_, Ev.step (Ev.pos (by omega) (Ev.pos (by omega) (Ev.bind e1' (Ev.pos rfl (jt _))))) (fun k => spec_DiagramValid.l0.eq_2 ..), ?_⟩
      rw [rdF hil, split_]
      by_cases c1 : L[i].f1 = L[i].f2
      · rw [if_pos (beq_iff_eq.mpr c1)]
        exact ⟨fun h => (by cases h), fun h => absurd c1 h.1.2.1⟩
      · rw [if_neg (by simpa using c1)]
        by_cases c2 : L[i] ∈ L.take i
        · rw [if_pos c2]
          exact ⟨fun h => (by cases h), fun h => absurd c2 h.1.2.2⟩
        · rw [if_neg c2, hr]
          exact ⟨fun h => ⟨⟨h1.1 rfl, c1, c2⟩, h⟩, fun h => h.2⟩
theorem spec_dv (vars : Int) (L : List S71) : ∃ b, Ev (fun k => spec_DiagramValid.f k vars L) b ∧ (b = true ↔ DV vars L) := by
  unfold spec_DiagramValid.f
  simp only [l1In_val, Option.bind_some]
  have e0 : Ev (fun k => spec_DiagramValid.j0 k true vars L) false := Ev.step (Ev.pos rfl (Ev.val _)) (fun k => spec_DiagramValid.j0.eq_2 ..)
  by_cases c1 : 0 ≤ vars ∧ vars ≤ 12
  · rw [decide_eq_true c1]
    by_cases c2 : (L.length : Int) > 2000
    · rw [decide_eq_true c2]
      exact ⟨false, Ev.pos rfl e0, fun h => (by cases h), fun h => by have := h.len; omega⟩
    · rw [decide_eq_false c2]
      obtain ⟨b, hb, h2⟩ := sv_l0 vars L c1 (by omega) L.length 0 (by omega)
      refine ⟨b, Ev.pos rfl (Ev.step (Ev.neg (by decide) hb) (fun k => spec_DiagramValid.j0.eq_2 ..)), ?_⟩
      rw [h2, dv_iff]
      exact ⟨fun h => ⟨c1, by omega, fun i hi => h i hi (Nat.zero_le _)⟩, fun h q hq _ => h.2.2 q hq⟩
  · rw [decide_eq_false c1]
    exact ⟨false, Ev.neg (by decide) e0, fun h => (by cases h), fun h => absurd ⟨h.v0, h.v12⟩ c1⟩
theorem dfind_no {L : List S71} {x : S71} (hn : ∀ q (hq : q < L.length), L[q] ≠ x) : dfind L x = none := by
  unfold dfind
  rw [List.findIdx?_eq_none_iff]
  intro y hy
  obtain ⟨q, hq, rfl⟩ := List.mem_iff_getElem.1 hy
  simpa using hn q hq
/-! #### the program's diagrams -/
theorem in_val (a b c : Int) : impl_in.f a b c = some (decide (b ≤ a ∧ a ≤ c)) := by
  unfold impl_in.f
  by_cases h : a ≥ b
  · rw [if_pos h]
    congr 1
    rw [decide_eq_decide]
    constructor
    · intro h2; exact ⟨h, h2⟩
    · intro h2; exact h2.2
  · rw [if_neg h]
    congr 1
    symm
    rw [decide_eq_false_iff_not]
    intro h2
    exact h h2.1
theorem varAt_val (a : Int) {L : List S71} {n : Int} (hp : Pl L n) (hl : L.length ≤ 1000000000) : impl_Diagram_varAt.f a L n = some (dvar 12 L n) := by
  unfold impl_Diagram_varAt.f dvar
  have h1 := hp.1
  have h2 := hp.2
  by_cases h : n < 2
  · rw [if_pos h, if_pos h]
  · rw [if_neg h, if_neg h, w_id (by omega) (by omega), if_pos (by omega), if_pos (by omega), rdP]
def decPl (L : List S71) (n : Int) : Decidable (Pl L n) := inferInstanceAs (Decidable (_ ∧ _))
theorem isPlace_val (a : Int) {L : List S71} (n : Int) (hl : L.length ≤ 1000000000) : impl_Diagram_isPlace.f a L n = some (@decide (Pl L n) (decPl L n)) := by
  unfold impl_Diagram_isPlace.f
  rw [in_val, w_id (by omega) (by omega)]
  rfl
/-- Where variables are few, it is the same to what the constants are held. -/
theorem dvar_lt {vars v : Int} (L : List S71) (n : Int) (h : v < vars) (h12 : vars ≤ 12) : v < dvar 12 L n ↔ v < dvar vars L n := by
  unfold dvar
  split
  · omega
  · exact Iff.rfl
theorem keyI {n : Int} (h : 0 ≤ n) (h2 : n ≤ 1000000000) : KeyI n := ⟨h, by omega⟩
theorem iv_bad (vars : Int) (L : List S71) (hv : 0 ≤ vars ∧ vars ≤ 12) (hl : L.length ≤ 2000) (i : Nat) (hi : i < L.length) : ∃ b, impl_DiagramValid.bad vars L i L[i] = some b ∧ (b = false ↔ OkAt vars L i hi) := by
  unfold impl_DiagramValid.bad OkAt FOk
  simp only [in_val, Option.bind_some, w_id (show -9223372036854775808 ≤ vars - 1 by omega) (by omega), w_id (show -9223372036854775808 ≤ (i : Int) + 1 by omega) (by omega), decide_eq_false_iff_not]
  by_cases c1 : 0 ≤ L[i].f0 ∧ L[i].f0 ≤ vars - 1
  · rw [if_neg (by simpa using c1)]
    by_cases c2 : 0 ≤ L[i].f1 ∧ L[i].f1 ≤ (i : Int) + 1
    · rw [if_neg (by simpa using c2)]
      by_cases c3 : 0 ≤ L[i].f2 ∧ L[i].f2 ≤ (i : Int) + 1
      · rw [if_neg (by simpa using c3)]
        have p1 : Pl L L[i].f1 := ⟨c2.1, by omega⟩
        have p2 : Pl L L[i].f2 := ⟨c3.1, by omega⟩
        by_cases c4 : L[i].f1 = L[i].f2
        · rw [if_pos c4]
          exact ⟨true, rfl, fun h => (by cases h), fun h => absurd c4 h.2.1⟩
        · rw [if_neg c4, varAt_val _ p1 (by omega), Option.bind_some]
          by_cases c5 : dvar 12 L L[i].f1 ≤ L[i].f0
          · rw [if_pos c5]
            exact ⟨true, rfl, fun h => (by cases h), fun h => absurd ((dvar_lt L _ (by omega) hv.2).2 h.1.2.2.2.1) (by omega)⟩
          · rw [if_neg c5, varAt_val _ p2 (by omega), Option.bind_some]
            by_cases c6 : dvar 12 L L[i].f2 ≤ L[i].f0
            · rw [if_pos c6]
              exact ⟨true, rfl, fun h => (by cases h), fun h => absurd ((dvar_lt L _ (by omega) hv.2).2 h.1.2.2.2.2) (by omega)⟩
            · rw [if_neg c6, if_pos ⟨keyI c1.1 (by omega), keyI c2.1 (by omega), keyI c3.1 (by omega)⟩]
              refine ⟨_, rfl, ?_⟩
              rw [decide_eq_false_iff_not]
              exact ⟨fun h => ⟨⟨c1, c2, c3, (dvar_lt L _ (by omega) hv.2).1 (by omega), (dvar_lt L _ (by omega) hv.2).1 (by omega)⟩, c4, h⟩, fun h => h.2.2⟩
      · rw [if_pos (by simpa using c3)]
        exact ⟨true, rfl, fun h => (by cases h), fun h => absurd h.1.2.2.1 c3⟩
    · rw [if_pos (by simpa using c2)]
      exact ⟨true, rfl, fun h => (by cases h), fun h => absurd h.1.2.1 c2⟩
  · rw [if_pos (by simpa using c1)]
    exact ⟨true, rfl, fun h => (by cases h), fun h => absurd h.1.1 c1⟩
theorem iv_l0 (vars : Int) (L : List S71) (hv : 0 ≤ vars ∧ vars ≤ 12) (hl : L.length ≤ 2000) : ∀ (d i : Nat), i + d = L.length → ∃ b, impl_DiagramValid.l0 vars L d i = some b ∧ (b = true ↔ ∀ q (h : q < L.length), i ≤ q → OkAt vars L q h) := by
  intro d
  induction d with
  | zero =>
    intro i hi
    exact ⟨true, rfl, fun _ q h hq => absurd h (by omega), fun _ => rfl⟩
  | succ d ih =>
    intro i hi
    have hil : i < L.length := by omega
    obtain ⟨rest, er, hr⟩ := ih (i + 1) (by omega)
    obtain ⟨b, eb, hb⟩ := iv_bad vars L hv hl i hil
    unfold impl_DiagramValid.l0
    rw [rdF hil, eb, Option.bind_some]
    cases b with
    | true =>
      refine ⟨false, rfl, fun h => (by cases h), fun h => ?_⟩
      exact absurd (hb.2 (h i hil (Nat.le_refl _))) (by decide)
    | false =>
      refine ⟨rest, er, ?_⟩
      rw [hr]
      constructor
      · intro h q hq hq2
        by_cases c : i = q
        · subst c
          exact hb.1 rfl
        · exact h q hq (by omega)
      · intro h q hq hq2
        exact h q hq (by omega)
theorem impl_dv (vars : Int) (L : List S71) : ∃ b, impl_DiagramValid.f vars L = some b ∧ (b = true ↔ DV vars L) := by
  unfold impl_DiagramValid.f
  simp only [in_val, Option.bind_some]
  by_cases c1 : 0 ≤ vars ∧ vars ≤ 12
  · rw [if_neg (by simpa using c1)]
    by_cases c2 : (L.length : Int) > 2000
    · rw [if_pos c2]
      exact ⟨false, rfl, fun h => (by cases h), fun h => by have := h.len; omega⟩
    · rw [if_neg c2]
      obtain ⟨b, hb, h2⟩ := iv_l0 vars L c1 (by omega) L.length 0 (by omega)
      refine ⟨b, hb, ?_⟩
      rw [h2, dv_iff]
      exact ⟨fun h => ⟨c1, by omega, fun i hi => h i hi (Nat.zero_le _)⟩, fun h q hq _ => h.2.2 q hq⟩
  · rw [if_pos (by simpa using c1)]
    exact ⟨false, rfl, fun h => (by cases h), fun h => absurd ⟨h.v0, h.v12⟩ c1⟩
/-- Where each fork stands. -/
def seenP (L : List S71) (x : S71) : Option Int := (dfind L x).map (fun i => (i : Int) + 2)
theorem seen_take {L : List S71} (hn : NoDup L) : ∀ i, i ≤ L.length → impl_forkingOf.seen L i = seenP (L.take i) := by
  intro i
  induction i with
  | zero =>
    intro _
    funext x
    rfl
  | succ i ih =>
    intro hi
    have hil : i < L.length := by omega
    funext x
    show (if x = rd_T71 L (i : Int) then some ((i : Int) + 2) else impl_forkingOf.seen L i x) = _
    rw [rdF hil, ih (by omega)]
    have e : L.take (i + 1) = L.take i ++ [L[i]] := by
      rw [List.take_add_one, List.getElem?_eq_getElem hil]
      rfl
    have hlen : (L.take i).length = i := by rw [List.length_take]; omega
    have hno : dfind (L.take i) L[i] = none := by
      cases hd : dfind (L.take i) L[i] with
      | none => rfl
      | some j =>
        have := dfind_some hd
        exact absurd (List.mem_of_getElem? this) (hn i _ (List.getElem?_eq_getElem hil))
    unfold seenP
    rw [e]
    by_cases c : x = L[i]
    · rw [if_pos c, c, dfind_new hno []]
      simp [hlen]
    · rw [if_neg c]
      cases hd : dfind (L.take i) x with
      | some j => rw [dfind_append hd]
      | none =>
        have : dfind (L.take i ++ [L[i]]) x = none := dfind_no (fun q hq e2 => by
          by_cases hqi : q < (L.take i).length
          · rw [List.getElem_append_left hqi] at e2
            exact dfind_none hd (e2 ▸ List.getElem_mem hqi)
          · have hq' : q = (L.take i).length := by
              have := hq
              rw [List.length_append, List.length_singleton] at this
              omega
            subst hq'
            rw [List.getElem_append_right (Nat.le_refl _)] at e2
            simp at e2
            exact c e2.symm)
        rw [this]
theorem okF_of {vars : Int} {L : List S71} (h : DV vars L) {x : S71} (hx : x ∈ L) : okF x := by
  obtain ⟨i, hi⟩ := List.mem_iff_getElem?.1 hx
  obtain ⟨a1, a2, a3, a4, a5, a6, _⟩ := h.ok i x hi
  have := h.v12
  have := (List.getElem?_eq_some_iff.1 hi).1
  have := h.len
  exact ⟨keyI a1 (by omega), keyI a3 (by omega), keyI a5 (by omega)⟩
/-- A diagram that grows, as the program holds it: nothing is done with it yet that is not so. -/
def fs0 (vars : Int) (L : List S71) : FS := ⟨vars, L, seenP L, false, fun _ => none⟩
theorem clone_val (L : List S71) (h : L.length ≤ 1000000000) : impl_Fork_97.f L = some L := by
  unfold impl_Fork_97.f
  simp only [Option.bind_some, List.length_nil, List.nil_append]
  rw [if_pos (by omega)]
theorem clone2_val (L : List S71) (h : L.length ≤ 1000000000) : impl_Fork_98.f L = some L := by
  unfold impl_Fork_98.f
  rw [if_pos (by omega)]
theorem forkingOf_val {vars : Int} {L : List S71} (h : DV vars L) : impl_forkingOf.f vars L = some (fs0 vars L) := by
  unfold impl_forkingOf.f
  rw [clone_val L (by have := h.len; omega), Option.bind_some, if_pos (fun x hx => okF_of h hx), seen_take h.nd _ (Nat.le_refl _), List.take_length]
  rfl
theorem fork_val (s : FS) (v lo hi : Int) (hk : okF ⟨v, lo, hi⟩) (hlo : 0 ≤ lo) (hhi : 0 ≤ hi) (hs : s.seen = seenP s.forks) :
    ∃ s' r, impl_forking_fork.f s v lo hi = some (s', r) ∧ s'.vars = s.vars ∧ s'.memo = s.memo ∧ s'.seen = seenP s'.forks ∧ s'.forks = (dadd s.forks v lo hi).1 ∧ (if (dadd s.forks v lo hi).2 < 0 then s'.full = true ∧ r = 0 else s'.full = s.full ∧ r = (dadd s.forks v lo hi).2) := by
  unfold impl_forking_fork.f dadd
  rw [if_neg (show ¬ (lo < 0 ∨ hi < 0) by omega)]
  by_cases c1 : lo = hi
  · rw [if_pos c1, if_pos c1]
    exact ⟨s, lo, rfl, rfl, rfl, hs, rfl, by rw [if_neg (by omega)]; exact ⟨rfl, rfl⟩⟩
  rw [if_neg c1, if_neg c1, if_pos hk, hs]
  cases hd : dfind s.forks ⟨v, lo, hi⟩ with
  | some i =>
    have e : seenP s.forks ⟨v, lo, hi⟩ = some ((i : Int) + 2) := by unfold seenP; rw [hd]; rfl
    rw [e]
    exact ⟨s, _, rfl, rfl, rfl, hs, rfl, by rw [if_neg (by show ¬ ((_ : Nat) : Int) + 2 < 0; omega)]; exact ⟨rfl, rfl⟩⟩
  | none =>
    have e : seenP s.forks ⟨v, lo, hi⟩ = none := by unfold seenP; rw [hd]; rfl
    rw [e]
    by_cases c2 : 2000 ≤ s.forks.length
    · simp only
      rw [if_pos (by omega), if_pos c2]
      exact ⟨_, _, rfl, rfl, rfl, rfl, rfl, by rw [if_pos (show (-1 : Int) < 0 by decide)]; exact ⟨rfl, rfl⟩⟩
    · simp only
      rw [if_neg (by omega), if_neg c2]
      refine ⟨_, _, rfl, rfl, rfl, ?_, rfl, by rw [if_neg (by show ¬ ((_ : Nat) : Int) + 2 < 0; omega)]; exact ⟨rfl, rfl⟩⟩
      funext y
      show (if y = ⟨v, lo, hi⟩ then some ((s.forks.length : Int) + 2) else seenP s.forks y) = seenP (s.forks ++ [⟨v, lo, hi⟩]) y
      unfold seenP
      by_cases c : y = ⟨v, lo, hi⟩
      · rw [if_pos c, c, dfind_new hd []]
        rfl
      · rw [if_neg c]
        cases hy : dfind s.forks y with
        | some j => rw [dfind_append hy]
        | none =>
          have : dfind (s.forks ++ [⟨v, lo, hi⟩]) y = none := dfind_no (fun q hq e2 => by
            by_cases hqi : q < s.forks.length
            · rw [List.getElem_append_left hqi] at e2
              exact dfind_none hy (e2 ▸ List.getElem_mem hqi)
            · have hq' : q = s.forks.length := by
                have := hq
                rw [List.length_append, List.length_singleton] at this
                omega
              subst hq'
              rw [List.getElem_append_right (Nat.le_refl _)] at e2
              simp at e2
              exact c e2.symm)
          rw [this]
theorem done_val (s : FS) (n : Int) (hl : s.forks.length ≤ 2000) : impl_forking_done.f s n = some (if s.full = true then (0, [], -1) else (s.vars, s.forks, n)) := by
  unfold impl_forking_done.f
  by_cases c : s.full = true
  · rw [if_pos c, if_pos c]
  · rw [if_neg c, if_neg c, clone2_val _ (by omega)]
    rfl
/-- A diagram and a place, or nothing and -1. -/
def told (vars : Int) (p : List S71 × Int) : Int × List S71 × Int := if p.2 < 0 then (0, [], -1) else (vars, p.1, p.2)
/-! #### what is done with two places, as a tree of decisions (0 and, 1 or, 2 exactly one) -/
def gat (L : List S71) (n v : Int) (hi : Bool) : Int :=
  if n < 2 then n else if (L.getD (n - 2).toNat ⟨0, 0, 0⟩).f0 = v then (if hi = true then (L.getD (n - 2).toNat ⟨0, 0, 0⟩).f2 else (L.getD (n - 2).toNat ⟨0, 0, 0⟩).f1) else n
theorem gat_ext {L L2 : List S71} {n : Int} (h : Pl L n) (he : L <+: L2) (v : Int) (hi : Bool) : gat L2 n v hi = gat L n v hi := by
  unfold gat
  by_cases h2 : n < 2
  · rw [if_pos h2, if_pos h2]
  · rw [if_neg h2, if_neg h2, getD_ext he (by have := h.2; omega)]
theorem gat_ok {vars : Int} {L : List S71} (h : DV vars L) {n v : Int} (hp : Pl L n) (hv : v ≤ dvar vars L n) (hvv : v < vars) (hi : Bool) : Pl L (gat L n v hi) ∧ v < dvar vars L (gat L n v hi) := by
  unfold gat
  by_cases h2 : n < 2
  · rw [if_pos h2]
    refine ⟨hp, ?_⟩
    unfold dvar
    rw [if_pos h2]
    exact hvv
  · rw [if_neg h2]
    obtain ⟨x, hx, hd, e, a0, a1, p1, p2, _, _, _, q1, q2⟩ := h.at_ hp h2
    rw [hd]
    by_cases c : x.f0 = v
    · rw [if_pos c]
      cases hi with
      | true => rw [if_pos rfl]; exact ⟨p2, by omega⟩
      | false => rw [if_neg (by decide)]; exact ⟨p1, by omega⟩
    · rw [if_neg c]
      exact ⟨hp, by omega⟩
theorem dvar_two {vars : Int} {L : List S71} (h : DV vars L) {n : Int} (hp : Pl L n) : dvar vars L n < vars ↔ ¬ n < 2 := by
  constructor
  · intro h1 h2
    unfold dvar at h1
    rw [if_pos h2] at h1
    omega
  · intro h2
    obtain ⟨x, _, _, e, _, a1, _⟩ := h.at_ hp h2
    omega
theorem dvar_const {vars : Int} {L : List S71} {n : Int} (h : n < 2) : dvar vars L n = vars := by
  unfold dvar
  rw [if_pos h]
/-! #### what is done with two places: the reference and the program -/
theorem add_val (vars v lo hi : Int) (L : List S71) (hl : L.length ≤ 2000) : spec_l8Add.f vars L v lo hi = some (vars, (dadd L v lo hi).1, (dadd L v lo hi).2) := by
  unfold spec_l8Add.f dadd
  by_cases c1 : lo < 0 ∨ hi < 0
  · rw [if_pos c1, if_pos c1]
  rw [if_neg c1, if_neg c1]
  by_cases c2 : lo = hi
  · rw [if_pos c2, if_pos c2]
  rw [if_neg c2, if_neg c2, if_pos (show L.length ≤ 1000000000000 by omega)]
  show (match dfind L ⟨v, lo, hi⟩ with | some i => _ | none => _) = _
  cases dfind L ⟨v, lo, hi⟩ with
  | some i => rfl
  | none =>
    simp only
    by_cases c3 : 2000 ≤ L.length
    · rw [if_pos c3, if_pos c3]
    · rw [if_neg c3, if_neg c3]
theorem l8At_val {vars v : Int} {L : List S71} (h : DV vars L) {n : Int} (hp : Pl L n) (hv : v < vars) (bit : Int) : spec_l8At.f vars L n v bit = some (gat L n v (decide (bit = 1))) := by
  have hl := h.len
  have h0 := hp.1
  have h1 := hp.2
  unfold spec_l8At.f gat
  rw [l8Var_val vars hp (by omega), Option.bind_some]
  unfold dvar
  by_cases c : n < 2
  · rw [if_pos c, if_pos c, if_neg (by omega)]
  · rw [if_neg c, if_neg c, w_id (by omega) (by omega), rdP]
    by_cases c2 : (L.getD (n - 2).toNat ⟨0, 0, 0⟩).f0 = v
    · rw [if_pos c2, if_pos c2]
      by_cases c3 : bit = 1
      · rw [if_pos c3, if_pos (show decide (bit = 1) = true from decide_eq_true c3), if_pos (show 0 ≤ n - 2 by omega), if_pos (show n - 2 < (L.length : Int) by omega)]
      · rw [if_neg c3, if_neg (show ¬ decide (bit = 1) = true by simpa using c3), if_pos (show 0 ≤ n - 2 by omega), if_pos (show n - 2 < (L.length : Int) by omega)]
    · rw [if_neg c2, if_neg c2]
theorem ins_fork (L : List S71) (v : Int) (lo hi : DT) : ins L (.fork v lo hi) = if (ins L lo).2 < 0 then (L, -1) else dadd (ins (ins L lo).1 hi).1 v (ins L lo).2 (ins (ins L lo).1 hi).2 := by rw [ins]
theorem place_val {vars : Int} (L : List S71) (n : Int) (hl : L.length ≤ 1000000000) : spec_l8Place.f vars L n = some (@decide (Pl L n) (decPl L n)) := by
  unfold spec_l8Place.f
  rw [l1In_val, w_id (by omega) (by omega)]
  rfl
theorem goes_val {vars v : Int} {s : FS} (hs : s.vars = vars) (h : DV vars s.forks) {n : Int} (hp : Pl s.forks n) (hv : v < vars) (bit : Int) : impl_forking_goes.f s n v bit = some (gat s.forks n v (decide (bit = 1))) := by
  have hl := h.len
  have h0 := hp.1
  have h1 := hp.2
  have h12 := h.v12
  unfold impl_forking_goes.f gat
  rw [varAt_val s.vars hp (by omega), Option.bind_some]
  unfold dvar
  by_cases c : n < 2
  · rw [if_pos c, if_pos c, if_neg (by omega)]
  · rw [if_neg c, if_neg c, w_id (by omega) (by omega), rdP]
    by_cases c2 : (s.forks.getD (n - 2).toNat ⟨0, 0, 0⟩).f0 = v
    · rw [if_pos c2, if_pos c2]
      by_cases c3 : bit = 1
      · rw [if_pos c3, if_pos (show decide (bit = 1) = true from decide_eq_true c3), if_pos (show 0 ≤ n - 2 by omega), if_pos (show n - 2 < (s.forks.length : Int) by omega)]
      · rw [if_neg c3, if_neg (show ¬ decide (bit = 1) = true by simpa using c3), if_pos (show 0 ≤ n - 2 by omega), if_pos (show n - 2 < (s.forks.length : Int) by omega)]
    · rw [if_neg c2, if_neg c2]
theorem dvar12 {vars : Int} {L : List S71} {n : Int} (c : ¬ n < 2) : dvar 12 L n = dvar vars L n := by
  unfold dvar
  rw [if_neg c, if_neg c]
/-! #### rows of values as a tree -/
def rowsT : Nat → Int → List Int → DT
  | 0, _, vs => .leaf (rd vs 0)
  | m + 1, v, vs => .fork v (rowsT m (v + 1) (vs.take (vs.length / 2))) (rowsT m (v + 1) (vs.drop (vs.length / 2)))
def BitRow (vs : List Int) : Prop := ∀ x ∈ vs, x = 0 ∨ x = 1
theorem BitRow.take {vs : List Int} (h : BitRow vs) (n : Nat) : BitRow (vs.take n) := fun x hx => h x (List.mem_of_mem_take hx)
theorem BitRow.drop {vs : List Int} (h : BitRow vs) (n : Nat) : BitRow (vs.drop n) := fun x hx => h x (List.mem_of_mem_drop hx)
theorem half_len {vs : List Int} {m : Nat} (h : vs.length = 2 ^ (m + 1)) : (vs.take (vs.length / 2)).length = 2 ^ m ∧ (vs.drop (vs.length / 2)).length = 2 ^ m := by
  rw [List.length_take, List.length_drop, h, Nat.pow_succ]
  omega
theorem rowsT_ok {vars : Int} {L : List S71} (hL : DV vars L) : ∀ (m : Nat) (v : Int) (vs : List Int), 0 ≤ v → v + m = vars → vs.length = 2 ^ m → BitRow vs → TOk vars L v (rowsT m v vs) := by
  intro m
  induction m with
  | zero =>
    intro v vs h0 hv hl hb
    unfold rowsT
    have hm : rd vs 0 ∈ vs := by
      have : 0 < vs.length := by rw [hl]; decide
      rw [show rd vs 0 = vs[0] from rd_lt this]
      exact List.getElem_mem _
    have hx := hb _ hm
    have hd : dvar vars L (rd vs 0) = vars := by
      unfold dvar
      rw [if_pos (by omega)]
    refine ⟨⟨by omega, by omega⟩, ?_⟩
    rw [hd]
    omega
  | succ m ih =>
    intro v vs h0 hv hl hb
    obtain ⟨h1, h2⟩ := half_len hl
    unfold rowsT
    exact ⟨Int.le_refl _, h0, by omega, ih (v + 1) _ (by omega) (by omega) h1 (hb.take _), ih (v + 1) _ (by omega) (by omega) h2 (hb.drop _)⟩
theorem spec_rows {vars : Int} : ∀ (m : Nat) (L : List S71) (v : Int) (vs : List Int), DV vars L → 0 ≤ v → v + m = vars → vs.length = 2 ^ m → BitRow vs →
    Ev (fun k => spec_l8Rows.f k vars L vs v) (vars, (ins L (rowsT m v vs)).1, (ins L (rowsT m v vs)).2) := by
  intro m
  induction m with
  | zero =>
    intro L v vs h h0 hv hl hb
    refine Ev.step (Ev.pos (by omega) (Ev.pos (by rw [hl]; decide) (Ev.val _))) (fun k => spec_l8Rows.f.eq_2 ..)
  | succ m ih =>
    intro L v vs h h0 hv hl hb
    have h12 := h.v12
    obtain ⟨h1, h2⟩ := half_len hl
    have hp : (2 : Nat) ^ (m + 1) ≤ 1000000000000 := Nat.le_trans (Nat.pow_le_pow_right (by decide) (show m + 1 ≤ 12 by omega)) (by decide)
    refine Ev.step (Ev.neg (by omega) (Ev.pos (by omega) ?_)) (fun k => spec_l8Rows.f.eq_2 ..)
    rw [w_id (by omega) (by omega)]
    refine Ev.bind (ih L (v + 1) _ h (by omega) (by omega) h1 (hb.take _)) ?_
    obtain ⟨d1, _⟩ := dv_ins h (rowsT_ok h m (v + 1) _ (by omega) (by omega) h1 (hb.take _))
    rw [show rowsT (m + 1) v vs = .fork v (rowsT m (v + 1) (vs.take (vs.length / 2))) (rowsT m (v + 1) (vs.drop (vs.length / 2))) from rfl]
    rw [ins_fork]
    by_cases c4 : (ins L (rowsT m (v + 1) (vs.take (vs.length / 2)))).2 < 0
    · rw [if_pos c4]
      exact Ev.pos c4 (Ev.val _)
    rw [if_neg c4]
    obtain ⟨d2, _⟩ := dv_ins d1 (rowsT_ok d1 m (v + 1) _ (by omega) (by omega) h2 (hb.drop _))
    exact Ev.neg c4 (Ev.bind (ih _ (v + 1) _ d1 (by omega) (by omega) h2 (hb.drop _)) (Ev.const (add_val vars v _ _ _ d2.len)))
/-! #### drawn diagrams -/
theorem dv_nil {vars : Int} (h0 : 0 ≤ vars) (h12 : vars ≤ 12) : DV vars [] := ⟨h0, h12, Nat.zero_le _, fun i x hx => by simp at hx, fun i x hx => by simp at hx⟩
theorem ins_place {vars : Int} {L : List S71} {m : Int} {t : DT} (h : DV vars L) (ht : TOk vars L m t) : -1 ≤ (ins L t).2 ∧ (ins L t).2 ≤ ((ins L t).1.length : Int) + 1 := by
  obtain ⟨d, hp⟩ := dv_ins h ht
  by_cases c : 0 ≤ (ins L t).2
  · have := (hp c).1
    exact ⟨by omega, this.2⟩
  · refine ⟨?_, by omega⟩
    cases t with
    | leaf n => exact absurd ht.1.1 c
    | fork v lo hi =>
      rw [ins_fork] at c ⊢
      by_cases c1 : (ins L lo).2 < 0
      · rw [if_pos c1]
        exact Int.le_refl _
      · rw [if_neg c1] at c ⊢
        unfold dadd at c ⊢
        by_cases c2 : (ins L lo).2 < 0 ∨ (ins (ins L lo).1 hi).2 < 0
        · rw [if_pos c2]
          exact Int.le_refl _
        rw [if_neg c2] at c ⊢
        by_cases c3 : (ins L lo).2 = (ins (ins L lo).1 hi).2
        · rw [if_pos c3] at c
          exact absurd (show 0 ≤ (ins L lo).2 by omega) c
        rw [if_neg c3] at c ⊢
        cases hf : dfind (ins (ins L lo).1 hi).1 ⟨v, (ins L lo).2, (ins (ins L lo).1 hi).2⟩ with
        | some i =>
          rw [hf] at c
          exact absurd (show (0 : Int) ≤ (i : Int) + 2 by omega) c
        | none =>
          rw [hf] at c
          simp only at c ⊢
          by_cases c4 : 2000 ≤ (ins (ins L lo).1 hi).1.length
          · rw [if_pos c4]
            exact Int.le_refl _
          · rw [if_neg c4] at c
            exact absurd (show (0 : Int) ≤ ((ins (ins L lo).1 hi).1.length : Int) + 2 by omega) c
/-- What is drawn: a diagram of few variables, and its places. -/
structure Drawn (most : Int) (r : Int × List S71 × List Int × Int) : Prop where
  dv : DV r.1 r.2.1
  few : r.1 ≤ most
  some_ : 2 ≤ r.2.2.1.length
  many : r.2.2.1.length ≤ 10
  place : ∀ x ∈ r.2.2.1, -1 ≤ x ∧ x ≤ 2001
theorem shl_few (m : Nat) (h : m ≤ 6) : shl .i64 1 (m : Int) = ((2 ^ m : Nat) : Int) := by
  have : m = 0 ∨ m = 1 ∨ m = 2 ∨ m = 3 ∨ m = 4 ∨ m = 5 ∨ m = 6 := by omega
  rcases this with rfl | rfl | rfl | rfl | rfl | rfl | rfl <;> rfl
theorem draw_l1 (b : List Int) (hb : Drawer b) (m : Nat) (hm : m ≤ 6) (P : Int × List S71 × List Int × Int → Prop) (pl : List Int) (i : Int) (k2 : Int) (L : List S71) (q0 : Int)
    (hrest : ∀ (vs : List Int) (p : Int), vs.length = 2 ^ m → BitRow vs → 0 ≤ p → p ≤ q0 + 64 → Tot (fun k => (spec_l8Rows.f k (m : Int) L vs 0).bind fun r => if pl.length < 17592186044416 then spec_l8Draw.l0 k (pl ++ [r.2.2]) (wrap64 (i - 1)) b p r.1 r.2.1 else none) P) :
    ∀ (d j : Nat) (vs : List Int) (p : Int), j + d = 2 ^ m → vs.length = j → BitRow vs → 0 ≤ p → p ≤ q0 + j → q0 ≤ 900000 → Tot (fun k => spec_l8Draw.l1 k pl i vs k2 (j : Int) b p (m : Int) L) P := by
  have hp : (2 : Nat) ^ m ≤ 64 := Nat.le_trans (Nat.pow_le_pow_right (by decide) hm) (by decide)
  intro d
  induction d with
  | zero =>
    intro j vs p hj hl hbs p0 p1 hq
    refine Tot.step (Tot.pos (by omega) ?_) (fun k => spec_l8Draw.l1.eq_2 ..)
    rw [shl_few m hm]
    exact Tot.neg (by omega) (hrest vs p (by omega) hbs p0 (by omega))
  | succ d ih =>
    intro j vs p hj hl hbs p0 p1 hq
    refine Tot.step (Tot.pos (by omega) ?_) (fun k => spec_l8Draw.l1.eq_2 ..)
    rw [shl_few m hm]
    refine Tot.pos (by omega) (Tot.bind (pick_tot b hb p k2 p0 (by omega)) ?_)
    rintro ⟨y, q⟩ ⟨e1, _, _⟩
    simp only at e1 ⊢
    subst e1
    rw [w_id (by omega) (by omega), show (j : Int) + 1 = ((j + 1 : Nat) : Int) by omega]
    have bit : ∀ c : Int, c = 0 ∨ c = 1 → BitRow (vs ++ [c]) := fun c hc x hx => by
      rcases List.mem_append.mp hx with h | h
      · exact hbs x h
      · rw [List.mem_singleton.mp h]
        exact hc
    exact Tot.ite (fun _ => Tot.pos (by omega) (ih (j + 1) _ _ (by omega) (by simp; omega) (bit 1 (.inr rfl)) (by omega) (by omega) hq)) (fun _ => Tot.pos (by omega) (ih (j + 1) _ _ (by omega) (by simp; omega) (bit 0 (.inl rfl)) (by omega) (by omega) hq))
theorem draw_l0 (b : List Int) (hb : Drawer b) (m : Nat) (hm : m ≤ 6) (most : Int) (hmost : (m : Int) ≤ most) : ∀ (d : Nat) (pl : List Int) (L : List S71) (p : Int), d ≤ 3 → pl.length + d ≤ 10 → 2 ≤ pl.length → DV (m : Int) L → (∀ x ∈ pl, -1 ≤ x ∧ x ≤ 2001) → 0 ≤ p → p + 70 * d ≤ 100000 →
    Tot (fun k => spec_l8Draw.l0 k pl (d : Int) b p (m : Int) L) (fun r => Drawn most r ∧ 0 ≤ r.2.2.2 ∧ r.2.2.2 ≤ p + 70 * d) := by
  intro d
  induction d with
  | zero =>
    intro pl L p _ h1 h2 hd hp p0 p1
    refine Tot.step (Tot.neg (by omega) (Tot.val ⟨⟨hd, hmost, h2, by omega, hp⟩, p0, by simp⟩)) (fun k => spec_l8Draw.l0.eq_2 ..)
  | succ d ih =>
    intro pl L p h3 h1 h2 hd hp p0 p1
    refine Tot.step (Tot.pos (by omega) (Tot.bind (num_tot b hb p _ p0 (by omega) (by simp)) ?_)) (fun k => spec_l8Draw.l0.eq_2 ..)
    rintro ⟨k2, q⟩ ⟨e1, _⟩
    simp only at e1 ⊢
    subst e1
    refine draw_l1 b hb m hm _ pl _ k2 L (p + 1) ?_ (2 ^ m) 0 [] (p + 1) (by omega) rfl (fun x hx => by simp at hx) (by omega) (by omega) (by omega)
    intro vs p2 hl hbs q0 q1
    have hok := rowsT_ok hd m 0 vs (Int.le_refl _) (by omega) hl hbs
    obtain ⟨d1, _⟩ := dv_ins hd hok
    have hpl := ins_place hd hok
    have hlen := d1.len
    refine Tot.bind (Tot.of (spec_rows m L 0 vs hd (Int.le_refl _) (by omega) hl hbs) (P := fun r => r = ((m : Int), (ins L (rowsT m 0 vs)).1, (ins L (rowsT m 0 vs)).2)) rfl) ?_
    rintro r rfl
    refine Tot.pos (by omega) ?_
    show Tot (fun k => spec_l8Draw.l0 k (pl ++ [(ins L (rowsT m 0 vs)).2]) (wrap64 (((d + 1 : Nat) : Int) - 1)) b p2 (m : Int) (ins L (rowsT m 0 vs)).1) _
    rw [w_id (by omega) (by omega), show ((d + 1 : Nat) : Int) - 1 = (d : Int) by omega]
    refine (ih (pl ++ [(ins L (rowsT m 0 vs)).2]) (ins L (rowsT m 0 vs)).1 p2 (by omega) (by simp; omega) (by simp; omega) d1 (fun x hx => ?_) q0 (by omega)).mono ?_
    · rcases List.mem_append.mp hx with h | h
      · exact hp x h
      · rw [List.mem_singleton.mp h]
        omega
    · rintro r ⟨r1, r2, r3⟩
      exact ⟨r1, r2, by omega⟩
theorem draw_tot (b : List Int) (hb : Drawer b) (p most : Int) (p0 : 0 ≤ p) (p1 : p ≤ 50000) (m0 : 0 ≤ most) (m1 : most ≤ 6) : Tot (fun k => spec_l8Draw.f k b p most) (fun r => Drawn most r ∧ 0 ≤ r.2.2.2 ∧ r.2.2.2 ≤ p + 300) := by
  unfold spec_l8Draw.f
  rw [w_id (by omega) (by omega)]
  refine Tot.bind (pick_tot b hb p (most + 1) p0 (by omega)) ?_
  rintro ⟨v, q⟩ ⟨e1, v0, v1⟩
  simp only at e1 v0 v1 ⊢
  subst e1
  have v2 := v1 (by omega)
  refine Tot.bind (num_tot b hb (p + 1) _ (by omega) (by omega) (by simp)) ?_
  rintro ⟨d, q⟩ ⟨e1, hd⟩
  simp only at e1 hd ⊢
  subst e1
  have hd3 : 0 ≤ d ∧ d ≤ 3 := by simp at hd; omega
  obtain ⟨m, rfl⟩ := Int.eq_ofNat_of_zero_le v0
  obtain ⟨n, rfl⟩ := Int.eq_ofNat_of_zero_le hd3.1
  refine (draw_l0 b hb m (by omega) most (by omega) n [0, 1] [] (p + 1 + 1) (by omega) (by simp; omega) (by simp) (dv_nil (by omega) (by omega)) (fun x hx => by simp at hx; omega) (by omega) (by omega)).mono ?_
  rintro r ⟨r1, r2, r3⟩
  exact ⟨r1, r2, by omega⟩
/-- A drawn diagram that may be spoilt, and a place. -/
structure DrawnAny (r : Int × List S71 × Int × Int) : Prop where
  v0 : -1 ≤ r.1
  v1 : r.1 ≤ 13
  len : r.2.1.length ≤ 2001
  n0 : -1 ≤ r.2.2.1
  n1 : r.2.2.1 ≤ 3000
theorem any_tot (b : List Int) (hb : Drawer b) (p most : Int) (p0 : 0 ≤ p) (p1 : p ≤ 40000) (m0 : 0 ≤ most) (m1 : most ≤ 6) : Tot (fun k => spec_l8Any.f k b p most) (fun r => DrawnAny r ∧ 0 ≤ r.2.2.2 ∧ r.2.2.2 ≤ p + 400) := by
  unfold spec_l8Any.f
  refine Tot.bind (draw_tot b hb p most p0 (by omega) m0 m1) ?_
  rintro ⟨vars, L, pl, q⟩ ⟨⟨hd, hf, hs, hm, hp⟩, q0, q1⟩
  simp only at hd hf hs hm hp q0 q1 ⊢
  have hl := hd.len
  have hv := hd.v0
  have place : ∀ z : Int, 0 ≤ z → z < (pl.length : Int) → -1 ≤ rd pl z ∧ rd pl z ≤ 2001 := fun z h0 h1 => by
    obtain ⟨i, rfl⟩ := Int.eq_ofNat_of_zero_le h0
    refine hp _ ?_
    rw [rd_lt (by omega)]
    exact List.getElem_mem _
  have j2 : ∀ (n q : Int) (c : Bool), -1 ≤ n → n ≤ 2001 → (c = true → 0 < (L.length : Int)) → 0 ≤ q → q ≤ p + 350 → Tot (fun k => spec_l8Any.j2 k n c b q vars L) (fun r => DrawnAny r ∧ 0 ≤ r.2.2.2 ∧ r.2.2.2 ≤ p + 400) := by
    intro n q c n0 n1 hc q0 q1
    refine Tot.step ?_ (fun k => spec_l8Any.j2.eq_2 ..)
    refine Tot.ite (fun h => ?_) (fun _ => ?_)
    · refine Tot.pos (hc h) (Tot.bind (num_tot b hb q _ q0 (by omega) (by simp)) ?_)
      rintro ⟨x, q2⟩ ⟨e1, _⟩
      simp only at e1 ⊢
      subst e1
      exact Tot.val ⟨⟨by show -1 ≤ vars; omega, by show vars ≤ 13; omega, by show (L.set _ _).length ≤ 2001; simp; omega, n0, by show n ≤ 3000; omega⟩, by show 0 ≤ q + 1; omega, by show q + 1 ≤ p + 400; omega⟩
    · rw [w_id (by omega) (by omega)]
      refine Tot.bind (num_tot b hb q _ q0 (by omega) (by simp)) ?_
      rintro ⟨x, q2⟩ ⟨e1, hx⟩
      simp only at e1 hx ⊢
      subst e1
      have hx2 : -1 ≤ x ∧ x ≤ 3000 := by simp at hx; omega
      exact Tot.val ⟨⟨by show -1 ≤ vars; omega, by show vars ≤ 13; omega, by show L.length ≤ 2001; omega, hx2.1, hx2.2⟩, by show 0 ≤ q + 1; omega, by show q + 1 ≤ p + 400; omega⟩
  have j1 : ∀ (n f q : Int) (c : Bool), -1 ≤ n → n ≤ 2001 → (c = true → 0 < (L.length : Int)) → 0 ≤ q → q ≤ p + 350 → Tot (fun k => spec_l8Any.j1 k n f c b q vars L) (fun r => DrawnAny r ∧ 0 ≤ r.2.2.2 ∧ r.2.2.2 ≤ p + 400) := by
    intro n f q c n0 n1 hc q0 q1
    refine Tot.step ?_ (fun k => spec_l8Any.j1.eq_2 ..)
    refine Tot.ite (fun h => ?_) (fun _ => Tot.ite (fun _ => j2 n q _ n0 n1 (fun h => of_decide_eq_true h) q0 q1) (fun _ => j2 n q _ n0 n1 (fun h => by cases h) q0 q1))
    exact Tot.pos (hc h) (Tot.pos (by omega) (Tot.val ⟨⟨by show -1 ≤ vars; omega, by show vars ≤ 13; omega, by simp; omega, n0, by show n ≤ 3000; omega⟩, q0, by show q ≤ p + 400; omega⟩))
  have j0 : ∀ (n q : Int), -1 ≤ n → n ≤ 2001 → 0 ≤ q → q ≤ p + 310 → Tot (fun k => spec_l8Any.j0 k n b q vars L) (fun r => DrawnAny r ∧ 0 ≤ r.2.2.2 ∧ r.2.2.2 ≤ p + 400) := by
    intro n q n0 n1 q0 q1
    refine Tot.step (Tot.bind (pick_tot b hb q 14 q0 (by omega)) ?_) (fun k => spec_l8Any.j0.eq_2 ..)
    rintro ⟨x, q2⟩ ⟨e1, _, _⟩
    simp only at e1 ⊢
    subst e1
    refine Tot.ite (fun _ => ?_) (fun _ => Tot.val ⟨⟨by show -1 ≤ vars; omega, by show vars ≤ 13; omega, by show L.length ≤ 2001; omega, n0, by show n ≤ 3000; omega⟩, by show 0 ≤ q + 1; omega, by show q + 1 ≤ p + 400; omega⟩)
    refine Tot.bind (pick_tot b hb (q + 1) 4 (by omega) (by omega)) ?_
    rintro ⟨f, q2⟩ ⟨e1, _, _⟩
    simp only at e1 ⊢
    subst e1
    refine Tot.ite (fun _ => ?_) (fun _ => Tot.ite (fun _ => j1 n f _ _ n0 n1 (fun h => of_decide_eq_true h) (by omega) (by omega)) (fun _ => j1 n f _ _ n0 n1 (fun h => by cases h) (by omega) (by omega)))
    refine Tot.bind (num_tot b hb (q + 1 + 1) _ (by omega) (by omega) (by simp)) ?_
    rintro ⟨x, q2⟩ ⟨e1, hx⟩
    simp only at e1 hx ⊢
    subst e1
    have hx2 : -1 ≤ x ∧ x ≤ 13 := by simp at hx; omega
    exact Tot.val ⟨⟨hx2.1, hx2.2, by show L.length ≤ 2001; omega, n0, by show n ≤ 3000; omega⟩, by show 0 ≤ q + 1 + 1 + 1; omega, by show q + 1 + 1 + 1 ≤ p + 400; omega⟩
  rw [w_id (by omega) (by omega)]
  refine Tot.pos (by omega) (Tot.pos (by omega) (Tot.bind (pick_tot b hb q 4 q0 (by omega)) ?_))
  rintro ⟨x, q2⟩ ⟨e1, _, _⟩
  simp only at e1 ⊢
  subst e1
  refine Tot.ite (fun _ => ?_) (fun _ => ?_)
  · refine Tot.bind (pick_tot b hb (q + 1) (pl.length : Int) (by omega) (by omega)) ?_
    rintro ⟨z, q2⟩ ⟨e1, z0, z1⟩
    simp only at e1 z0 z1 ⊢
    subst e1
    have z2 := z1 (by omega)
    have := place z z0 z2
    exact Tot.pos z0 (Tot.pos z2 (j0 _ _ this.1 this.2 (by omega) (by omega)))
  · have := place ((pl.length : Int) - 1) (by omega) (by omega)
    exact j0 _ _ this.1 this.2 (by omega) (by omega)
/-! #### the value of a place -/
def dval (vars : Int) (L : List S71) (bits : List Int) : Nat → Int → Int
  | 0, n => n
  | m + 1, n => if n < 2 then n else dval vars L bits m (gat L n (dvar vars L n) (decide (rd bits (dvar vars L n) = 1)))
theorem dval_const {vars : Int} {L : List S71} {bits : List Int} {n : Int} (h : n < 2) : ∀ m, dval vars L bits m n = n := by
  intro m
  cases m with
  | zero => rfl
  | succ m =>
    unfold dval
    rw [if_pos h]
theorem dval_same {vars : Int} {L : List S71} (h : DV vars L) (bits : List Int) : ∀ (m m2 : Nat) (n : Int), Pl L n → vars - dvar vars L n < m → vars - dvar vars L n < m2 → dval vars L bits m n = dval vars L bits m2 n := by
  intro m
  induction m with
  | zero =>
    intro m2 n p h1 _
    have := (h.dvar_le p).2
    omega
  | succ m ih =>
    intro m2 n p h1 h2
    cases m2 with
    | zero =>
      have := (h.dvar_le p).2
      omega
    | succ m2 =>
      unfold dval
      by_cases c : n < 2
      · rw [if_pos c, if_pos c]
      · rw [if_neg c, if_neg c]
        have f := gat_ok h p (Int.le_refl _) ((dvar_two h p).2 c) (decide (rd bits (dvar vars L n) = 1))
        exact ih m2 _ f.1 (by omega) (by omega)
/-- The constant to which one comes from a place. -/
def dvP (vars : Int) (L : List S71) (bits : List Int) (n : Int) : Int := dval vars L bits 13 n
theorem dvP_const {vars : Int} {L : List S71} {bits : List Int} {n : Int} (h : n < 2) : dvP vars L bits n = n := dval_const h 13
theorem dvP_fork {vars : Int} {L : List S71} (h : DV vars L) (bits : List Int) {n : Int} (p : Pl L n) (c : ¬ n < 2) : dvP vars L bits n = dvP vars L bits (gat L n (dvar vars L n) (decide (rd bits (dvar vars L n) = 1))) := by
  have f := gat_ok h p (Int.le_refl _) ((dvar_two h p).2 c) (decide (rd bits (dvar vars L n) = 1))
  have a0 := (h.dvar_le p).1
  have a1 := h.v12
  unfold dvP
  rw [dval.eq_2, if_neg c, dval_same h bits 12 13 _ f.1 (by omega) (by omega)]
/-- A step toward a variable that stands no later than the place's own. -/
theorem dvP_gat {vars v : Int} {L : List S71} (h : DV vars L) (bits : List Int) {n : Int} (p : Pl L n) : dvP vars L bits (gat L n v (decide (rd bits v = 1))) = dvP vars L bits n := by
  by_cases c : n < 2
  · unfold gat
    rw [if_pos c]
  · by_cases e : dvar vars L n = v
    · subst e
      exact (dvP_fork h bits p c).symm
    · have e2 : (L.getD (n - 2).toNat ⟨0, 0, 0⟩).f0 ≠ v := by
        unfold dvar at e
        rw [if_neg c] at e
        exact e
      unfold gat
      rw [if_neg c, if_neg e2]
/-! #### a variable as a constant: the tree, the reference, the program -/
def fxT (vars : Int) (L : List S71) (v : Int) (hi : Bool) : Nat → Int → DT
  | 0, _ => .leaf 0
  | m + 1, n => if v < dvar vars L n then .leaf n else if dvar vars L n = v then .leaf (gat L n v hi) else
    .fork (dvar vars L n) (fxT vars L v hi m (gat L n (dvar vars L n) false)) (fxT vars L v hi m (gat L n (dvar vars L n) true))
theorem fx_next {vars : Int} {L : List S71} (h : DV vars L) {n : Int} (p : Pl L n) (hd : dvar vars L n < vars) (hi : Bool) : Pl L (gat L n (dvar vars L n) hi) ∧ dvar vars L n < dvar vars L (gat L n (dvar vars L n) hi) := gat_ok h p (Int.le_refl _) hd hi
theorem fxT_ext {vars v : Int} {L L2 : List S71} (h : DV vars L) (he : L <+: L2) (hv : v < vars) (hi : Bool) : ∀ (m : Nat) (n : Int), Pl L n → fxT vars L2 v hi m n = fxT vars L v hi m n := by
  intro m
  induction m with
  | zero => intro n _; rfl
  | succ m ih =>
    intro n p
    unfold fxT
    rw [dvar_ext p he]
    by_cases c1 : v < dvar vars L n
    · rw [if_pos c1, if_pos c1]
    rw [if_neg c1, if_neg c1]
    by_cases c2 : dvar vars L n = v
    · rw [if_pos c2, if_pos c2, gat_ext p he]
    rw [if_neg c2, if_neg c2, gat_ext p he, gat_ext p he, ih _ (fx_next h p (by omega) false).1, ih _ (fx_next h p (by omega) true).1]
theorem fxT_same {vars v : Int} {L : List S71} (h : DV vars L) (hv : v < vars) (hi : Bool) : ∀ (m m2 : Nat) (n : Int), Pl L n → vars - dvar vars L n < m → vars - dvar vars L n < m2 → fxT vars L v hi m n = fxT vars L v hi m2 n := by
  intro m
  induction m with
  | zero =>
    intro m2 n p h1 _
    have := (h.dvar_le p).2
    omega
  | succ m ih =>
    intro m2 n p h1 h2
    cases m2 with
    | zero =>
      have := (h.dvar_le p).2
      omega
    | succ m2 =>
      unfold fxT
      by_cases c1 : v < dvar vars L n
      · rw [if_pos c1, if_pos c1]
      rw [if_neg c1, if_neg c1]
      by_cases c2 : dvar vars L n = v
      · rw [if_pos c2, if_pos c2]
      have f1 := fx_next h p (by omega) false
      have f2 := fx_next h p (by omega) true
      rw [if_neg c2, if_neg c2, ih m2 _ f1.1 (by omega) (by omega), ih m2 _ f2.1 (by omega) (by omega)]
def fxP (vars : Int) (L : List S71) (v : Int) (hi : Bool) (n : Int) : DT := fxT vars L v hi 13 n
theorem fxP_ext {vars v : Int} {L L2 : List S71} (h : DV vars L) (he : L <+: L2) (hv : v < vars) (hi : Bool) {n : Int} (p : Pl L n) : fxP vars L2 v hi n = fxP vars L v hi n := fxT_ext h he hv hi 13 n p
theorem fxP_over {vars v : Int} {L : List S71} (hi : Bool) {n : Int} (c : v < dvar vars L n) : fxP vars L v hi n = .leaf n := by
  unfold fxP fxT
  rw [if_pos c]
theorem fxP_at {vars v : Int} {L : List S71} (hi : Bool) {n : Int} (c : dvar vars L n = v) : fxP vars L v hi n = .leaf (gat L n v hi) := by
  unfold fxP fxT
  rw [if_neg (by omega), if_pos c]
theorem fxP_fork {vars v : Int} {L : List S71} (h : DV vars L) (hv : v < vars) (hi : Bool) {n : Int} (p : Pl L n) (c : dvar vars L n < v) :
    fxP vars L v hi n = .fork (dvar vars L n) (fxP vars L v hi (gat L n (dvar vars L n) false)) (fxP vars L v hi (gat L n (dvar vars L n) true)) := by
  have f1 := fx_next h p (by omega) false
  have f2 := fx_next h p (by omega) true
  have a0 := (h.dvar_le p).1
  have a1 := h.v12
  unfold fxP
  rw [fxT.eq_2, if_neg (by omega), if_neg (by omega), fxT_same h hv hi 12 13 _ f1.1 (by omega) (by omega), fxT_same h hv hi 12 13 _ f2.1 (by omega) (by omega)]
theorem TOk.down {vars : Int} {L : List S71} {t : DT} {x y : Int} (hxy : y ≤ x) (ht : TOk vars L x t) : TOk vars L y t := by
  cases t with
  | leaf n => exact ⟨ht.1, by have := ht.2; omega⟩
  | fork v lo hi => exact ⟨by have := ht.1; omega, ht.2⟩
theorem fxT_ok {vars v : Int} {L : List S71} (h : DV vars L) (hv : v < vars) (hi : Bool) : ∀ (m : Nat) (n : Int), Pl L n → TOk vars L (dvar vars L n) (fxT vars L v hi m n) := by
  intro m
  induction m with
  | zero =>
    intro n p
    refine ⟨⟨Int.le_refl _, by omega⟩, ?_⟩
    rw [dvar_const (n := 0) (by decide)]
    exact (h.dvar_le p).2
  | succ m ih =>
    intro n p
    unfold fxT
    by_cases c1 : v < dvar vars L n
    · rw [if_pos c1]
      exact ⟨p, Int.le_refl _⟩
    rw [if_neg c1]
    by_cases c2 : dvar vars L n = v
    · rw [if_pos c2]
      have := gat_ok h p (v := v) (by omega) hv hi
      exact ⟨this.1, by omega⟩
    rw [if_neg c2]
    have f1 := fx_next h p (by omega) false
    have f2 := fx_next h p (by omega) true
    exact ⟨Int.le_refl _, (h.dvar_le p).1, by omega, TOk.down (by omega) (ih _ f1.1), TOk.down (by omega) (ih _ f2.1)⟩
theorem fxP_dv {vars v : Int} {L : List S71} (h : DV vars L) (hv : v < vars) (hi : Bool) {n : Int} (p : Pl L n) : DV vars (ins L (fxP vars L v hi n)).1 ∧ (0 ≤ (ins L (fxP vars L v hi n)).2 → Pl (ins L (fxP vars L v hi n)).1 (ins L (fxP vars L v hi n)).2 ∧ dvar vars L n ≤ dvar vars (ins L (fxP vars L v hi n)).1 (ins L (fxP vars L v hi n)).2) := dv_ins h (fxT_ok h hv hi 13 n p)
theorem gat_self {L : List S71} {vars n : Int} (c : ¬ n < 2) (hi : Bool) : gat L n (dvar vars L n) hi = if hi = true then (rd_T71 L (n - 2)).f2 else (rd_T71 L (n - 2)).f1 := by
  unfold gat dvar
  rw [if_neg c, if_neg c, if_pos rfl, rdP]
theorem dvar_self {L : List S71} {vars n : Int} (c : ¬ n < 2) : dvar vars L n = (rd_T71 L (n - 2)).f0 := by
  unfold dvar
  rw [if_neg c, rdP]
structure InvF (vars v : Int) (hi : Bool) (s : FS) (mm : Int → Option Int) : Prop where
  vs : s.vars = vars
  dv : DV vars s.forks
  seen : s.seen = seenP s.forks
  memo : s.full = false → ∀ q r, mm q = some r → Pl s.forks q ∧ 0 ≤ r ∧ ins s.forks (fxP vars s.forks v hi q) = (s.forks, r)
theorem fix_val {vars v bit : Int} (hv : v < vars) : ∀ (m : Nat) (s : FS) (n : Int) (mm : Int → Option Int), InvF vars v (decide (bit = 1)) s mm → Pl s.forks n → vars - dvar vars s.forks n < m →
    ∃ s' mm' r, Ev (fun k => impl_forking_fix.f k s n v bit mm) (s', mm', r) ∧ InvF vars v (decide (bit = 1)) s' mm' ∧ s.forks <+: s'.forks ∧ (s.full = true → s'.full = true) ∧ (s.full = false → (ins s.forks (fxP vars s.forks v (decide (bit = 1)) n)).2 < 0 → s'.full = true) ∧
      (s.full = false → 0 ≤ (ins s.forks (fxP vars s.forks v (decide (bit = 1)) n)).2 → s'.full = false ∧ s'.forks = (ins s.forks (fxP vars s.forks v (decide (bit = 1)) n)).1 ∧ r = (ins s.forks (fxP vars s.forks v (decide (bit = 1)) n)).2) := by
  obtain ⟨hi, hhi⟩ : ∃ b, decide (bit = 1) = b := ⟨_, rfl⟩
  rw [hhi]
  intro m
  induction m with
  | zero =>
    intro s n mm hI p h1
    have := (hI.dv.dvar_le p).2
    omega
  | succ m ih =>
    intro s n mm hI p hm
    have h := hI.dv
    have hl := h.len
    have h12 := h.v12
    have p0 := p.1
    have p1 := p.2
    have ev0 : ∀ r, Ev (fun k => if v < dvar 12 s.forks n then some (s, mm, n) else if dvar 12 s.forks n = v then (impl_forking_goes.f s n v bit).bind fun r => some (s, mm, r) else if KeyI n then match mm n with
        | some r => some (s, mm, r)
        | none => if 0 ≤ wrap64 (n - 2) then if wrap64 (n - 2) < (s.forks.length : Int) then impl_forking_fix.two (fun s2 n2 m2 => impl_forking_fix.f k s2 n2 v bit m2) s n (rd_T71 s.forks (wrap64 (n - 2))) mm else none else none
      else none) r → Ev (fun k => impl_forking_fix.f k s n v bit mm) r := fun r hr => Ev.step (Ev.bind (Ev.const (varAt_val s.vars p (by omega))) hr) (fun k => impl_forking_fix.f.eq_2 ..)
    have leaf : ∀ r, 0 ≤ r → fxP vars s.forks v hi n = .leaf r → Ev (fun k => impl_forking_fix.f k s n v bit mm) (s, mm, r) → ∃ s' mm' r, Ev (fun k => impl_forking_fix.f k s n v bit mm) (s', mm', r) ∧ InvF vars v hi s' mm' ∧ s.forks <+: s'.forks ∧ (s.full = true → s'.full = true) ∧ (s.full = false → (ins s.forks (fxP vars s.forks v hi n)).2 < 0 → s'.full = true) ∧ (s.full = false → 0 ≤ (ins s.forks (fxP vars s.forks v hi n)).2 → s'.full = false ∧ s'.forks = (ins s.forks (fxP vars s.forks v hi n)).1 ∧ r = (ins s.forks (fxP vars s.forks v hi n)).2) := fun r hr ht he => by
      rw [ht]
      exact ⟨s, mm, r, he, hI, List.prefix_refl _, id, fun _ hh => absurd (show r < 0 from hh) (by omega), fun hf _ => ⟨hf, rfl, rfl⟩⟩
    by_cases c1 : v < dvar vars s.forks n
    · exact leaf n p0 (fxP_over _ c1) (ev0 _ (Ev.pos ((dvar_lt s.forks n hv h12).2 c1) (Ev.val _)))
    have c1' : ¬ v < dvar 12 s.forks n := fun hh => c1 ((dvar_lt s.forks n hv h12).1 hh)
    have c3 : ¬ n < 2 := (dvar_two h p).1 (by omega)
    have e12 : dvar 12 s.forks n = dvar vars s.forks n := dvar12 c3
    by_cases c2 : dvar vars s.forks n = v
    · have g := goes_val hI.vs h p hv bit
      rw [hhi] at g
      exact leaf _ (gat_ok h p (v := v) (by omega) hv hi).1.1 (fxP_at _ c2) (ev0 _ (Ev.neg c1' (Ev.pos (by rw [e12]; exact c2) (Ev.bind (Ev.const g) (Ev.val _)))))
    have hd : dvar vars s.forks n < v := by omega
    have hd0 := (h.dvar_le p).1
    have hk : KeyI n := keyI p0 (by omega)
    cases hmem : mm n with
    | some r =>
      refine ⟨s, mm, r, ev0 _ (Ev.neg c1' (Ev.neg (by rw [e12]; exact c2) (Ev.pos hk ?_))), hI, List.prefix_refl _, id, ?_, ?_⟩
      · rw [hmem]
        exact Ev.val _
      · intro hf hh
        obtain ⟨_, h3, h4⟩ := hI.memo hf n r hmem
        rw [h4] at hh
        exact absurd (show r < 0 from hh) (by omega)
      · intro hf _
        obtain ⟨_, h3, h4⟩ := hI.memo hf n r hmem
        rw [h4]
        exact ⟨hf, rfl, rfl⟩
    | none =>
      have f1 := fx_next h p (by omega) false
      have f2 := fx_next h p (by omega) true
      have hT := fxP_fork h hv hi p hd
      have gl : (rd_T71 s.forks (n - 2)).f1 = gat s.forks n (dvar vars s.forks n) false := by rw [gat_self c3]; rfl
      have gh : (rd_T71 s.forks (n - 2)).f2 = gat s.forks n (dvar vars s.forks n) true := by rw [gat_self c3]; rfl
      have g0 : (rd_T71 s.forks (n - 2)).f0 = dvar vars s.forks n := (dvar_self c3).symm
      obtain ⟨w, hw⟩ : ∃ w, dvar vars s.forks n = w := ⟨_, rfl⟩
      obtain ⟨lo, hlo⟩ : ∃ lo, gat s.forks n (dvar vars s.forks n) false = lo := ⟨_, rfl⟩
      obtain ⟨hg, hhg⟩ : ∃ lo, gat s.forks n (dvar vars s.forks n) true = lo := ⟨_, rfl⟩
      rw [hlo] at f1 gl
      rw [hhg] at f2 gh
      rw [hlo, hhg] at hT
      rw [hw] at f1 f2 hT g0 hd hd0
      -- the low side
      obtain ⟨s1, m1, r1, ev1, i1, x1, q1, n1, y1⟩ := ih s lo mm hI f1.1 (by omega)
      obtain ⟨s2, m2, r2, ev2, i2, x2, q2, n2, y2⟩ := ih s1 hg m1 i1 (f2.1.ext x1) (by rw [dvar_ext f2.1 x1]; omega)
      rw [fxP_ext h x1 hv hi f2.1] at n2 y2
      have e2 := x1.trans x2
      have walk : ∀ r, Ev (fun _ : Nat => if s2.full = true then some (s2, m2, 0) else (impl_forking_fork.f s2 w r1 r2).bind fun p3 => some (p3.1, (fun y => if y = n then some p3.2 else m2 y), p3.2)) r → Ev (fun k => impl_forking_fix.f k s n v bit mm) r := fun r hh => by
        refine ev0 _ (Ev.neg c1' (Ev.neg (by rw [e12]; exact c2) (Ev.pos hk ?_)))
        rw [hmem, w_id (by omega) (by omega)]
        refine Ev.pos (by omega) (Ev.pos (by omega) ?_)
        unfold impl_forking_fix.two
        rw [gl, gh, g0]
        exact Ev.bind ev1 (Ev.bind ev2 hh)
      have low : ∀ hi_, ins s.forks (.fork w (fxP vars s.forks v hi lo) hi_) = if (ins s.forks (fxP vars s.forks v hi lo)).2 < 0 then (s.forks, -1) else dadd (ins (ins s.forks (fxP vars s.forks v hi lo)).1 hi_).1 w (ins s.forks (fxP vars s.forks v hi lo)).2 (ins (ins s.forks (fxP vars s.forks v hi lo)).1 hi_).2 := fun hi_ => by rw [ins]
      cases hf2 : s2.full with
      | true =>
        refine ⟨s2, m2, 0, walk _ (Ev.pos hf2 (Ev.val _)), i2, e2, fun _ => hf2, fun _ _ => hf2, fun hf hh => ?_⟩
        exfalso
        rw [hT, low] at hh
        by_cases cl : (ins s.forks (fxP vars s.forks v hi lo)).2 < 0
        · rw [if_pos cl] at hh
          exact neg1 hh
        · rw [if_neg cl] at hh
          obtain ⟨z1, z2, z3⟩ := y1 hf (by omega)
          have hn := (dadd_nn hh).2
          rw [← z2] at hn
          obtain ⟨z4, _, _⟩ := y2 z1 hn
          rw [hf2] at z4
          cases z4
      | false =>
        have hf1 : s1.full = false := by
          cases hq : s1.full with
          | false => rfl
          | true => have := q2 hq; rw [hf2] at this; cases this
        have hf : s.full = false := by
          cases hq : s.full with
          | false => rfl
          | true => have := q1 hq; rw [hf1] at this; cases this
        have cl : ¬ (ins s.forks (fxP vars s.forks v hi lo)).2 < 0 := fun hh => by have := n1 hf hh; rw [hf1] at this; cases this
        obtain ⟨_, z2, z3⟩ := y1 hf (by omega)
        have ch : ¬ (ins s1.forks (fxP vars s.forks v hi hg)).2 < 0 := fun hh => by have := n2 hf1 hh; rw [hf2] at this; cases this
        obtain ⟨_, z5, z6⟩ := y2 hf1 (by omega)
        have hins : ins s.forks (fxP vars s.forks v hi n) = dadd s2.forks w r1 r2 := by
          rw [hT, low, if_neg cl, ← z2, ← z5, ← z3, ← z6]
        obtain ⟨dd, pp⟩ := fxP_dv h hv hi p
        have pl1 : Pl s1.forks r1 := by
          have := (fxP_dv h hv hi f1.1).2 (by omega)
          rw [z2, z3]
          exact this.1
        have pl2 : Pl s2.forks r2 := by
          have := (fxP_dv i1.dv hv hi (f2.1.ext x1)).2
          rw [fxP_ext h x1 hv hi f2.1] at this
          have := this (by omega)
          rw [z5, z6]
          exact this.1
        have hl1 := i1.dv.len
        have hl2 := i2.dv.len
        obtain ⟨s3, r3, ef, k1, k2, k3, k4, k5⟩ := fork_val s2 w r1 r2 (show KeyI w ∧ KeyI r1 ∧ KeyI r2 from ⟨keyI hd0 (by omega), keyI pl1.1 (by have := pl1.2; omega), keyI pl2.1 (by have := pl2.2; omega)⟩) pl1.1 pl2.1 i2.seen
        have x3 : s2.forks <+: s3.forks := by rw [k4]; exact dadd_ext _ _ _ _
        have k4' : s3.forks = (ins s.forks (fxP vars s.forks v hi n)).1 := by rw [k4, hins]
        have e3 := e2.trans x3
        refine ⟨s3, _, r3, walk _ (Ev.neg (by rw [hf2]; decide) (Ev.bind (Ev.const ef) (Ev.val _))), ⟨by rw [k1]; exact i2.vs, by rw [k4']; exact dd, k3, fun hf3 q r hmm => ?_⟩, e3, fun hh => ?_, fun _ hh => ?_, fun _ hh => ?_⟩
        · by_cases cq : q = n
          · subst cq
            have hr : r3 = r := by simpa using hmm
            subst hr
            have cd : ¬ (dadd s2.forks w r1 r2).2 < 0 := fun hh => by
              rw [if_pos hh, hf3] at k5
              exact absurd k5.1 (by decide)
            rw [if_neg cd] at k5
            refine ⟨p.ext e3, by omega, ?_⟩
            rw [fxP_ext h e3 hv hi p]
            have := ins_stays (L := s.forks) (t := fxP vars s.forks v hi q) (by rw [hins]; omega) (L2 := s3.forks) (by rw [← k4']; exact List.prefix_refl _)
            rw [this, hins, k5.2]
          · have hmm2 : m2 q = some r := by simpa [cq] using hmm
            obtain ⟨j1, j3, j4⟩ := i2.memo hf2 q r hmm2
            refine ⟨j1.ext x3, j3, ?_⟩
            rw [fxP_ext i2.dv x3 hv hi j1]
            have := ins_stays (L := s2.forks) (t := fxP vars s2.forks v hi q) (by rw [j4]; exact j3) (L2 := s3.forks) (by rw [j4]; exact x3)
            rw [this, j4]
        · rw [hf] at hh
          cases hh
        · rw [hins] at hh
          rw [if_pos hh] at k5
          exact k5.1
        · rw [hins] at hh
          rw [if_neg (by omega)] at k5
          exact ⟨k5.1.trans hf2, k4', by rw [hins]; exact k5.2⟩
/-- What comes of a variable as a constant: told, or nothing where it may not be asked. -/
def FixAsk (vars : Int) (L : List S71) (n v bit : Int) : Prop := DV vars L ∧ Pl L n ∧ (0 ≤ v ∧ v ≤ vars - 1) ∧ (0 ≤ bit ∧ bit ≤ 1)
def FixIs (vars : Int) (L : List S71) (n v bit : Int) (r : Int × List S71 × Int) : Prop :=
  (FixAsk vars L n v bit → r = told vars (ins L (fxP vars L v (decide (bit = 1)) n))) ∧ (¬ FixAsk vars L n v bit → r = (0, [], -1))
theorem fix_v {vars n v bit : Int} {L : List S71} {r : Int × List S71 × Int} (h : FixIs vars L n v bit r) : Ev (fun k => impl_DiagramFix.f k vars L n v bit) r := by
  obtain ⟨hy, hn⟩ := h
  unfold impl_DiagramFix.f
  obtain ⟨q, hb, h1⟩ := impl_dv vars L
  refine Ev.bind (Ev.const hb) ?_
  cases q with
  | false =>
    rw [hn (fun h => by have := h1.2 h.1; cases this)]
    exact Ev.pos rfl (Ev.val _)
  | true =>
    have hd := h1.1 rfl
    have hl := hd.len
    have h0 := hd.v0
    have h12 := hd.v12
    refine Ev.neg (by decide) (Ev.bind (Ev.const (isPlace_val vars n (by omega))) ?_)
    by_cases pa : Pl L n
    · rw [@decide_eq_true _ (decPl L n) pa, w_id (by omega) (by omega)]
      refine Ev.neg (by decide) (Ev.bind (Ev.const (in_val _ _ _)) ?_)
      by_cases c1 : 0 ≤ v ∧ v ≤ vars - 1
      · rw [decide_eq_true c1]
        refine Ev.neg (by decide) (Ev.bind (Ev.const (in_val _ _ _)) ?_)
        by_cases c2 : 0 ≤ bit ∧ bit ≤ 1
        · rw [decide_eq_true c2, hy ⟨hd, pa, c1, c2⟩]
          have hdl := hd.dvar_le pa
          have hi : InvF vars v (decide (bit = 1)) (fs0 vars L) (fun _ => none) := ⟨rfl, hd, rfl, fun _ q r hm => by cases hm⟩
          obtain ⟨s', mm', m', ev, i1, _, _, n1, y1⟩ := fix_val (bit := bit) (show v < vars by omega) 13 (fs0 vars L) n (fun _ => none) hi pa (show vars - dvar vars L n < _ by omega)
          have n1' : (ins L (fxP vars L v (decide (bit = 1)) n)).2 < 0 → s'.full = true := n1 rfl
          have y1' : 0 ≤ (ins L (fxP vars L v (decide (bit = 1)) n)).2 → s'.full = false ∧ s'.forks = (ins L (fxP vars L v (decide (bit = 1)) n)).1 ∧ m' = (ins L (fxP vars L v (decide (bit = 1)) n)).2 := y1 rfl
          refine Ev.neg (by decide) (Ev.bind (Ev.const (forkingOf_val hd)) (Ev.bind ev (Ev.const ?_)))
          show impl_forking_done.f s' m' = _
          rw [done_val s' m' i1.dv.len]
          unfold told
          by_cases c : (ins L (fxP vars L v (decide (bit = 1)) n)).2 < 0
          · rw [if_pos c, if_pos (n1' c)]
          · obtain ⟨z1, z2, z3⟩ := y1' (by omega)
            rw [if_neg c, if_neg (by rw [z1]; decide), i1.vs, z2, z3]
        · rw [decide_eq_false c2, hn (fun h => c2 h.2.2.2)]
          exact Ev.pos rfl (Ev.val _)
      · rw [decide_eq_false c1, hn (fun h => c1 h.2.2.1)]
        exact Ev.pos rfl (Ev.val _)
    · rw [@decide_eq_false _ (decPl L n) pa, hn (fun h => pa h.2.1)]
      exact Ev.pos rfl (Ev.val _)
/-! #### the program's value of a place -/
theorem value_l0 {vars : Int} {L : List S71} (h : DV vars L) (bits : List Int) (hb : (bits.length : Int) = vars) : ∀ (m : Nat) (n : Int), Pl L n → vars - dvar vars L n < m → Ev (fun k => impl_Diagram_value.l0 k n bits vars L) (dval vars L bits m n) := by
  intro m
  induction m with
  | zero =>
    intro n p h1
    have := (h.dvar_le p).2
    omega
  | succ m ih =>
    intro n p h1
    have p0 := p.1
    have p1 := p.2
    have hl := h.len
    unfold dval
    by_cases c : n < 2
    · rw [if_pos c]
      exact Ev.step (Ev.neg (by omega) (Ev.val _)) (fun k => impl_Diagram_value.l0.eq_2 ..)
    · rw [if_neg c]
      have hv := (dvar_two h p).2 c
      have hv0 := (h.dvar_le p).1
      have g0 : (rd_T71 L (n - 2)).f0 = dvar vars L n := (dvar_self c).symm
      have g1 : (rd_T71 L (n - 2)).f1 = gat L n (dvar vars L n) false := by rw [gat_self c]; rfl
      have g2 : (rd_T71 L (n - 2)).f2 = gat L n (dvar vars L n) true := by rw [gat_self c]; rfl
      refine Ev.step ?_ (fun k => impl_Diagram_value.l0.eq_2 ..)
      rw [w_id (by omega) (by omega), g0, g1, g2]
      refine Ev.pos (by omega) (Ev.pos (by omega) (Ev.pos (by omega) (Ev.pos hv0 (Ev.pos (by omega) ?_))))
      have f := fun hi => gat_ok h p (Int.le_refl _) hv hi
      by_cases cb : rd bits (dvar vars L n) = 1
      · rw [decide_eq_true cb]
        exact Ev.pos cb (ih _ (f true).1 (by have := (f true).2; omega))
      · rw [decide_eq_false cb]
        exact Ev.neg cb (ih _ (f false).1 (by have := (f false).2; omega))
theorem diagramValue_val {vars : Int} {L : List S71} (h : DV vars L) {n : Int} (p : Pl L n) (bits : List Int) (hb : (bits.length : Int) = vars) (h01 : Bit01 bits) : Ev (fun k => impl_DiagramValue.f k vars L n bits) (dvP vars L bits n) := by
  unfold impl_DiagramValue.f
  have hl := h.len
  have a0 := (h.dvar_le p).1
  have a1 := h.v12
  obtain ⟨q, hq, h1⟩ := impl_dv vars L
  have hq1 : q = true := h1.2 h
  subst hq1
  refine Ev.bind (Ev.const hq) (Ev.pos rfl (Ev.bind (Ev.const (isPlace_val vars n (by omega))) ?_))
  rw [@decide_eq_true _ (decPl L n) p]
  refine Ev.pos rfl (Ev.pos hb (Ev.bind (bits_valid bits (by omega) h01) (Ev.pos rfl (Ev.bind (a := dvP vars L bits n) ?_ (Ev.val _)))))
  unfold impl_Diagram_value.f
  exact value_l0 h bits hb 13 n p (by omega)
theorem gat_above {vars : Int} {L : List S71} {q v : Int} (h : v < dvar vars L q) (hi : Bool) : gat L q v hi = q := by
  unfold gat
  by_cases c2 : q < 2
  · rw [if_pos c2]
  · unfold dvar at h
    rw [if_neg c2] at h
    rw [if_neg c2, if_neg (by omega)]
theorem gat_ne {vars : Int} {L : List S71} (h : DV vars L) {p : Int} (pp : Pl L p) (c : ¬ p < 2) : gat L p (dvar vars L p) false ≠ gat L p (dvar vars L p) true ∧ gat L p (dvar vars L p) false < p ∧ gat L p (dvar vars L p) true < p := by
  obtain ⟨x, hx, hd, e, _, _, _, _, l1, l2, ne, _, _⟩ := h.at_ pp c
  unfold gat
  rw [e, hd, if_neg c, if_pos rfl, if_neg c, if_pos rfl, if_neg (by decide), if_pos rfl]
  exact ⟨ne, l1, l2⟩
/-! #### for how many rows of bits a place is true -/
def sc (vars : Int) (L : List S71) : Nat → Int → Int → Int
  | 0, _, _ => 0
  | m + 1, n, v => if n < 2 then n * 2 ^ (vars - v).toNat else (sc vars L m (gat L n (dvar vars L n) false) (dvar vars L n + 1) + sc vars L m (gat L n (dvar vars L n) true) (dvar vars L n + 1)) * 2 ^ (dvar vars L n - v).toNat
theorem sc_same {vars : Int} {L : List S71} (h : DV vars L) : ∀ (m m2 : Nat) (n v : Int), Pl L n → vars - dvar vars L n < m → vars - dvar vars L n < m2 → sc vars L m n v = sc vars L m2 n v := by
  intro m
  induction m with
  | zero =>
    intro m2 n v p h1 _
    have := (h.dvar_le p).2
    omega
  | succ m ih =>
    intro m2 n v p h1 h2
    cases m2 with
    | zero =>
      have := (h.dvar_le p).2
      omega
    | succ m2 =>
      unfold sc
      by_cases c : n < 2
      · rw [if_pos c, if_pos c]
      · have f := fun hi => gat_ok h p (Int.le_refl _) ((dvar_two h p).2 c) hi
        rw [if_neg c, if_neg c, ih m2 _ _ (f false).1 (by have := (f false).2; omega) (by have := (f false).2; omega), ih m2 _ _ (f true).1 (by have := (f true).2; omega) (by have := (f true).2; omega)]
def scP (vars : Int) (L : List S71) (n v : Int) : Int := sc vars L 13 n v
theorem scP_const {vars : Int} {L : List S71} {n : Int} (c : n < 2) (v : Int) : scP vars L n v = n * 2 ^ (vars - v).toNat := by
  unfold scP sc
  rw [if_pos c]
theorem scP_fork {vars : Int} {L : List S71} (h : DV vars L) {n : Int} (p : Pl L n) (c : ¬ n < 2) (v : Int) : scP vars L n v = (scP vars L (gat L n (dvar vars L n) false) (dvar vars L n + 1) + scP vars L (gat L n (dvar vars L n) true) (dvar vars L n + 1)) * 2 ^ (dvar vars L n - v).toNat := by
  have f := fun hi => gat_ok h p (Int.le_refl _) ((dvar_two h p).2 c) hi
  have a0 := (h.dvar_le p).1
  have a1 := h.v12
  unfold scP
  rw [sc.eq_2, if_neg c, sc_same h 12 13 _ _ (f false).1 (by have := (f false).2; omega) (by have := (f false).2; omega), sc_same h 12 13 _ _ (f true).1 (by have := (f true).2; omega) (by have := (f true).2; omega)]
theorem two_split (a b : Nat) : (2 : Int) ^ (a + b) = 2 ^ a * 2 ^ b := Int.pow_add 2 a b
theorem sc_shift {vars : Int} {L : List S71} (h : DV vars L) {n v w : Int} (p : Pl L n) (h1 : v ≤ w) (h2 : w ≤ dvar vars L n) : scP vars L n v = scP vars L n w * 2 ^ (w - v).toNat := by
  by_cases c : n < 2
  · have hd := dvar_const (vars := vars) (L := L) c
    rw [scP_const c, scP_const c, show (vars - v).toNat = (vars - w).toNat + (w - v).toNat by omega, two_split, Int.mul_assoc]
  · rw [scP_fork h p c, scP_fork h p c, show (dvar vars L n - v).toNat = (dvar vars L n - w).toNat + (w - v).toNat by omega, two_split, Int.mul_assoc]
theorem pow_small {m : Nat} (h : m ≤ 12) : 1 ≤ (2 : Int) ^ m ∧ (2 : Int) ^ m ≤ 4096 := by
  have e : (2 : Int) ^ m = ((2 ^ m : Nat) : Int) := by simp
  have h1 : (2 : Nat) ^ m ≤ 2 ^ 12 := Nat.pow_le_pow_right (by decide) h
  have h2 : 0 < (2 : Nat) ^ m := Nat.pow_pos (by decide)
  have e12 : (2 : Nat) ^ 12 = 4096 := by decide
  rw [e]
  omega
theorem sc_bound {vars : Int} {L : List S71} (h : DV vars L) : ∀ (m : Nat) (n v : Int), Pl L n → vars - dvar vars L n < m → 0 ≤ v → v ≤ dvar vars L n → 0 ≤ scP vars L n v ∧ scP vars L n v ≤ 2 ^ (vars - v).toNat := by
  intro m
  induction m with
  | zero =>
    intro n v p h1 _ _
    have := (h.dvar_le p).2
    omega
  | succ m ih =>
    intro n v p h1 v0 v1
    have h12 := h.v12
    have hd2 := (h.dvar_le p).2
    have pw := (pow_small (m := (vars - v).toNat) (by omega)).1
    by_cases c : n < 2
    · rw [scP_const c]
      have hn : n = 0 ∨ n = 1 := by have := p.1; omega
      rcases hn with rfl | rfl
      · rw [Int.zero_mul]
        omega
      · rw [Int.one_mul]
        omega
    · have hv := (dvar_two h p).2 c
      have f := fun hi => gat_ok h p (Int.le_refl _) hv hi
      obtain ⟨a0, a1⟩ := ih _ (dvar vars L n + 1) (f false).1 (by have := (f false).2; omega) (by omega) (by have := (f false).2; omega)
      obtain ⟨b0, b1⟩ := ih _ (dvar vars L n + 1) (f true).1 (by have := (f true).2; omega) (by omega) (by have := (f true).2; omega)
      rw [scP_fork h p c]
      have e : (2 : Int) ^ (vars - v).toNat = (2 ^ (vars - (dvar vars L n + 1)).toNat + 2 ^ (vars - (dvar vars L n + 1)).toNat) * 2 ^ (dvar vars L n - v).toNat := by
        rw [show (vars - v).toNat = (vars - (dvar vars L n + 1)).toNat + 1 + (dvar vars L n - v).toNat by omega, two_split, Int.pow_succ]
        congr 1
        omega
      rw [e]
      have hp := (pow_small (m := (dvar vars L n - v).toNat) (by omega)).1
      exact ⟨Int.mul_nonneg (by omega) (by omega), Int.mul_le_mul_of_nonneg_right (by omega) (by omega)⟩
theorem scP_bound {vars : Int} {L : List S71} (h : DV vars L) {n : Int} (p : Pl L n) : 0 ≤ scP vars L n 0 ∧ scP vars L n 0 ≤ 4096 := by
  have a0 := (h.dvar_le p).1
  have a1 := h.v12
  have hb := sc_bound h 13 n 0 p (by omega) (Int.le_refl _) a0
  have := (pow_small (m := (vars - 0).toNat) (by omega)).2
  omega
theorem shl_bit {n : Int} (hn : n = 0 ∨ n = 1) {vars : Int} (h0 : 0 ≤ vars) (h1 : vars ≤ 12) : shl .i64 n vars = n * 2 ^ vars.toNat := by
  obtain ⟨m, rfl⟩ := Int.eq_ofNat_of_zero_le h0
  have : m = 0 ∨ m = 1 ∨ m = 2 ∨ m = 3 ∨ m = 4 ∨ m = 5 ∨ m = 6 ∨ m = 7 ∨ m = 8 ∨ m = 9 ∨ m = 10 ∨ m = 11 ∨ m = 12 := by omega
  rcases hn with rfl | rfl <;> rcases this with rfl | rfl | rfl | rfl | rfl | rfl | rfl | rfl | rfl | rfl | rfl | rfl | rfl <;> decide +kernel
theorem count_cl {vars : Int} {L : List S71} (h : DV vars L) : ∀ (m : Nat) (n : Int) (mm : Int → Option Int), (∀ q r, mm q = some r → Pl L q ∧ r = scP vars L q 0) → Pl L n → vars - dvar vars L n < m →
    ∃ mm', Ev (fun k => impl_Diagram_count.cl k vars L n mm) (mm', scP vars L n 0) ∧ ∀ q r, mm' q = some r → Pl L q ∧ r = scP vars L q 0 := by
  intro m
  induction m with
  | zero =>
    intro n mm _ p h1
    have := (h.dvar_le p).2
    omega
  | succ m ih =>
    intro n mm hm p h1
    have p0 := p.1
    have p1 := p.2
    have hl := h.len
    have v0 := h.v0
    have v12 := h.v12
    by_cases c : n < 2
    · refine ⟨mm, Ev.step (Ev.pos c (Ev.pos (by omega) (Ev.valEq ?_))) (fun k => impl_Diagram_count.cl.eq_2 ..), hm⟩
      rw [shl_bit (by omega) v0 v12, scP_const c, show (vars - 0).toNat = vars.toNat by omega]
    · have hk : KeyI n := keyI p0 (by omega)
      cases hq : mm n with
      | some r =>
        refine ⟨mm, Ev.step (Ev.neg c (Ev.pos hk ?_)) (fun k => impl_Diagram_count.cl.eq_2 ..), hm⟩
        rw [hq, (hm n r hq).2]
        exact Ev.val _
      | none =>
        have hv := (dvar_two h p).2 c
        have hd0 := (h.dvar_le p).1
        have f := fun hi => gat_ok h p (Int.le_refl _) hv hi
        have g1 : (rd_T71 L (n - 2)).f1 = gat L n (dvar vars L n) false := by rw [gat_self c]; rfl
        have g2 : (rd_T71 L (n - 2)).f2 = gat L n (dvar vars L n) true := by rw [gat_self c]; rfl
        obtain ⟨m1, e1, k1⟩ := ih _ mm hm (f false).1 (by have := (f false).2; omega)
        obtain ⟨m2, e2, k2⟩ := ih _ m1 k1 (f true).1 (by have := (f true).2; omega)
        have b1 := scP_bound h (f false).1
        have b2 := scP_bound h (f true).1
        have s1 := sc_shift h (v := 0) (w := dvar vars L n + 1) (f false).1 (by omega) (by have := (f false).2; omega)
        have s2 := sc_shift h (v := 0) (w := dvar vars L n + 1) (f true).1 (by omega) (by have := (f true).2; omega)
        have hr : wrap64 ((wrap64 (scP vars L (gat L n (dvar vars L n) false) 0 + scP vars L (gat L n (dvar vars L n) true) 0)).tdiv 2) = scP vars L n 0 := by
          rw [w_id (x := scP vars L (gat L n (dvar vars L n) false) 0 + scP vars L (gat L n (dvar vars L n) true) 0) (by omega) (by omega), Int.tdiv_eq_ediv_of_nonneg (by omega), w_id (by omega) (by omega), scP_fork h p c, s1, s2, ← Int.add_mul, show (dvar vars L n + 1 - 0).toNat = (dvar vars L n - 0).toNat + 1 by omega, Int.pow_succ, ← Int.mul_assoc, Int.mul_ediv_cancel _ (by decide)]
        refine ⟨fun y => if y = n then some (scP vars L n 0) else m2 y, Ev.step (Ev.neg c (Ev.pos hk ?_)) (fun k => impl_Diagram_count.cl.eq_2 ..), fun q r hq2 => ?_⟩
        · rw [hq, w_id (by omega) (by omega), g1, g2]
          refine Ev.pos (by omega) (Ev.pos (by omega) (Ev.bind e1 (Ev.bind e2 (Ev.valEq ?_))))
          simp only [hr]
        · by_cases e : q = n
          · subst e
            have : scP vars L q 0 = r := by simpa using hq2
            exact ⟨p, this.symm⟩
          · have : m2 q = some r := by simpa [e] using hq2
            exact k2 q r this
theorem diagramCount_val {vars : Int} {L : List S71} (h : DV vars L) {n : Int} (p : Pl L n) : Ev (fun k => impl_DiagramCount.f k vars L n) (scP vars L n 0) := by
  unfold impl_DiagramCount.f
  have hl := h.len
  have a0 := (h.dvar_le p).1
  have a1 := h.v12
  obtain ⟨q, hq, h1⟩ := impl_dv vars L
  have hq1 : q = true := h1.2 h
  subst hq1
  obtain ⟨mm', e, _⟩ := count_cl h 13 n (fun _ => none) (fun q r hq => by cases hq) p (by omega)
  refine Ev.bind (Ev.const hq) (Ev.pos rfl (Ev.bind (Ev.const (isPlace_val vars n (by omega))) ?_))
  rw [@decide_eq_true _ (decPl L n) p]
  refine Ev.pos rfl (Ev.bind (a := scP vars L n 0) ?_ (Ev.val _))
  unfold impl_Diagram_count.f
  exact Ev.bind e (Ev.val _)
/-! #### the least row of a diagram -/
def rwF (L : List S71) : Nat → Int → Int → List Int
  | 0, _, _ => []
  | d + 1, v, c => (if gat L c v false = 0 then 1 else 0) :: rwF L d (v + 1) (gat L c v (decide (gat L c v false = 0)))
theorem rwF_len (L : List S71) : ∀ (d : Nat) (v c : Int), (rwF L d v c).length = d
  | 0, _, _ => rfl
  | d + 1, v, c => by
    unfold rwF
    rw [List.length_cons, rwF_len L d]
theorem rwF_bits (L : List S71) : ∀ (d : Nat) (v c : Int), ∀ x ∈ rwF L d v c, x = 0 ∨ x = 1
  | 0, _, _ => fun x hx => by (simp [rwF] at hx)
  | d + 1, v, c => fun x hx => by
    unfold rwF at hx
    rcases List.mem_cons.mp hx with rfl | h
    · split
      · exact .inr rfl
      · exact .inl rfl
    · exact rwF_bits L d _ _ x h
theorem gat_const {L : List S71} {n v : Int} (c : n < 2) (hi : Bool) : gat L n v hi = n := by
  unfold gat
  rw [if_pos c]
/-- A place that is not the empty one, read at the least of its variables' side. -/
theorem rw_next {vars : Int} {L : List S71} (h : DV vars L) {c v : Int} (p : Pl L c) (c0 : c ≠ 0) (hv : v ≤ dvar vars L c) (hvv : v < vars) :
    Pl L (gat L c v (decide (gat L c v false = 0))) ∧ v + 1 ≤ dvar vars L (gat L c v (decide (gat L c v false = 0))) ∧ gat L c v (decide (gat L c v false = 0)) ≠ 0 := by
  have g := gat_ok h p hv hvv (decide (gat L c v false = 0))
  refine ⟨g.1, by have := g.2; omega, ?_⟩
  by_cases e : gat L c v false = 0
  · rw [decide_eq_true e]
    by_cases c2 : c < 2
    · rw [gat_const c2] at e
      exact absurd e c0
    · by_cases hd : v = dvar vars L c
      · have := (gat_ne h p c2).1
        rw [← hd, e] at this
        exact fun e2 => this e2.symm
      · rw [gat_above (vars := vars) (by omega)] at e
        exact absurd e c0
  · rw [decide_eq_false e]
    exact e
theorem spec_row_loop {vars : Int} {L : List S71} (h : DV vars L) : ∀ (d v : Nat) (c : Int) (out : List Int), (v : Int) + d = vars → out.length ≤ v → Pl L c → c ≠ 0 → (v : Int) ≤ dvar vars L c → Ev (fun k => spec_DiagramRow.l0 k c out (v : Int) vars L) (out ++ rwF L d (v : Int) c) := by
  have h12 := h.v12
  intro d
  induction d with
  | zero =>
    intro v c out hv _ _ _ _
    unfold rwF
    rw [List.append_nil]
    exact Ev.step (Ev.neg (by omega) (Ev.val _)) (fun k => spec_DiagramRow.l0.eq_2 ..)
  | succ d ih =>
    intro v c out hv ho p c0 hd
    have a0 : spec_l8At.f vars L c (v : Int) 0 = some (gat L c (v : Int) false) := l8At_val h p (by omega) 0
    have a1 : spec_l8At.f vars L c (v : Int) 1 = some (gat L c (v : Int) true) := l8At_val h p (by omega) 1
    obtain ⟨n1, n2, n3⟩ := rw_next h p c0 hd (by omega)
    refine Ev.step (Ev.pos (by omega) (Ev.bind (Ev.const a0) ?_)) (fun k => spec_DiagramRow.l0.eq_2 ..)
    unfold rwF
    rw [wsucc v (by omega)]
    by_cases e : gat L c (v : Int) false = 0
    · rw [decide_eq_true e] at n1 n2 n3 ⊢
      have := ih (v + 1) _ (out ++ [1]) (by omega) (by simp; omega) n1 n3 (by omega)
      rw [if_pos e, show out ++ 1 :: rwF L d ((v : Int) + 1) (gat L c (v : Int) true) = out ++ [1] ++ rwF L d (((v + 1 : Nat)) : Int) (gat L c (v : Int) true) by rw [List.append_assoc]; rfl]
      exact Ev.pos e (Ev.pos (by omega) (Ev.bind (Ev.const a1) this))
    · rw [decide_eq_false e] at n1 n2 n3 ⊢
      have := ih (v + 1) _ (out ++ [0]) (by omega) (by simp; omega) n1 n3 (by omega)
      rw [if_neg e, show out ++ 0 :: rwF L d ((v : Int) + 1) (gat L c (v : Int) false) = out ++ [0] ++ rwF L d (((v + 1 : Nat)) : Int) (gat L c (v : Int) false) by rw [List.append_assoc]; rfl]
      exact Ev.neg e (Ev.pos (by omega) (Ev.bind (Ev.const a0) this))
theorem impl_row_loop {vars : Int} {L : List S71} (h : DV vars L) : ∀ (d v : Nat) (c : Int) (pre : List Int), (v : Int) + d = vars → pre.length = v → Pl L c → c ≠ 0 → (v : Int) ≤ dvar vars L c → Ev (fun k => impl_DiagramRow.l0 k c (pre ++ List.replicate d 0) vars L) (pre ++ rwF L d (v : Int) c) := by
  have h12 := h.v12
  have hl := h.len
  intro d
  induction d with
  | zero =>
    intro v c pre hv hp p c0 hd
    unfold rwF
    have c2 : c < 2 := by
      refine Classical.byContradiction (fun c2 => ?_)
      have := (dvar_two h p).2 c2
      omega
    rw [List.replicate_zero, List.append_nil]
    refine Ev.step (Ev.neg (by omega) (Ev.bind (a := pre) (Ev.const ?_) (Ev.val _))) (fun k => impl_DiagramRow.l0.eq_2 ..)
    unfold impl_clone_int.f
    rw [if_pos (by omega)]
  | succ d ih =>
    intro v c pre hv hp p c0 hd
    obtain ⟨n1, n2, n3⟩ := rw_next h p c0 hd (by omega)
    unfold rwF
    by_cases hlt : (v : Int) < dvar vars L c
    · have g0 : ∀ hi, gat L c (v : Int) hi = c := fun hi => gat_above (vars := vars) hlt hi
      rw [g0, decide_eq_false c0, g0, if_neg c0]
      have := ih (v + 1) c (pre ++ [0]) (by omega) (by simp; omega) p c0 (by omega)
      rw [List.append_assoc, List.append_assoc] at this
      exact this
    · have hd2 : dvar vars L c = (v : Int) := by omega
      have c2 : ¬ c < 2 := (dvar_two h p).1 (by omega)
      have p1 := p.2
      have gs0 : (rd_T71 L (c - 2)).f0 = (v : Int) := by rw [← dvar_self (vars := vars) c2]; exact hd2
      have gs1 : (rd_T71 L (c - 2)).f1 = gat L c (v : Int) false := by rw [← hd2, gat_self c2]; rfl
      have gs2 : (rd_T71 L (c - 2)).f2 = gat L c (v : Int) true := by rw [← hd2, gat_self c2]; rfl
      refine Ev.step ?_ (fun k => impl_DiagramRow.l0.eq_2 ..)
      rw [w_id (show -9223372036854775808 ≤ c - 2 by omega) (by omega), gs0, gs1, gs2]
      refine Ev.pos (by omega) (Ev.pos (by omega) (Ev.pos (by omega) ?_))
      by_cases e : gat L c (v : Int) false = 0
      · rw [decide_eq_true e] at n1 n2 n3 ⊢
        have := ih (v + 1) _ (pre ++ [1]) (by omega) (by simp; omega) n1 n3 (by omega)
        refine Ev.pos e (Ev.pos (by omega) (Ev.pos (by rw [List.length_append, List.length_replicate]; omega) ?_))
        have es : (pre ++ List.replicate (d + 1) (0 : Int)).set ((v : Int)).toNat 1 = pre ++ [1] ++ List.replicate d 0 := by
          rw [Int.toNat_natCast, List.set_append_right _ _ (by omega), hp, Nat.sub_self, List.replicate_succ, List.set_cons_zero, List.append_assoc]
          rfl
        rw [es, if_pos e, show pre ++ 1 :: rwF L d ((v : Int) + 1) (gat L c (v : Int) true) = pre ++ [1] ++ rwF L d (((v + 1 : Nat)) : Int) (gat L c (v : Int) true) by rw [List.append_assoc]; rfl]
        exact this
      · rw [decide_eq_false e] at n1 n2 n3 ⊢
        have := ih (v + 1) _ (pre ++ [0]) (by omega) (by simp; omega) n1 n3 (by omega)
        refine Ev.neg e ?_
        rw [show pre ++ List.replicate (d + 1) (0 : Int) = pre ++ [0] ++ List.replicate d 0 by rw [List.append_assoc, List.replicate_succ]; rfl, if_neg e, show pre ++ 0 :: rwF L d ((v : Int) + 1) (gat L c (v : Int) false) = pre ++ [0] ++ rwF L d (((v + 1 : Nat)) : Int) (gat L c (v : Int) false) by rw [List.append_assoc]; rfl]
        exact this
theorem rd_mid (pre t : List Int) (b : Int) : rd (pre ++ b :: t) ((pre.length : Nat) : Int) = b := by
  rw [rd_lt (by simp)]
  simp
/-- The row's value is one. -/
theorem row_val {vars : Int} {L : List S71} (h : DV vars L) (row : List Int) : ∀ (d v : Nat) (c : Int) (pre : List Int), (v : Int) + d = vars → pre.length = v → Pl L c → c ≠ 0 → (v : Int) ≤ dvar vars L c → row = pre ++ rwF L d (v : Int) c → dvP vars L row c = 1 := by
  intro d
  induction d with
  | zero =>
    intro v c pre hv hp p c0 hd _
    have c2 : c < 2 := by
      refine Classical.byContradiction (fun c2 => ?_)
      have := (dvar_two h p).2 c2
      omega
    rw [dvP_const c2]
    have := p.1
    omega
  | succ d ih =>
    intro v c pre hv hp p c0 hd hr
    obtain ⟨n1, n2, n3⟩ := rw_next h p c0 hd (by omega)
    unfold rwF at hr
    have hb : rd row (v : Int) = if gat L c (v : Int) false = 0 then 1 else 0 := by rw [hr, ← hp, rd_mid]
    have eb : decide (rd row (v : Int) = 1) = decide (gat L c (v : Int) false = 0) := by
      rw [hb]
      by_cases e : gat L c (v : Int) false = 0
      · rw [if_pos e, decide_eq_true e]
        rfl
      · rw [if_neg e, decide_eq_false e]
        rfl
    rw [← dvP_gat h row p (v := (v : Int)), eb]
    exact ih (v + 1) _ (pre ++ [if gat L c (v : Int) false = 0 then 1 else 0]) (by omega) (by simp; omega) n1 n3 (by omega) (by rw [List.append_assoc]; exact hr)
/-- Fixing the least variable: nothing is added. -/
theorem fix_least {vars : Int} {L : List S71} (h : DV vars L) {c v bit : Int} (p : Pl L c) (v0 : 0 ≤ v) (hv : v ≤ dvar vars L c) (hvv : v < vars) (hb : bit = 0 ∨ bit = 1) : Ev (fun k => impl_DiagramFix.f k vars L c v bit) (vars, L, gat L c v (decide (bit = 1))) := by
  have e : fxP vars L v (decide (bit = 1)) c = .leaf (gat L c v (decide (bit = 1))) := by
    by_cases c1 : v < dvar vars L c
    · rw [fxP_over _ c1, gat_above (vars := vars) c1]
    · exact fxP_at _ (by omega)
  refine fix_v ⟨fun _ => ?_, fun hn => absurd ⟨h, p, ⟨v0, by omega⟩, by omega⟩ hn⟩
  rw [e]
  have g := (gat_ok h p hv hvv (decide (bit = 1))).1.1
  unfold told ins
  rw [if_neg (by simp only; omega)]
theorem shl_mul {x y : Int} (x0 : 0 ≤ x) (x1 : x ≤ 4096) (y0 : 0 ≤ y) (y1 : y ≤ 12) : shl .i64 x y = x * 2 ^ y.toNat := by
  have h := shl_small (k := .i64) (x := x) (y := y) rfl (by show y ≤ 64; omega)
  rw [← h, i64_w]
  have p := pow_small (m := y.toNat) (by omega)
  refine w_id (by have := Int.mul_nonneg x0 (show 0 ≤ (2 : Int) ^ y.toNat by omega); omega) ?_
  have := Int.mul_le_mul x1 p.2 (by omega) (by omega)
  omega
theorem spec_count {vars : Int} {L : List S71} (h : DV vars L) : ∀ (m : Nat) (n v : Int), Pl L n → vars - dvar vars L n < m → 0 ≤ v → v ≤ dvar vars L n → Ev (fun k => spec_l8Count.f k vars L n v) (scP vars L n v) := by
  have h12 := h.v12
  have hl := h.len
  intro m
  induction m with
  | zero =>
    intro n v p h1 _ _
    have := (h.dvar_le p).2
    omega
  | succ m ih =>
    intro n v p h1 v0 v1
    have p0 := p.1
    have p1 := p.2
    have hd2 := (h.dvar_le p).2
    by_cases c : n < 2
    · refine Ev.step (Ev.pos c (Ev.pos (by rw [w_id (by omega) (by omega)]; omega) (Ev.valEq ?_))) (fun k => spec_l8Count.f.eq_2 ..)
      rw [w_id (by omega) (by omega), scP_const c]
      exact shl_mul p0 (by omega) (by omega) (by omega)
    · have hv := (dvar_two h p).2 c
      have hv0 := (h.dvar_le p).1
      have f := fun hi => gat_ok h p (Int.le_refl _) hv hi
      have g0 : (rd_T71 L (n - 2)).f0 = dvar vars L n := (dvar_self c).symm
      have g1 : (rd_T71 L (n - 2)).f1 = gat L n (dvar vars L n) false := by rw [gat_self c]; rfl
      have g2 : (rd_T71 L (n - 2)).f2 = gat L n (dvar vars L n) true := by rw [gat_self c]; rfl
      have b0 := sc_bound h 13 _ (dvar vars L n + 1) (f false).1 (by have := (f false).2; omega) (by omega) (by have := (f false).2; omega)
      have b1 := sc_bound h 13 _ (dvar vars L n + 1) (f true).1 (by have := (f true).2; omega) (by omega) (by have := (f true).2; omega)
      have pw := pow_small (m := (vars - (dvar vars L n + 1)).toNat) (by omega)
      have pw2 : (2 : Int) ^ (vars - (dvar vars L n + 1)).toNat ≤ 2048 := by
        have hm : (vars - (dvar vars L n + 1)).toNat ≤ 11 := by omega
        generalize (vars - (dvar vars L n + 1)).toNat = q at hm
        have : q = 0 ∨ q = 1 ∨ q = 2 ∨ q = 3 ∨ q = 4 ∨ q = 5 ∨ q = 6 ∨ q = 7 ∨ q = 8 ∨ q = 9 ∨ q = 10 ∨ q = 11 := by omega
        rcases this with rfl | rfl | rfl | rfl | rfl | rfl | rfl | rfl | rfl | rfl | rfl | rfl <;> decide
      refine Ev.step (Ev.neg c ?_) (fun k => spec_l8Count.f.eq_2 ..)
      rw [w_id (show -9223372036854775808 ≤ n - 2 by omega) (by omega), g0, g1, g2, w_id (show -9223372036854775808 ≤ dvar vars L n + 1 by omega) (by omega), w_id (show -9223372036854775808 ≤ dvar vars L n - v by omega) (by omega)]
      refine Ev.pos (by omega) (Ev.pos (by omega) (Ev.bind (ih _ _ (f false).1 (by have := (f false).2; omega) (by omega) (by have := (f false).2; omega)) (Ev.bind (ih _ _ (f true).1 (by have := (f true).2; omega) (by omega) (by have := (f true).2; omega)) (Ev.pos (by omega) (Ev.valEq ?_)))))
      rw [w_id (by omega) (by omega), scP_fork h p c]
      exact shl_mul (by omega) (by omega) (by omega) (by omega)
theorem spec_count_val {vars : Int} {L : List S71} (h : DV vars L) {n : Int} (p : Pl L n) : Ev (fun k => spec_DiagramCount.f k vars L n) (scP vars L n 0) := by
  have hl := h.len
  have a0 := (h.dvar_le p).1
  obtain ⟨q, hq, h1⟩ := spec_dv vars L
  obtain rfl : q = true := h1.2 h
  unfold spec_DiagramCount.f
  refine Ev.bind hq (Ev.pos rfl (Ev.bind (Ev.const (place_val L n (by omega))) ?_))
  rw [@decide_eq_true _ (decPl L n) p]
  exact Ev.pos rfl (Ev.bind (spec_count h 13 n 0 p (by have := h.v12; omega) (Int.le_refl _) a0) (Ev.val _))

theorem draw_row (code : List Int) (hc : ∀ x ∈ code, (Lit.int .u8 x).wf = true) : Tot (fun k => spec_DrawDiagramRow.f k code) (fun _ => True) := by
  obtain ⟨b, ho, hb⟩ := open_tot code hc
  unfold spec_DrawDiagramRow.f
  refine Tot.bind (Tot.of (Ev.const ho) (P := fun r => r = (b, 0)) rfl) ?_
  rintro r rfl
  exact Tot.bind (any_tot b hb 0 6 (by decide) (by decide) (by decide) (by decide)) (fun _ _ => Tot.val trivial)
theorem wc_loop (l : List Int) (hl : l.length ≤ 1048576) : ∀ (d i : Nat), i + d = l.length → Ev (fun k => laws_wcInts.l0 k l l (l.length : Int) (i : Int)) true := by
  intro d
  induction d with
  | zero =>
    intro i hi
    exact Ev.step (Ev.neg (by omega) (Ev.val _)) (fun k => laws_wcInts.l0.eq_2 ..)
  | succ d ih =>
    intro i hi
    refine Ev.step (Ev.pos (by omega) (Ev.pos (by omega) (Ev.pos (by omega) (Ev.pos (by omega) (Ev.pos rfl ?_))))) (fun k => laws_wcInts.l0.eq_2 ..)
    rw [wsucc i (by omega)]
    exact ih (i + 1) (by omega)
theorem wc_same (l : List Int) (hl : l.length ≤ 1048576) : Ev (fun k => laws_wcInts.f k l l) true := by
  unfold laws_wcInts.f
  exact Ev.pos rfl (wc_loop l hl l.length 0 (by omega))
theorem row_l1 {vars : Int} {L : List S71} (h : DV vars L) (n : Int) (row : List Int) (hrl : (row.length : Int) = vars) (i : Nat) (hi : (i : Int) < vars) (h1 : ¬ rd row (i : Int) = 0) (r : Bool)
    (rest : Ev (fun k => laws_FnDiagramRow.l0 k n row row (row.length : Int) (((i + 1 : Nat)) : Int) vars L) r) : ∀ (e j d : Nat) (c : Int) (pre : List Int), j + e = i → (j : Int) + d = vars → pre.length = j → Pl L c → c ≠ 0 → (j : Int) ≤ dvar vars L c → row = pre ++ rwF L d (j : Int) c →
    Ev (fun k => laws_FnDiagramRow.l1 k n row (i : Int) c row (row.length : Int) (i : Int) (i : Int) (j : Int) vars L vars L) r := by
  have h12 := h.v12
  intro e
  induction e with
  | zero =>
    intro j d c pre hj hd hp p c0 hdv hr
    obtain rfl : j = i := by omega
    obtain ⟨d, rfl⟩ : ∃ q, d = q + 1 := ⟨d - 1, by omega⟩
    unfold rwF at hr
    have hb : rd row (j : Int) = if gat L c (j : Int) false = 0 then 1 else 0 := by rw [hr, ← hp, rd_mid]
    have g0 : gat L c (j : Int) false = 0 := Classical.byContradiction (fun e => h1 (by rw [hb, if_neg e]))
    have fx := fix_least h p (v := (j : Int)) (bit := 0) (by omega) hdv hi (.inl rfl)
    rw [show decide ((0 : Int) = 1) = false by decide, g0] at fx
    have hc := diagramCount_val h (n := 0) ⟨Int.le_refl _, by omega⟩
    rw [scP_const (by decide), Int.zero_mul] at hc
    refine Ev.step (Ev.neg (by omega) (Ev.bind fx (Ev.bind hc (Ev.pos rfl ?_)))) (fun k => laws_FnDiagramRow.l1.eq_2 ..)
    rw [wsucc j (by omega)]
    exact rest
  | succ e ih =>
    intro j d c pre hj hd hp p c0 hdv hr
    obtain ⟨d, rfl⟩ : ∃ q, d = q + 1 := ⟨d - 1, by omega⟩
    obtain ⟨n1, n2, n3⟩ := rw_next h p c0 hdv (by omega)
    unfold rwF at hr
    have hb : rd row (j : Int) = if gat L c (j : Int) false = 0 then 1 else 0 := by rw [hr, ← hp, rd_mid]
    have b01 : rd row (j : Int) = 0 ∨ rd row (j : Int) = 1 := by
      rw [hb]
      split
      · exact .inr rfl
      · exact .inl rfl
    have eb : decide (rd row (j : Int) = 1) = decide (gat L c (j : Int) false = 0) := by
      rw [hb]
      by_cases e : gat L c (j : Int) false = 0
      · rw [if_pos e, decide_eq_true e]
        rfl
      · rw [if_neg e, decide_eq_false e]
        rfl
    have fx := fix_least h p (v := (j : Int)) (bit := rd row (j : Int)) (by omega) hdv (by omega) b01
    rw [eb] at fx
    refine Ev.step (Ev.pos (by omega) (Ev.pos (by omega) (Ev.pos (by omega) (Ev.bind fx ?_)))) (fun k => laws_FnDiagramRow.l1.eq_2 ..)
    rw [wsucc j (by omega)]
    have n4 : (((j + 1 : Nat)) : Int) ≤ dvar vars L (gat L c (j : Int) (decide (gat L c (j : Int) false = 0))) := by omega
    exact ih (j + 1) d (gat L c (j : Int) (decide (gat L c (j : Int) false = 0))) (pre ++ [if gat L c (j : Int) false = 0 then 1 else 0]) (by omega) (by omega) (by simp; omega) n1 n3 n4 (by rw [List.append_assoc]; exact hr)
theorem row_l0 {vars : Int} {L : List S71} (h : DV vars L) {n : Int} (p : Pl L n) (n0 : n ≠ 0) (m : Nat) (hm : (m : Int) = vars) (row : List Int) (hr : row = rwF L m 0 n) : ∀ (d i : Nat), i + d = m → Ev (fun k => laws_FnDiagramRow.l0 k n row row (row.length : Int) (i : Int) vars L) true := by
  have h12 := h.v12
  have hrl : row.length = m := by rw [hr, rwF_len]
  intro d
  induction d with
  | zero =>
    intro i hi
    exact Ev.step (Ev.neg (by omega) (Ev.val _)) (fun k => laws_FnDiagramRow.l0.eq_2 ..)
  | succ d ih =>
    intro i hi
    refine Ev.step (Ev.pos (by omega) (Ev.pos (by omega) (Ev.pos (by omega) ?_))) (fun k => laws_FnDiagramRow.l0.eq_2 ..)
    have rest := ih (i + 1) (by omega)
    by_cases c : rd row (i : Int) = 0
    · refine Ev.pos c ?_
      rw [wsucc i (by omega)]
      exact rest
    · exact Ev.neg c (row_l1 h n row (by omega) i (by omega) c true rest i 0 m n [] (by omega) (by omega) rfl p n0 (h.dvar_le p).1 hr)
theorem FnDiagramRow : laws_FnDiagramRow.Pure := by
  intro code _ _ hc
  apply Ev.get
  unfold laws_FnDiagramRow.f
  by_cases c0 : (code.length : Int) > 1048576
  · exact Ev.pos c0 (Ev.val _)
  refine Ev.neg c0 ?_
  obtain ⟨⟨vars, L, n⟩, hdraw, _⟩ := draw_row code hc
  refine Ev.bind hdraw ?_
  simp only
  have wc0 : Ev (fun k => laws_wcInts.f k [] []) true := wc_same [] (by decide)
  have ie : Ev (fun k => impl_DiagramRow.j0 k n true vars L) [] := Ev.step (Ev.pos rfl (Ev.val _)) (fun k => impl_DiagramRow.j0.eq_2 ..)
  have se : Ev (fun k => spec_DiagramRow.j0 k n [] true vars L) [] := Ev.step (Ev.pos rfl (Ev.val _)) (fun k => spec_DiagramRow.j0.eq_2 ..)
  obtain ⟨qi, hqi, hi1⟩ := impl_dv vars L
  obtain ⟨qs, hqs, hs1⟩ := spec_dv vars L
  by_cases hd : DV vars L
  · obtain rfl : qi = true := hi1.2 hd
    obtain rfl : qs = true := hs1.2 hd
    have hl := hd.len
    have h12 := hd.v12
    have h0 := hd.v0
    by_cases p : Pl L n
    · have ci := diagramCount_val hd p
      have cs := spec_count_val hd p
      have bits := scP_bound hd p
      by_cases n0 : n = 0
      · subst n0
        have ri : Ev (fun k => impl_DiagramRow.f k vars L 0) [] := by
          unfold impl_DiagramRow.f
          refine Ev.bind (Ev.const hqi) (Ev.pos rfl (Ev.bind (Ev.const (isPlace_val vars 0 (by omega))) ?_))
          rw [@decide_eq_true _ (decPl L 0) p]
          exact Ev.pos rfl ie
        have rs : Ev (fun k => spec_DiagramRow.f k vars L 0) [] := by
          unfold spec_DiagramRow.f
          refine Ev.bind (a := []) (Ev.val _) (Ev.bind hqs (Ev.pos rfl (Ev.bind (Ev.const (place_val L 0 (by omega))) ?_)))
          rw [@decide_eq_true _ (decPl L 0) p]
          exact Ev.pos rfl se
        rw [scP_const (by decide), Int.zero_mul] at ci cs
        exact Ev.bind ri (Ev.bind rs (Ev.bind wc0 (Ev.pos rfl (Ev.bind ci (Ev.bind cs (Ev.step (Ev.neg (by decide) (Ev.pos rfl (Ev.bind ci (Ev.pos (by decide) (Ev.val _))))) (fun k => laws_FnDiagramRow.j0.eq_2 ..)))))))
      · obtain ⟨m, hm⟩ := Int.eq_ofNat_of_zero_le h0
        have hn : (n == 0) = false := beq_eq_false_iff_ne.mpr n0
        have hd0 := (hd.dvar_le p).1
        have ri : Ev (fun k => impl_DiagramRow.f k vars L n) (rwF L m 0 n) := by
          unfold impl_DiagramRow.f
          refine Ev.bind (Ev.const hqi) (Ev.pos rfl (Ev.bind (Ev.const (isPlace_val vars n (by omega))) ?_))
          rw [@decide_eq_true _ (decPl L n) p, hn]
          refine Ev.pos rfl (Ev.step (Ev.neg (by decide) (Ev.pos h0 (Ev.pos (by omega) ?_))) (fun k => impl_DiagramRow.j0.eq_2 ..))
          have := impl_row_loop hd m 0 n [] (by omega) rfl p n0 (by omega)
          rw [show vars.toNat = m by omega]
          exact this
        have rs : Ev (fun k => spec_DiagramRow.f k vars L n) (rwF L m 0 n) := by
          unfold spec_DiagramRow.f
          refine Ev.bind (a := []) (Ev.val _) (Ev.bind hqs (Ev.pos rfl (Ev.bind (Ev.const (place_val L n (by omega))) ?_)))
          rw [@decide_eq_true _ (decPl L n) p, hn]
          exact Ev.pos rfl (Ev.step (Ev.neg (by decide) (spec_row_loop hd m 0 n [] (by omega) (Nat.le_refl _) p n0 (by omega))) (fun k => spec_DiagramRow.j0.eq_2 ..))
        have hlen : (rwF L m 0 n).length = m := rwF_len L m 0 n
        refine Ev.bind ri (Ev.bind rs (Ev.bind (wc_same _ (by omega)) (Ev.pos rfl (Ev.bind ci (Ev.bind cs (Ev.step (Ev.neg (by simp) ?_) (fun k => laws_FnDiagramRow.j0.eq_2 ..)))))))
        by_cases m0 : m = 0
        · refine Ev.pos (by omega) (Ev.bind ci ?_)
          have hv : vars = 0 := by omega
          by_cases cc : scP vars L n 0 ≤ 0
          · exact Ev.pos cc (Ev.val _)
          · exact Ev.neg cc (Ev.valEq (by rw [hv]; rfl))
        · refine Ev.neg (by omega) ?_
          have hv := row_val hd (rwF L m 0 n) m 0 n [] (by omega) rfl p n0 (by omega) rfl
          have dvv := diagramValue_val hd p (rwF L m 0 n) (by omega) (fun j hj => by
            rw [rd_lt hj]
            exact rwF_bits L m 0 n _ (List.getElem_mem hj))
          rw [hv] at dvv
          exact Ev.bind dvv (Ev.pos rfl (row_l0 hd p n0 m (by omega) _ rfl m 0 (by omega)))
    · have ri : Ev (fun k => impl_DiagramRow.f k vars L n) [] := by
        unfold impl_DiagramRow.f
        refine Ev.bind (Ev.const hqi) (Ev.pos rfl (Ev.bind (Ev.const (isPlace_val vars n (by omega))) ?_))
        rw [@decide_eq_false _ (decPl L n) p]
        exact Ev.neg (by decide) ie
      have rs : Ev (fun k => spec_DiagramRow.f k vars L n) [] := by
        unfold spec_DiagramRow.f
        refine Ev.bind (a := []) (Ev.val _) (Ev.bind hqs (Ev.pos rfl (Ev.bind (Ev.const (place_val L n (by omega))) ?_)))
        rw [@decide_eq_false _ (decPl L n) p]
        exact Ev.neg (by decide) se
      have ci : Ev (fun k => impl_DiagramCount.f k vars L n) (-1) := by
        unfold impl_DiagramCount.f
        refine Ev.bind (Ev.const hqi) (Ev.pos rfl (Ev.bind (Ev.const (isPlace_val vars n (by omega))) ?_))
        rw [@decide_eq_false _ (decPl L n) p]
        exact Ev.neg (by decide) (Ev.val _)
      have cs : Ev (fun k => spec_DiagramCount.f k vars L n) (-1) := by
        unfold spec_DiagramCount.f
        refine Ev.bind hqs (Ev.pos rfl (Ev.bind (Ev.const (place_val L n (by omega))) ?_))
        rw [@decide_eq_false _ (decPl L n) p]
        exact Ev.neg (by decide) (Ev.val _)
      exact Ev.bind ri (Ev.bind rs (Ev.bind wc0 (Ev.pos rfl (Ev.bind ci (Ev.bind cs (Ev.step (Ev.neg (by decide) (Ev.pos rfl (Ev.bind ci (Ev.pos (by decide) (Ev.val _))))) (fun k => laws_FnDiagramRow.j0.eq_2 ..)))))))
  · obtain rfl : qi = false := by
      cases qi
      · rfl
      · exact absurd (hi1.1 rfl) hd
    obtain rfl : qs = false := by
      cases qs
      · rfl
      · exact absurd (hs1.1 rfl) hd
    have ri : Ev (fun k => impl_DiagramRow.f k vars L n) [] := by
      unfold impl_DiagramRow.f
      exact Ev.bind (Ev.const hqi) (Ev.neg (by decide) ie)
    have rs : Ev (fun k => spec_DiagramRow.f k vars L n) [] := by
      unfold spec_DiagramRow.f
      exact Ev.bind (a := []) (Ev.val _) (Ev.bind hqs (Ev.neg (by decide) se))
    have ci : Ev (fun k => impl_DiagramCount.f k vars L n) (-1) := by
      unfold impl_DiagramCount.f
      exact Ev.bind (Ev.const hqi) (Ev.neg (by decide) (Ev.val _))
    have cs : Ev (fun k => spec_DiagramCount.f k vars L n) (-1) := by
      unfold spec_DiagramCount.f
      exact Ev.bind hqs (Ev.neg (by decide) (Ev.val _))
    exact Ev.bind ri (Ev.bind rs (Ev.bind wc0 (Ev.pos rfl (Ev.bind ci (Ev.bind cs (Ev.step (Ev.neg (by decide) (Ev.pos rfl (Ev.bind ci (Ev.pos (by decide) (Ev.val _))))) (fun k => laws_FnDiagramRow.j0.eq_2 ..)))))))

end Go.Proofs.Ytpcompnmadpljaa.Pure
