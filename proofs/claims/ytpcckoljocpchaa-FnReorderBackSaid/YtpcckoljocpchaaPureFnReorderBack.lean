/- FnReorderBack: a diagram that is put into another order and back has the forks of the compacted one, whatever is drawn. -/
import Derived.Test.YtpcckoljocpchaaQFnReorderBackx15
namespace Go.Proofs.Ytpcckoljocpchaa.Pure
open Go.RowKit Go.Proofs.Ytpcckoljocpchaa.QFnReorderBack Go.Proofs.YtpcckoljocpchaaW.PrintWords Go.Proofs.YtpcckoljocpchaaW.PrintLast Go.Proofs.YtpcckoljocpchaaW.PrintMore
set_option linter.unusedVariables false
set_option linter.unusedSimpArgs false

/-! #### rounds -/
/-- From some number of rounds on, g tells r. -/
def Ev {α : Type} (g : Nat → Option α) (r : α) : Prop := ∃ K, ∀ k, K ≤ k → g k = some r
theorem Ev.val {α : Type} (r : α) : Ev (fun _ => some r) r := ⟨0, fun _ _ => rfl⟩
theorem Ev.valEq {α : Type} {r r' : α} (h : r = r') : Ev (fun _ => some r) r' := ⟨0, fun _ _ => by rw [h]⟩
theorem Ev.const {α : Type} {g : Option α} {r : α} (h : g = some r) : Ev (fun _ => g) r := ⟨0, fun _ _ => h⟩
theorem Ev.bind {α β : Type} {g : Nat → Option α} {f : Nat → α → Option β} {a : α} {b : β} (h : Ev g a) (h2 : Ev (fun k => f k a) b) : Ev (fun k => (g k).bind (f k)) b := by
 obtain ⟨K, hK⟩ := h
 obtain ⟨L, hL⟩ := h2
 exact ⟨max K L, fun k hk => by show (g k).bind (f k) = _; rw [hK k (by omega)]; exact hL k (by omega)⟩
theorem Ev.step {α : Type} {g g' : Nat → Option α} {r : α} (h : Ev g' r) (e : ∀ k, g (k + 1) = g' k) : Ev g r := by
 obtain ⟨K, hK⟩ := h
 exact ⟨K + 1, fun k hk => by
  obtain ⟨m, rfl⟩ : ∃ m, k = m + 1 := ⟨k - 1, by omega⟩
  rw [e]
  exact hK m (by omega)⟩
theorem Ev.pos {α : Type} {c : Prop} [Decidable c] {g g' : Nat → Option α} {r : α} (hc : c) (h : Ev g r) : Ev (fun k => if c then g k else g' k) r := by
 obtain ⟨K, hK⟩ := h
 exact ⟨K, fun k hk => by simp only [if_pos hc]; exact hK k hk⟩
theorem Ev.neg {α : Type} {c : Prop} [Decidable c] {g g' : Nat → Option α} {r : α} (hc : ¬ c) (h : Ev g' r) : Ev (fun k => if c then g k else g' k) r := by
 obtain ⟨K, hK⟩ := h
 exact ⟨K, fun k hk => by simp only [if_neg hc]; exact hK k hk⟩
theorem Ev.get {α : Type} {g : Nat → Option α} {r : α} (h : Ev g r) : ∃ k, g k = some r := by
 obtain ⟨K, hK⟩ := h
 exact ⟨K, hK K (Nat.le_refl _)⟩
theorem Ev.to {α : Type} {g : Nat → Option α} {r r' : α} (h : Ev g r) (e : r = r') : Ev g r' := e ▸ h
/-! #### numbers -/
theorem w_id {x : Int} (h0 : -9223372036854775808 ≤ x) (h1 : x ≤ 9223372036854775807) : wrap64 x = x := by
 unfold wrap64
 omega
/-! #### lists -/
theorem rd_nat (l : List Int) (i : Nat) : rd l (i : Int) = l.getD i 0 := by
 unfold rd
 rw [Int.toNat_natCast]
theorem getD_lt {α : Type} {l : List α} {i : Nat} (h : i < l.length) (d : α) : l.getD i d = l[i] := by
 rw [List.getD_eq_getElem?_getD, List.getElem?_eq_getElem h]
 rfl
theorem rd_lt {l : List Int} {i : Nat} (h : i < l.length) : rd l (i : Int) = l[i] := by rw [rd_nat, getD_lt h]
theorem rd_set_eq {l : List Int} {i : Nat} {v : Int} (h : i < l.length) : rd (l.set i v) (i : Int) = v := by
 rw [rd_lt (by simpa using h)]
 simp
theorem rd_set_ne {l : List Int} {i j : Nat} {v : Int} (h : i ≠ j) : rd (l.set i v) (j : Int) = rd l (j : Int) := by
 rw [rd_nat, rd_nat, List.getD_eq_getElem?_getD, List.getD_eq_getElem?_getD, List.getElem?_set_ne h]
theorem list_eq_rd {l m : List Int} (hl : l.length = m.length) (h : ∀ j : Nat, j < l.length → rd l (j : Int) = rd m (j : Int)) : l = m := by
 apply List.ext_getElem hl
 intro i h1 h2
 rw [← rd_lt h1, ← rd_lt h2]
 exact h i h1
theorem wsucc (i : Nat) (h : i ≤ 4611686018427387904) : wrap64 ((i : Int) + 1) = ((i + 1 : Nat) : Int) := by
 unfold wrap64
 omega
/-- g tells in the end whether p is so. -/
def Dec (g : Nat → Option Bool) (p : Prop) : Prop := ∃ b, Ev g b ∧ (b = true ↔ p)
/-! #### it tells something, of which P holds -/
def Tot {α : Type} (g : Nat → Option α) (P : α → Prop) : Prop := ∃ r, Ev g r ∧ P r
theorem Tot.of {α : Type} {g : Nat → Option α} {P : α → Prop} {r : α} (h : Ev g r) (hp : P r) : Tot g P := ⟨r, h, hp⟩
theorem Tot.val {α : Type} {P : α → Prop} {r : α} (h : P r) : Tot (fun _ => some r) P := ⟨r, Ev.val r, h⟩
theorem Tot.mono {α : Type} {g : Nat → Option α} {P Q : α → Prop} (h : Tot g P) (hq : ∀ r, P r → Q r) : Tot g Q := by
 obtain ⟨r, h1, h2⟩ := h
 exact ⟨r, h1, hq r h2⟩
theorem Tot.step {α : Type} {g g' : Nat → Option α} {P : α → Prop} (h : Tot g' P) (e : ∀ k, g (k + 1) = g' k) : Tot g P := by
 obtain ⟨r, h1, h2⟩ := h
 exact ⟨r, Ev.step h1 e, h2⟩
theorem Tot.bind {α β : Type} {g : Nat → Option α} {f : Nat → α → Option β} {Q : α → Prop} {P : β → Prop} (h : Tot g Q) (h2 : ∀ a, Q a → Tot (fun k => f k a) P) : Tot (fun k => (g k).bind (f k)) P := by
 obtain ⟨a, ha, hq⟩ := h
 obtain ⟨r, h1, h3⟩ := h2 a hq
 exact ⟨r, Ev.bind ha h1, h3⟩
theorem Tot.pos {α : Type} {c : Prop} [Decidable c] {g g' : Nat → Option α} {P : α → Prop} (hc : c) (h : Tot g P) : Tot (fun k => if c then g k else g' k) P := by
 obtain ⟨r, h1, h2⟩ := h
 exact ⟨r, Ev.pos hc h1, h2⟩
theorem Tot.neg {α : Type} {c : Prop} [Decidable c] {g g' : Nat → Option α} {P : α → Prop} (hc : ¬ c) (h : Tot g' P) : Tot (fun k => if c then g k else g' k) P := by
 obtain ⟨r, h1, h2⟩ := h
 exact ⟨r, Ev.neg hc h1, h2⟩
theorem Tot.ite {α : Type} {c : Prop} [Decidable c] {g g' : Nat → Option α} {P : α → Prop} (h1 : c → Tot g P) (h2 : ¬ c → Tot g' P) : Tot (fun k => if c then g k else g' k) P := by
 by_cases hc : c
 ·exact Tot.pos hc (h1 hc)
 ·exact Tot.neg hc (h2 hc)
/-! #### the drawer of numbers -/
def Drawer (b : List Int) : Prop := b.length ≤ 2000 ∧ ∀ j : Nat, j < b.length → 0 ≤ rd b (j : Int) ∧ rd b (j : Int) ≤ 255
theorem xor_nonneg (a c : Int) (ha : 0 ≤ a) (ha2 : a < 4611686018427387904) (hc : 0 ≤ c) (hc2 : c < 4611686018427387904) : 0 ≤ Go.bits .xor .i64 a c := by
 obtain ⟨m, rfl⟩ := Int.eq_ofNat_of_zero_le ha
 obtain ⟨n, rfl⟩ := Int.eq_ofNat_of_zero_le hc
 have hm : m < 2 ^ 62 := by omega
 have hn : n < 2 ^ 62 := by omega
 have hx := Nat.xor_lt_two_pow hm hn
 have hm' : m % 2 ^ 64 = m := Nat.mod_eq_of_lt (by omega)
 have hn' : n % 2 ^ 64 = n := Nat.mod_eq_of_lt (by omega)
 have e : (BitVec.ofInt 64 (m : Int) ^^^ BitVec.ofInt 64 (n : Int)).toNat = m ^^^ n := by
  rw [BitVec.ofInt_natCast, BitVec.ofInt_natCast, BitVec.toNat_xor, BitVec.toNat_ofNat, BitVec.toNat_ofNat, hm', hn']
 have e2 : Go.bits .xor .i64 (m : Int) (n : Int) = IntKind.i64.wrap ((BitVec.ofInt 64 (m : Int) ^^^ BitVec.ofInt 64 (n : Int)).toNat : Int) := rfl
 rw [e2, e, IntKind.wrap_i64]
 omega
theorem tmod_range (x n : Int) (h0 : 0 ≤ x) (hn : 1 ≤ n) : 0 ≤ Int.tmod x n ∧ Int.tmod x n < n := by
 rw [Int.tmod_eq_emod_of_nonneg h0]
 exact ⟨Int.emod_nonneg _ (by omega), Int.emod_lt_of_pos _ (by omega)⟩
theorem pick_tot (b : List Int) (hb : Drawer b) (p n : Int) (hp : 0 ≤ p) (hp2 : p ≤ 1000000) :
  Tot (fun k => spec_l40Rd_pick.f k b p n) (fun r => r.2 = p + 1 ∧ 0 ≤ r.1 ∧ (1 ≤ n → r.1 < n)) := by
 obtain ⟨hl, hbb⟩ := hb
 have w1 : wrap64 (p + 1) = p + 1 := w_id (by omega) (by omega)
 have w2 : wrap64 (p + 1 - 1) = p := by rw [w_id (by omega) (by omega)]; omega
 have byte : ∀ z : Int, 0 ≤ z → z < (b.length : Int) → 0 ≤ rd b z ∧ rd b z ≤ 255 := by
  intro z h0 h1
  obtain ⟨m, rfl⟩ := Int.eq_ofNat_of_zero_le h0
  exact hbb m (by omega)
 unfold spec_l40Rd_pick.f
 rw [w1]
 refine Tot.ite (fun hn => ?_) (fun hn => ?_)
 ·refine Tot.step (Tot.pos rfl (Tot.val ?_)) (fun k => spec_l40Rd_pick.j0.eq_2 ..)
  exact ⟨rfl, Int.le_refl _, fun h => by omega⟩
 ·refine Tot.step ?_ (fun k => spec_l40Rd_pick.j0.eq_2 ..)
  refine Tot.ite (fun hz => Tot.val ⟨rfl, Int.le_refl _, fun h => by show (0 : Int) < n; omega⟩) (fun hz => ?_)
  have hlen : (b.length : Int) ≠ 0 := by simpa using hz
  rw [w2]
  refine Tot.ite (fun hpl => ?_) (fun hpl => ?_)
  ·obtain ⟨y0, y1⟩ := byte p hp hpl
   refine Tot.pos hp (Tot.neg (by omega) (Tot.val ?_))
   rw [w_id (by omega) (by omega)]
   obtain ⟨z0, z1⟩ := tmod_range (rd b p) n y0 (by omega)
   exact ⟨rfl, z0, fun _ => z1⟩
  ·obtain ⟨i0, i1⟩ := tmod_range p (b.length : Int) hp (by omega)
   have w3 : wrap64 (p * 7) = p * 7 := w_id (by omega) (by omega)
   have w4 : wrap64 (p * 7 + 3) = p * 7 + 3 := w_id (by omega) (by omega)
   rw [w3, w4]
   obtain ⟨j0, j1⟩ := tmod_range (p * 7 + 3) (b.length : Int) (by omega) (by omega)
   refine Tot.neg (by omega) (Tot.pos i0 (Tot.pos i1 (Tot.pos j0 (Tot.pos j1 (Tot.neg (by omega) (Tot.val ?_))))))
   obtain ⟨u0, u1⟩ := byte _ i0 i1
   obtain ⟨v0, v1⟩ := byte _ j0 j1
   generalize rd b (Int.tmod p (b.length : Int)) = u at u0 u1 ⊢
   generalize rd b (Int.tmod (p * 7 + 3) (b.length : Int)) = v at v0 v1 ⊢
   have q0 : 0 ≤ Int.tdiv p (b.length : Int) ∧ Int.tdiv p (b.length : Int) ≤ p := by
    rw [Int.tdiv_eq_ediv_of_nonneg hp]
    exact ⟨Int.ediv_nonneg hp (by omega), Int.ediv_le_self _ hp⟩
   generalize Int.tdiv p (b.length : Int) = q at q0 ⊢
   rw [w_id (x := u) (by omega) (by omega), w_id (x := v) (by omega) (by omega), w_id (x := q) (by omega) (by omega), w_id (x := u * 131) (by omega) (by omega), w_id (x := v * 1117) (by omega) (by omega),
    w_id (x := p * 29) (by omega) (by omega), w_id (x := q * 53) (by omega) (by omega), w_id (x := u * 131 + v * 1117) (by omega) (by omega), w_id (x := u * 131 + v * 1117 + p * 29) (by omega) (by omega), w_id (x := u * 131 + v * 1117 + p * 29 + q * 53) (by omega) (by omega)]
   generalize hA : u * 131 + v * 1117 + p * 29 + q * 53 = A
   have hA0 : 0 ≤ A ∧ A ≤ 1000000000 := by omega
   have hd : 0 ≤ Int.tdiv A 64 ∧ Int.tdiv A 64 ≤ A := by
    rw [Int.tdiv_eq_ediv_of_nonneg hA0.1]
    omega
   rw [w_id (x := Int.tdiv A 64) (by omega) (by omega)]
   have hx := xor_nonneg A (Int.tdiv A 64) hA0.1 (by omega) hd.1 (by omega)
   obtain ⟨z0, z1⟩ := tmod_range _ n hx (by omega)
   exact ⟨rfl, z0, fun _ => z1⟩
theorem num_tot (b : List Int) (hb : Drawer b) (p : Int) (l : List Int) (hp : 0 ≤ p) (hp2 : p ≤ 1000000) (hl : 1 ≤ l.length) :
  Tot (fun k => spec_l40Rd_num.f k b p l) (fun r => r.2 = p + 1 ∧ r.1 ∈ l) := by
 unfold spec_l40Rd_num.f
 refine Tot.bind (pick_tot b hb p (l.length : Int) hp hp2) ?_
 rintro ⟨x, q⟩ ⟨h1, h2, h3⟩
 have h4 := h3 (by omega)
 refine Tot.pos h2 (Tot.pos h4 (Tot.val ⟨h1, ?_⟩))
 show rd l x ∈ l
 obtain ⟨m, rfl⟩ := Int.eq_ofNat_of_zero_le h2
 rw [rd_lt (by show m < _; simp only at h4; omega)]
 exact List.getElem_mem _
theorem open_tot (code : List Int) (hc : ∀ x ∈ code, (Lit.int .u8 x).wf = true) : ∃ b, spec_l40Open.f code = some (b, 0) ∧ Drawer b := by
 have byte : ∀ b : List Int, (∀ x ∈ b, x ∈ code) → ∀ j : Nat, j < b.length → 0 ≤ rd b (j : Int) ∧ rd b (j : Int) ≤ 255 := by
  intro b hs j hj
  rw [rd_lt hj]
  have := hc _ (hs _ (List.getElem_mem hj))
  simp [Lit.wf, IntKind.min, IntKind.max, IntKind.signed, IntKind.bits] at this
  omega
 unfold spec_l40Open.f
 by_cases c : (code.length : Int) > 2000
 ·rw [if_pos c, if_pos (by omega)]
  refine ⟨_, rfl, by simp; omega, byte _ (fun x hx => List.mem_of_mem_take hx)⟩
 ·rw [if_neg c]
  exact ⟨_, rfl, by omega, byte _ (fun x hx => hx)⟩
/-! #### drawn clauses: something is drawn, and it isn't great -/
theorem has_tot (l : List Int) (hl : l.length ≤ 1048576) (x : Int) : ∀ (d i : Nat), i + d = l.length → Tot (fun k => spec_l2Has.l0 k l x (i : Int)) (fun b => b = true ↔ ∃ j : Nat, i ≤ j ∧ j < l.length ∧ rd l (j : Int) = x) := by
 intro d
 induction d with
 | zero =>
  intro i hi
  exact Tot.step (Tot.neg (by omega) (Tot.val ⟨(fun h => by cases h), (fun ⟨j, h1, h2, _⟩ => by omega)⟩)) (fun k => spec_l2Has.l0.eq_2 ..)
 | succ d ih =>
  intro i hi
  have hwi := wsucc i (by omega)
  refine Tot.step (Tot.pos (by omega) (Tot.pos (by omega) ?_)) (fun k => spec_l2Has.l0.eq_2 ..)
  rw [hwi]
  refine Tot.ite (fun h => Tot.val ⟨fun _ => ⟨i, Nat.le_refl _, by omega, h⟩, fun _ => rfl⟩) (fun h => (ih (i + 1) (by omega)).mono (fun b hb => hb.trans ?_))
  constructor
  ·rintro ⟨j, h1, h2, h3⟩
   exact ⟨j, by omega, h2, h3⟩
  ·rintro ⟨j, h1, h2, h3⟩
   rcases Nat.lt_or_eq_of_le h1 with h4 | rfl
   ·exact ⟨j, h4, h2, h3⟩
   ·exact absurd h3 h
theorem has_dec (l : List Int) (hl : l.length ≤ 1048576) (x : Int) : Dec (fun k => spec_l2Has.f k l x) (∃ j : Nat, j < l.length ∧ rd l (j : Int) = x) := by
 unfold spec_l2Has.f
 obtain ⟨b, h1, h2⟩ := has_tot l hl x l.length 0 (by omega)
 exact ⟨b, h1, h2.trans ⟨fun ⟨j, _, h3, h4⟩ => ⟨j, h3, h4⟩, fun ⟨j, h3, h4⟩ => ⟨j, Nat.zero_le _, h3, h4⟩⟩⟩
/-! #### diagrams, plainly: forks that are added once -/
/-- A tree of decisions over places. -/
inductive DT where
 | leaf (n : Int)
 | fork (v : Int) (lo hi : DT)
def dfind (L : List S56) (x : S56) : Option Nat := L.findIdx? (fun y => decide (y = x))
def dadd (L : List S56) (v lo hi : Int) : List S56 × Int :=
 if lo < 0 ∨ hi < 0 then (L, -1) else if lo = hi then (L, lo) else
 match dfind L ⟨v, lo, hi⟩ with
 | some i => (L, (i : Int) + 2)
 | none => if 2000 ≤ L.length then (L, -1) else (L ++ [⟨v, lo, hi⟩], (L.length : Int) + 2)
def ins (L : List S56) : DT → List S56 × Int
 | .leaf n => (L, n)
 | .fork v lo hi => if (ins L lo).2 < 0 then (L, -1) else dadd (ins (ins L lo).1 hi).1 v (ins L lo).2 (ins (ins L lo).1 hi).2
theorem dfind_some {L : List S56} {x : S56} {i : Nat} (h : dfind L x = some i) : L[i]? = some x := by
 unfold dfind at h
 rw [List.findIdx?_eq_some_iff_getElem] at h
 obtain ⟨hi, h1, _⟩ := h
 rw [List.getElem?_eq_getElem hi]
 exact congrArg some (of_decide_eq_true h1)
theorem dfind_none {L : List S56} {x : S56} (h : dfind L x = none) : x ∉ L := by
 unfold dfind at h
 rw [List.findIdx?_eq_none_iff] at h
 intro hx
 have := h x hx
 simp at this
theorem dfind_mem {L : List S56} {x : S56} (h : x ∈ L) : ∃ i, dfind L x = some i := by
 cases hd : dfind L x with
 | some i => exact ⟨i, rfl⟩
 | none => exact absurd h (dfind_none hd)
theorem dfind_append {L : List S56} {x : S56} {i : Nat} (h : dfind L x = some i) (t : List S56) : dfind (L ++ t) x = some i := by
 unfold dfind at h ⊢
 rw [List.findIdx?_append, h]
 rfl
theorem dfind_new {L : List S56} {x : S56} (h : dfind L x = none) (t : List S56) : dfind (L ++ x :: t) x = some L.length := by
 unfold dfind at h ⊢
 rw [List.findIdx?_append, h, List.findIdx?_cons]
 simp
def NoDup (L : List S56) : Prop := ∀ (i : Nat) x, L[i]? = some x → x ∉ L.take i
theorem nodup_inj {L : List S56} (hn : NoDup L) {i j : Nat} (hi : i < L.length) (hj : j < L.length) (h : L[i] = L[j]) : i = j := by
 have key : ∀ a b : Nat, ∀ (ha : a < L.length) (hb : b < L.length), L[a] = L[b] → ¬ a < b := by
  intro a b ha hb he hab
  refine hn b _ (List.getElem?_eq_getElem hb) ?_
  rw [← he]
  refine List.mem_iff_getElem?.2 ⟨a, ?_⟩
  rw [List.getElem?_take, if_pos hab, List.getElem?_eq_getElem ha]
 rcases Nat.lt_trichotomy i j with h1 | h1 | h1
 ·exact absurd h1 (key i j hi hj h)
 ·exact h1
 ·exact absurd h1 (key j i hj hi h.symm)
theorem neg1 {a : List S56} (h : 0 ≤ (a, (-1 : Int)).2) : False := absurd (show (0 : Int) ≤ -1 from h) (by decide)
theorem dfind_at {L : List S56} (hn : NoDup L) {x : S56} {i : Nat} (h : L[i]? = some x) : dfind L x = some i := by
 obtain ⟨j, hj⟩ := dfind_mem (List.mem_of_getElem? h)
 have h2 := dfind_some hj
 obtain ⟨h1, e1⟩ := List.getElem?_eq_some_iff.1 h
 obtain ⟨h3, e3⟩ := List.getElem?_eq_some_iff.1 h2
 have : j = i := nodup_inj hn h3 h1 (e3.trans e1.symm)
 rw [hj, this]
theorem dadd_ext (L : List S56) (v lo hi : Int) : L <+: (dadd L v lo hi).1 := by
 unfold dadd
 split
 ·exact List.prefix_refl _
 split
 ·exact List.prefix_refl _
 split
 ·exact List.prefix_refl _
 split
 ·exact List.prefix_refl _
 ·exact List.prefix_append _ _
theorem ins_ext (L : List S56) (t : DT) : L <+: (ins L t).1 := by
 induction t generalizing L with
 | leaf n => exact List.prefix_refl _
 | fork v lo hi ihl ihh =>
  unfold ins
  split
  ·exact List.prefix_refl _
  ·exact (ihl L).trans ((ihh _).trans (dadd_ext _ _ _ _))
theorem dadd_stays {L : List S56} {v lo hi : Int} (h : 0 ≤ (dadd L v lo hi).2) {L2 : List S56} (he : (dadd L v lo hi).1 <+: L2) : dadd L2 v lo hi = (L2, (dadd L v lo hi).2) := by
 unfold dadd at h he ⊢
 by_cases c1 : lo < 0 ∨ hi < 0
 ·rw [if_pos c1] at h
  exact (neg1 h).elim
 rw [if_neg c1] at h he ⊢
 by_cases c2 : lo = hi
 ·rw [if_neg c1, if_pos c2, if_pos c2]
 rw [if_neg c2] at h he ⊢
 rw [if_neg c1, if_neg c2]
 cases hf : dfind L ⟨v, lo, hi⟩ with
 | some i =>
  simp only [hf] at h he ⊢
  obtain ⟨t, rfl⟩ := he
  rw [dfind_append hf t]
 | none =>
  simp only [hf] at h he ⊢
  by_cases c3 : 2000 ≤ L.length
  ·rw [if_pos c3] at h
   exact (neg1 h).elim
  rw [if_neg c3] at h he ⊢
  obtain ⟨t, rfl⟩ := he
  rw [List.append_assoc, List.singleton_append, dfind_new hf t]
theorem dadd_nn {L : List S56} {v lo hi : Int} (h : 0 ≤ (dadd L v lo hi).2) : 0 ≤ lo ∧ 0 ≤ hi := by
 unfold dadd at h
 by_cases c1 : lo < 0 ∨ hi < 0
 ·rw [if_pos c1] at h
  exact (neg1 h).elim
 ·omega
/-- What is there stays: once told, told again of whatever comes behind. -/
theorem ins_stays {L : List S56} {t : DT} (h : 0 ≤ (ins L t).2) {L2 : List S56} (he : (ins L t).1 <+: L2) : ins L2 t = (L2, (ins L t).2) := by
 induction t generalizing L L2 with
 | leaf n => rfl
 | fork v lo hi ihl ihh =>
  unfold ins at h he
  by_cases c : (ins L lo).2 < 0
  ·rw [if_pos c] at h
   exact (neg1 h).elim
  rw [if_neg c] at h he
  have e1 : (ins (ins L lo).1 hi).1 <+: L2 := (dadd_ext _ _ _ _).trans he
  have e0 : (ins L lo).1 <+: L2 := (ins_ext _ _).trans e1
  have h2 := (dadd_nn h).2
  have k1 := ihl (by omega) e0
  have k2 := ihh h2 e1
  have k3 := dadd_stays h he
  unfold ins
  rw [if_neg c, k1]
  simp only
  rw [if_neg c, k2]
  simp only
  rw [k3]
/-- The variable of a place; c at constants. -/
def dvar (c : Int) (L : List S56) (n : Int) : Int := if n < 2 then c else (L.getD (n - 2).toNat ⟨0, 0, 0⟩).f0
def Pl (L : List S56) (n : Int) : Prop := 0 ≤ n ∧ n ≤ (L.length : Int) + 1
structure DV (vars : Int) (L : List S56) : Prop where
 v0 : 0 ≤ vars
 v12 : vars ≤ 12
 len : L.length ≤ 2000
 nd : NoDup L
 ok : ∀ (i : Nat) x, L[i]? = some x → 0 ≤ x.f0 ∧ x.f0 < vars ∧ 0 ≤ x.f1 ∧ x.f1 ≤ (i : Int) + 1 ∧ 0 ≤ x.f2 ∧ x.f2 ≤ (i : Int) + 1 ∧ x.f1 ≠ x.f2 ∧ x.f0 < dvar vars L x.f1 ∧ x.f0 < dvar vars L x.f2
theorem Pl.ext {L L2 : List S56} {n : Int} (h : Pl L n) (he : L <+: L2) : Pl L2 n := ⟨h.1, by have := he.length_le; have := h.2; omega⟩
theorem getD_ext {L L2 : List S56} (he : L <+: L2) {i : Nat} (h : i < L.length) (z : S56) : L2.getD i z = L.getD i z := by
 obtain ⟨t, rfl⟩ := he
 rw [List.getD_eq_getElem?_getD, List.getD_eq_getElem?_getD, List.getElem?_append_left h]
theorem dvar_ext {c : Int} {L L2 : List S56} {n : Int} (h : Pl L n) (he : L <+: L2) : dvar c L2 n = dvar c L n := by
 unfold dvar
 by_cases h2 : n < 2
 ·rw [if_pos h2, if_pos h2]
 ·rw [if_neg h2, if_neg h2, getD_ext he (by have := h.2; omega)]
/-- The fork at a place that is none of the constants. -/
theorem DV.at_ {vars : Int} {L : List S56} (h : DV vars L) {n : Int} (hp : Pl L n) (h2 : ¬ n < 2) : ∃ x, L[(n - 2).toNat]? = some x ∧ L.getD (n - 2).toNat ⟨0, 0, 0⟩ = x ∧ dvar vars L n = x.f0 ∧ 0 ≤ x.f0 ∧ x.f0 < vars ∧ Pl L x.f1 ∧ Pl L x.f2 ∧ x.f1 < n ∧ x.f2 < n ∧ x.f1 ≠ x.f2 ∧ x.f0 < dvar vars L x.f1 ∧ x.f0 < dvar vars L x.f2 := by
 have hl : (n - 2).toNat < L.length := by have := hp.2; omega
 have hx : L[(n - 2).toNat]? = some L[(n - 2).toNat] := List.getElem?_eq_getElem hl
 obtain ⟨a1, a2, a3, a4, a5, a6, a7, a8, a9⟩ := h.ok _ _ hx
 have hd : L.getD (n - 2).toNat ⟨0, 0, 0⟩ = L[(n - 2).toNat] := by rw [List.getD_eq_getElem?_getD, hx]; rfl
 refine ⟨_, hx, hd, ?_, a1, a2, ⟨a3, ?_⟩, ⟨a5, ?_⟩, ?_, ?_, a7, a8, a9⟩
 ·unfold dvar
  rw [if_neg h2, hd]
 all_goals (have := hp.2; omega)
theorem DV.dvar_le {vars : Int} {L : List S56} (h : DV vars L) {n : Int} (hp : Pl L n) : 0 ≤ dvar vars L n ∧ dvar vars L n ≤ vars := by
 by_cases h2 : n < 2
 ·unfold dvar
  rw [if_pos h2]
  exact ⟨h.v0, Int.le_refl _⟩
 ·obtain ⟨x, _, _, e, a, b, _⟩ := h.at_ hp h2
  omega
theorem dv_dadd {vars : Int} {L : List S56} (h : DV vars L) {v lo hi : Int} (hl : Pl L lo) (hh : Pl L hi) (v0 : 0 ≤ v) (v1 : v < vars) (hvl : v < dvar vars L lo) (hvh : v < dvar vars L hi) :
  DV vars (dadd L v lo hi).1 ∧ (0 ≤ (dadd L v lo hi).2 → Pl (dadd L v lo hi).1 (dadd L v lo hi).2 ∧ v ≤ dvar vars (dadd L v lo hi).1 (dadd L v lo hi).2) := by
 unfold dadd
 by_cases c1 : lo < 0 ∨ hi < 0
 ·rw [if_pos c1]
  exact ⟨h, fun hn => (neg1 hn).elim⟩
 rw [if_neg c1]
 by_cases c2 : lo = hi
 ·rw [if_pos c2]
  exact ⟨h, fun _ => ⟨hl, Int.le_of_lt hvl⟩⟩
 rw [if_neg c2]
 cases hf : dfind L ⟨v, lo, hi⟩ with
 | some i =>
  have hx := dfind_some hf
  obtain ⟨hi, _⟩ := List.getElem?_eq_some_iff.1 hx
  have hp : Pl L ((i : Int) + 2) := ⟨by omega, by omega⟩
  refine ⟨h, fun _ => ⟨hp, ?_⟩⟩
  show v ≤ dvar vars L ((i : Int) + 2)
  unfold dvar
  rw [if_neg (by omega), show ((i : Int) + 2 - 2).toNat = i by omega, List.getD_eq_getElem?_getD, hx]
  exact Int.le_refl _
 | none =>
  simp only
  by_cases c3 : 2000 ≤ L.length
  ·rw [if_pos c3]
   exact ⟨h, fun hn => (neg1 hn).elim⟩
  rw [if_neg c3]
  have he : L <+: L ++ [⟨v, lo, hi⟩] := List.prefix_append _ _
  refine ⟨⟨h.v0, h.v12, by simp; omega, ?_, ?_⟩, fun _ => ⟨⟨by simp; omega, by simp; omega⟩, ?_⟩⟩
  ·intro i x hx hm
   by_cases hil : i < L.length
   ·rw [List.getElem?_append_left hil] at hx
    rw [List.take_append_of_le_length (by omega)] at hm
    exact h.nd i x hx hm
   ·have hil : i = L.length := by
     have := (List.getElem?_eq_some_iff.1 hx).1
     simp at this
     omega
    subst hil
    have ex : x = ⟨v, lo, hi⟩ := by simpa using hx.symm
    subst ex
    rw [List.take_append_of_le_length (Nat.le_refl _), List.take_length] at hm
    exact dfind_none hf hm
  ·intro i x hx
   by_cases hil : i < L.length
   ·rw [List.getElem?_append_left hil] at hx
    obtain ⟨a1, a2, a3, a4, a5, a6, a7, a8, a9⟩ := h.ok _ _ hx
    have p1 : Pl L x.f1 := ⟨a3, by omega⟩
    have p2 : Pl L x.f2 := ⟨a5, by omega⟩
    rw [dvar_ext p1 he, dvar_ext p2 he]
    exact ⟨a1, a2, a3, a4, a5, a6, a7, a8, a9⟩
   ·have hil : i = L.length := by
     have := (List.getElem?_eq_some_iff.1 hx).1
     simp at this
     omega
    subst hil
    have ex : x = ⟨v, lo, hi⟩ := by simpa using hx.symm
    subst ex
    refine ⟨v0, v1, hl.1, hl.2, hh.1, hh.2, c2, ?_, ?_⟩
    ·rw [dvar_ext hl he]
     exact hvl
    ·rw [dvar_ext hh he]
     exact hvh
  ·show v ≤ dvar vars _ ((L.length : Int) + 2)
   unfold dvar
   rw [if_neg (by omega), show ((L.length : Int) + 2 - 2).toNat = L.length by omega, List.getD_eq_getElem?_getD]
   simp
/-- A tree whose leaves are places, its variables from m on, ascending. -/
def TOk (vars : Int) (L : List S56) : Int → DT → Prop
 | m, .leaf n => Pl L n ∧ m ≤ dvar vars L n
 | m, .fork v lo hi => m ≤ v ∧ 0 ≤ v ∧ v < vars ∧ TOk vars L (v + 1) lo ∧ TOk vars L (v + 1) hi
theorem TOk.ext {vars : Int} {L L2 : List S56} (he : L <+: L2) {t : DT} : ∀ {m : Int}, TOk vars L m t → TOk vars L2 m t := by
 induction t with
 | leaf n =>
  intro m h
  exact ⟨h.1.ext he, by rw [dvar_ext h.1 he]; exact h.2⟩
 | fork v lo hi ihl ihh =>
  intro m h
  exact ⟨h.1, h.2.1, h.2.2.1, ihl h.2.2.2.1, ihh h.2.2.2.2⟩
theorem dv_ins {vars : Int} {t : DT} : ∀ {L : List S56} {m : Int}, DV vars L → TOk vars L m t → DV vars (ins L t).1 ∧ (0 ≤ (ins L t).2 → Pl (ins L t).1 (ins L t).2 ∧ m ≤ dvar vars (ins L t).1 (ins L t).2) := by
 induction t with
 | leaf n =>
  intro L m h ht
  exact ⟨h, fun _ => ht⟩
 | fork v lo hi ihl ihh =>
  intro L m h ht
  obtain ⟨t1, t2, t3, t4, t5⟩ := ht
  unfold ins
  by_cases c : (ins L lo).2 < 0
  ·rw [if_pos c]
   exact ⟨h, fun hn => (neg1 hn).elim⟩
  rw [if_neg c]
  obtain ⟨d1, p1⟩ := ihl h t4
  obtain ⟨p1, q1⟩ := p1 (by omega)
  obtain ⟨d2, p2⟩ := ihh d1 (t5.ext (ins_ext _ _))
  by_cases c2 : (ins (ins L lo).1 hi).2 < 0
  ·have : dadd (ins (ins L lo).1 hi).1 v (ins L lo).2 (ins (ins L lo).1 hi).2 = ((ins (ins L lo).1 hi).1, -1) := by
    unfold dadd
    rw [if_pos (.inr c2)]
   rw [this]
   exact ⟨d2, fun hn => (neg1 hn).elim⟩
  obtain ⟨p2, q2⟩ := p2 (by omega)
  have he := ins_ext (ins L lo).1 hi
  obtain ⟨r1, r2⟩ := dv_dadd d2 (p1.ext he) p2 t2 t3 (by rw [dvar_ext p1 he]; omega) (by omega)
  exact ⟨r1, fun hn => ⟨(r2 hn).1, Int.le_trans t1 (r2 hn).2⟩⟩
/-! #### the reference's diagrams -/
theorem l1In_val (a b c : Int) : spec_l1In.f a b c = some (decide (b ≤ a ∧ a ≤ c)) := by
 unfold spec_l1In.f
 by_cases h : a ≥ b
 ·rw [if_pos h]
  congr 1
  rw [decide_eq_decide]
  constructor
  ·intro h2; exact ⟨h, h2⟩
  ·intro h2; exact h2.2
 ·rw [if_neg h]
  congr 1
  symm
  rw [decide_eq_false_iff_not]
  intro h2
  exact h h2.1
theorem rdF {L : List S56} {i : Nat} (h : i < L.length) : rd_T56 L (i : Int) = L[i] := by
 unfold rd_T56
 rw [Int.toNat_natCast, List.getD_eq_getElem?_getD, List.getElem?_eq_getElem h]
 rfl
theorem rdP {L : List S56} (n : Int) : rd_T56 L (n - 2) = L.getD (n - 2).toNat ⟨0, 0, 0⟩ := rfl
theorem l8Var_val (c : Int) {L : List S56} {n : Int} (hp : Pl L n) (hl : L.length ≤ 1000000000) : spec_l8Var.f c L n = some (dvar c L n) := by
 unfold spec_l8Var.f dvar
 have h1 := hp.1
 have h2 := hp.2
 by_cases h : n < 2
 ·rw [if_pos h, if_pos h]
 ·rw [if_neg h, if_neg h, w_id (by omega) (by omega), if_pos (by omega), if_pos (by omega), rdP]
/-- What the reference asks of a fork, the places of which are ahead of it. -/
def FOk (vars : Int) (L : List S56) (x : S56) (most : Int) : Prop := (0 ≤ x.f0 ∧ x.f0 ≤ vars - 1) ∧ (0 ≤ x.f1 ∧ x.f1 ≤ most) ∧ (0 ≤ x.f2 ∧ x.f2 ≤ most) ∧ x.f0 < dvar vars L x.f1 ∧ x.f0 < dvar vars L x.f2
theorem l8Fork_dec (vars : Int) (L : List S56) (x : S56) (most : Int) (hv : -9223372036854775807 ≤ vars ∧ vars ≤ 9223372036854775807) (hm : most ≤ (L.length : Int) + 1) (hl : L.length ≤ 1000000000) :
  ∃ b, Ev (fun k => spec_l8Fork.f k vars L x.f0 x.f1 x.f2 most) b ∧ (b = true ↔ FOk vars L x most) := by
 have hj : ∃ b, Ev (fun k => spec_l8Fork.j0 k true vars L x.f0 x.f1 x.f2) b ∧ b = false := ⟨false, Ev.step (Ev.pos rfl (Ev.val _)) (fun k => spec_l8Fork.j0.eq_2 ..), rfl⟩
 obtain ⟨b0, e0, rfl⟩ := hj
 unfold spec_l8Fork.f
 simp only [l1In_val, Option.bind_some, w_id (show -9223372036854775808 ≤ vars - 1 by omega) (by omega)]
 by_cases c1 : 0 ≤ x.f0 ∧ x.f0 ≤ vars - 1
 ·rw [decide_eq_true c1]
  by_cases c2 : 0 ≤ x.f1 ∧ x.f1 ≤ most
  ·rw [decide_eq_true c2]
   by_cases c3 : 0 ≤ x.f2 ∧ x.f2 ≤ most
   ·rw [decide_eq_true c3]
    have p1 : Pl L x.f1 := ⟨c2.1, by omega⟩
    have p2 : Pl L x.f2 := ⟨c3.1, by omega⟩
    by_cases c4 : x.f0 < dvar vars L x.f1
    ·refine ⟨decide (x.f0 < dvar vars L x.f2), Ev.pos rfl (Ev.pos rfl (Ev.step (Ev.neg (by decide) (Ev.bind (Ev.const (l8Var_val vars p1 hl)) (Ev.pos c4 (Ev.bind (Ev.const (l8Var_val vars p2 hl)) (Ev.val (decide (x.f0 < dvar vars L x.f2))))))) (fun k => spec_l8Fork.j0.eq_2 ..))), ?_⟩
     rw [decide_eq_true_eq]
     exact ⟨fun h => ⟨c1, c2, c3, c4, h⟩, fun h => h.2.2.2.2⟩
    ·refine ⟨false, Ev.pos rfl (Ev.pos rfl (Ev.step (Ev.neg (by decide) (Ev.bind (Ev.const (l8Var_val vars p1 hl)) (Ev.neg c4 (Ev.val _)))) (fun k => spec_l8Fork.j0.eq_2 ..))), ?_⟩
     exact ⟨fun h => (by cases h), fun h => absurd h.2.2.2.1 c4⟩
   ·rw [decide_eq_false c3]
    exact ⟨false, Ev.pos rfl (Ev.pos rfl e0), fun h => (by cases h), fun h => absurd h.2.2.1 c3⟩
  ·rw [decide_eq_false c2]
   exact ⟨false, Ev.pos rfl (Ev.neg (by decide) e0), fun h => (by cases h), fun h => absurd h.2.1 c2⟩
 ·rw [decide_eq_false c1]
  exact ⟨false, Ev.neg (by decide) e0, fun h => (by cases h), fun h => absurd h.1 c1⟩
/-- What is asked of the fork at i. -/
def OkAt (vars : Int) (L : List S56) (i : Nat) (h : i < L.length) : Prop := FOk vars L L[i] ((i : Int) + 1) ∧ L[i].f1 ≠ L[i].f2 ∧ L[i] ∉ L.take i
theorem dv_iff (vars : Int) (L : List S56) : DV vars L ↔ (0 ≤ vars ∧ vars ≤ 12) ∧ L.length ≤ 2000 ∧ ∀ i (h : i < L.length), OkAt vars L i h := by
 constructor
 ·intro h
  refine ⟨⟨h.v0, h.v12⟩, h.len, fun i hi => ?_⟩
  obtain ⟨a1, a2, a3, a4, a5, a6, a7, a8, a9⟩ := h.ok i _ (List.getElem?_eq_getElem hi)
  exact ⟨⟨⟨a1, by omega⟩, ⟨a3, a4⟩, ⟨a5, a6⟩, a8, a9⟩, a7, h.nd i _ (List.getElem?_eq_getElem hi)⟩
 ·rintro ⟨⟨h1, h2⟩, h3, h4⟩
  refine ⟨h1, h2, h3, fun i x hx => ?_, fun i x hx => ?_⟩
  ·obtain ⟨hi, rfl⟩ := List.getElem?_eq_some_iff.1 hx
   exact (h4 i hi).2.2
  ·obtain ⟨hi, rfl⟩ := List.getElem?_eq_some_iff.1 hx
   obtain ⟨⟨a1, a2, a3, a4, a5⟩, b, _⟩ := h4 i hi
   exact ⟨a1.1, by omega, a2.1, a2.2, a3.1, a3.2, b, a4, a5⟩
theorem eqF (a : S56) (p q r : Int) : ((a.f0 == p && (a.f1 == q && (a.f2 == r))) = true) ↔ a = ⟨p, q, r⟩ := by
 obtain ⟨x, y, z⟩ := a
 simp
theorem mem_take {L : List S56} {i : Nat} {x : S56} : x ∈ L.take i ↔ ∃ (j : Nat) (_ : j < i) (hl : j < L.length), L[j] = x := by
 rw [List.mem_iff_getElem?]
 constructor
 ·rintro ⟨j, hj⟩
  rw [List.getElem?_take] at hj
  split at hj
  ·next hji =>
   obtain ⟨hl, e⟩ := List.getElem?_eq_some_iff.1 hj
   exact ⟨j, hji, hl, e⟩
  ·cases hj
 ·rintro ⟨j, hji, hl, e⟩
  exact ⟨j, by rw [List.getElem?_take, if_pos hji, List.getElem?_eq_getElem hl, e]⟩
theorem sv_l1 (vars : Int) (L : List S56) (hl : L.length ≤ 2000) (i : Nat) (hi : i < L.length) (rest : Bool) (hrest : Ev (fun k => spec_DiagramValid.l0 k (wrap64 ((i : Int) + 1)) vars L) rest) : ∀ (d j : Nat), j + d = i → (∀ q (hq : q < L.length), q < j → L[q] ≠ L[i]) →
  Ev (fun k => spec_DiagramValid.l1 k (i : Int) (j : Int) vars L L[i].f0 L[i].f1 L[i].f2) (if L[i] ∈ L.take i then false else rest) := by
 intro d
 induction d with
 | zero =>
  intro j hj hn
  have : ¬ L[i] ∈ L.take i := fun h => by
   obtain ⟨q, h1, h2, h3⟩ := mem_take.1 h
   exact hn q h2 (by omega) h3
  rw [if_neg this]
  exact Ev.step (Ev.neg (by omega) hrest) (fun k => spec_DiagramValid.l1.eq_2 ..)
 | succ d ih =>
  intro j hj hn
  have hjl : j < L.length := by omega
  refine Ev.step ?_ (fun k => spec_DiagramValid.l1.eq_2 ..)
  refine Ev.pos (by omega) (Ev.pos (by omega) (Ev.pos (by omega) ?_))
  rw [rdF hjl]
  by_cases e : L[j] = L[i]
  ·rw [if_pos (mem_take.2 ⟨j, by omega, hjl, e⟩)]
   exact Ev.pos ((eqF _ _ _ _).2 e) (Ev.val _)
  ·refine Ev.neg (fun h => e ((eqF _ _ _ _).1 h)) ?_
   rw [w_id (by omega) (by omega), show (j : Int) + 1 = ((j + 1 : Nat) : Int) by omega]
   exact ih (j + 1) (by omega) (fun q hq hqj => by
    by_cases c : q = j
    ·subst c
     exact e
    ·exact hn q hq (by omega))
theorem sv_l0 (vars : Int) (L : List S56) (hv : 0 ≤ vars ∧ vars ≤ 12) (hl : L.length ≤ 2000) : ∀ (d i : Nat), i + d = L.length →
  ∃ b, Ev (fun k => spec_DiagramValid.l0 k (i : Int) vars L) b ∧ (b = true ↔ ∀ q (h : q < L.length), i ≤ q → OkAt vars L q h) := by
 intro d
 induction d with
 | zero =>
  intro i hi
  exact ⟨true, Ev.step (Ev.neg (by omega) (Ev.val _)) (fun k => spec_DiagramValid.l0.eq_2 ..), fun _ q h hq => absurd h (by omega), fun _ => rfl⟩
 | succ d ih =>
  intro i hi
  have hil : i < L.length := by omega
  obtain ⟨rest, er, hr⟩ := ih (i + 1) (by omega)
  have hw : wrap64 ((i : Int) + 1) = ((i + 1 : Nat) : Int) := by rw [w_id (by omega) (by omega)]; omega
  obtain ⟨b1, e1, h1⟩ := l8Fork_dec vars L L[i] ((i : Int) + 1) (by omega) (by omega) (by omega)
  have split_ : (∀ q (h : q < L.length), i ≤ q → OkAt vars L q h) ↔ OkAt vars L i hil ∧ ∀ q (h : q < L.length), i + 1 ≤ q → OkAt vars L q h := by
   constructor
   ·intro h
    exact ⟨h i hil (Nat.le_refl _), fun q hq hq2 => h q hq (by omega)⟩
   ·rintro ⟨ha, hb⟩ q hq hq2
    by_cases c : i = q
    ·subst c
     exact ha
    ·exact hb q hq (by omega)
  have e1' : Ev (fun k => spec_l8Fork.f k vars L (rd_T56 L (i : Int)).f0 (rd_T56 L (i : Int)).f1 (rd_T56 L (i : Int)).f2 (wrap64 ((i : Int) + 1))) b1 := by
   rw [rdF hil, w_id (by omega) (by omega)]
   exact e1
  have jt : ∀ b, Ev (fun k => spec_DiagramValid.j2 k (i : Int) b vars L (rd_T56 L (i : Int)).f0 (rd_T56 L (i : Int)).f1 (rd_T56 L (i : Int)).f2) (if b = true then false else if L[i] ∈ L.take i then false else rest) := by
   intro b
   refine Ev.step ?_ (fun k => spec_DiagramValid.j2.eq_2 ..)
   cases b with
   | true => exact Ev.pos rfl (Ev.val _)
   | false =>
    refine Ev.neg (by decide) ?_
    rw [rdF hil]
    exact sv_l1 vars L hl i hil rest (by rw [hw]; exact er) i 0 (by omega) (fun q _ hq => absurd hq (by omega))
  cases b1 with
  | false =>
   refine ⟨false, Ev.step (Ev.pos (by omega) (Ev.pos (by omega) (Ev.bind e1' (Ev.neg (by decide) (jt true))))) (fun k => spec_DiagramValid.l0.eq_2 ..), fun h => (by cases h), fun h => ?_⟩
   exact absurd (h1.2 (h i hil (Nat.le_refl _)).1) (by decide)
  | true =>
   refine ⟨_, Ev.step (Ev.pos (by omega) (Ev.pos (by omega) (Ev.bind e1' (Ev.pos rfl (jt _))))) (fun k => spec_DiagramValid.l0.eq_2 ..), ?_⟩
   rw [rdF hil, split_]
   by_cases c1 : L[i].f1 = L[i].f2
   ·rw [if_pos (beq_iff_eq.mpr c1)]
    exact ⟨fun h => (by cases h), fun h => absurd c1 h.1.2.1⟩
   ·rw [if_neg (by simpa using c1)]
    by_cases c2 : L[i] ∈ L.take i
    ·rw [if_pos c2]
     exact ⟨fun h => (by cases h), fun h => absurd c2 h.1.2.2⟩
    ·rw [if_neg c2, hr]
     exact ⟨fun h => ⟨⟨h1.1 rfl, c1, c2⟩, h⟩, fun h => h.2⟩
theorem spec_dv (vars : Int) (L : List S56) : ∃ b, Ev (fun k => spec_DiagramValid.f k vars L) b ∧ (b = true ↔ DV vars L) := by
 unfold spec_DiagramValid.f
 simp only [l1In_val, Option.bind_some]
 have e0 : Ev (fun k => spec_DiagramValid.j0 k true vars L) false := Ev.step (Ev.pos rfl (Ev.val _)) (fun k => spec_DiagramValid.j0.eq_2 ..)
 by_cases c1 : 0 ≤ vars ∧ vars ≤ 12
 ·rw [decide_eq_true c1]
  by_cases c2 : (L.length : Int) > 2000
  ·rw [decide_eq_true c2]
   exact ⟨false, Ev.pos rfl e0, fun h => (by cases h), fun h => by have := h.len; omega⟩
  ·rw [decide_eq_false c2]
   obtain ⟨b, hb, h2⟩ := sv_l0 vars L c1 (by omega) L.length 0 (by omega)
   refine ⟨b, Ev.pos rfl (Ev.step (Ev.neg (by decide) hb) (fun k => spec_DiagramValid.j0.eq_2 ..)), ?_⟩
   rw [h2, dv_iff]
   exact ⟨fun h => ⟨c1, by omega, fun i hi => h i hi (Nat.zero_le _)⟩, fun h q hq _ => h.2.2 q hq⟩
 ·rw [decide_eq_false c1]
  exact ⟨false, Ev.neg (by decide) e0, fun h => (by cases h), fun h => absurd ⟨h.v0, h.v12⟩ c1⟩
theorem dfind_no {L : List S56} {x : S56} (hn : ∀ q (hq : q < L.length), L[q] ≠ x) : dfind L x = none := by
 unfold dfind
 rw [List.findIdx?_eq_none_iff]
 intro y hy
 obtain ⟨q, hq, rfl⟩ := List.mem_iff_getElem.1 hy
 simpa using hn q hq
/-! #### the program's diagrams -/
theorem in_val (a b c : Int) : impl_in.f a b c = some (decide (b ≤ a ∧ a ≤ c)) := by
 unfold impl_in.f
 by_cases h : a ≥ b
 ·rw [if_pos h]
  congr 1
  rw [decide_eq_decide]
  constructor
  ·intro h2; exact ⟨h, h2⟩
  ·intro h2; exact h2.2
 ·rw [if_neg h]
  congr 1
  symm
  rw [decide_eq_false_iff_not]
  intro h2
  exact h h2.1
theorem varAt_val (a : Int) {L : List S56} {n : Int} (hp : Pl L n) (hl : L.length ≤ 1000000000) : impl_Diagram_varAt.f a L n = some (dvar 12 L n) := by
 unfold impl_Diagram_varAt.f dvar
 have h1 := hp.1
 have h2 := hp.2
 by_cases h : n < 2
 ·rw [if_pos h, if_pos h]
 ·rw [if_neg h, if_neg h, w_id (by omega) (by omega), if_pos (by omega), if_pos (by omega), rdP]
def decPl (L : List S56) (n : Int) : Decidable (Pl L n) := inferInstanceAs (Decidable (_ ∧ _))
theorem isPlace_val (a : Int) {L : List S56} (n : Int) (hl : L.length ≤ 1000000000) : impl_Diagram_isPlace.f a L n = some (@decide (Pl L n) (decPl L n)) := by
 unfold impl_Diagram_isPlace.f
 rw [in_val, w_id (by omega) (by omega)]
 rfl
/-- Where variables are few, it is the same to what the constants are held. -/
theorem dvar_lt {vars v : Int} (L : List S56) (n : Int) (h : v < vars) (h12 : vars ≤ 12) : v < dvar 12 L n ↔ v < dvar vars L n := by
 unfold dvar
 split
 ·omega
 ·exact Iff.rfl
theorem keyI {n : Int} (h : 0 ≤ n) (h2 : n ≤ 1000000000) : KeyI n := ⟨h, by omega⟩
theorem iv_bad (vars : Int) (L : List S56) (hv : 0 ≤ vars ∧ vars ≤ 12) (hl : L.length ≤ 2000) (i : Nat) (hi : i < L.length) : ∃ b, impl_DiagramValid.bad vars L i L[i] = some b ∧ (b = false ↔ OkAt vars L i hi) := by
 unfold impl_DiagramValid.bad OkAt FOk
 simp only [in_val, Option.bind_some, w_id (show -9223372036854775808 ≤ vars - 1 by omega) (by omega), w_id (show -9223372036854775808 ≤ (i : Int) + 1 by omega) (by omega), decide_eq_false_iff_not]
 by_cases c1 : 0 ≤ L[i].f0 ∧ L[i].f0 ≤ vars - 1
 ·rw [if_neg (by simpa using c1)]
  by_cases c2 : 0 ≤ L[i].f1 ∧ L[i].f1 ≤ (i : Int) + 1
  ·rw [if_neg (by simpa using c2)]
   by_cases c3 : 0 ≤ L[i].f2 ∧ L[i].f2 ≤ (i : Int) + 1
   ·rw [if_neg (by simpa using c3)]
    have p1 : Pl L L[i].f1 := ⟨c2.1, by omega⟩
    have p2 : Pl L L[i].f2 := ⟨c3.1, by omega⟩
    by_cases c4 : L[i].f1 = L[i].f2
    ·rw [if_pos c4]
     exact ⟨true, rfl, fun h => (by cases h), fun h => absurd c4 h.2.1⟩
    ·rw [if_neg c4, varAt_val _ p1 (by omega), Option.bind_some]
     by_cases c5 : dvar 12 L L[i].f1 ≤ L[i].f0
     ·rw [if_pos c5]
      exact ⟨true, rfl, fun h => (by cases h), fun h => absurd ((dvar_lt L _ (by omega) hv.2).2 h.1.2.2.2.1) (by omega)⟩
     ·rw [if_neg c5, varAt_val _ p2 (by omega), Option.bind_some]
      by_cases c6 : dvar 12 L L[i].f2 ≤ L[i].f0
      ·rw [if_pos c6]
       exact ⟨true, rfl, fun h => (by cases h), fun h => absurd ((dvar_lt L _ (by omega) hv.2).2 h.1.2.2.2.2) (by omega)⟩
      ·rw [if_neg c6, if_pos ⟨keyI c1.1 (by omega), keyI c2.1 (by omega), keyI c3.1 (by omega)⟩]
       refine ⟨_, rfl, ?_⟩
       rw [decide_eq_false_iff_not]
       exact ⟨fun h => ⟨⟨c1, c2, c3, (dvar_lt L _ (by omega) hv.2).1 (by omega), (dvar_lt L _ (by omega) hv.2).1 (by omega)⟩, c4, h⟩, fun h => h.2.2⟩
   ·rw [if_pos (by simpa using c3)]
    exact ⟨true, rfl, fun h => (by cases h), fun h => absurd h.1.2.2.1 c3⟩
  ·rw [if_pos (by simpa using c2)]
   exact ⟨true, rfl, fun h => (by cases h), fun h => absurd h.1.2.1 c2⟩
 ·rw [if_pos (by simpa using c1)]
  exact ⟨true, rfl, fun h => (by cases h), fun h => absurd h.1.1 c1⟩
theorem iv_l0 (vars : Int) (L : List S56) (hv : 0 ≤ vars ∧ vars ≤ 12) (hl : L.length ≤ 2000) : ∀ (d i : Nat), i + d = L.length → ∃ b, impl_DiagramValid.l0 vars L d i = some b ∧ (b = true ↔ ∀ q (h : q < L.length), i ≤ q → OkAt vars L q h) := by
 intro d
 induction d with
 | zero =>
  intro i hi
  exact ⟨true, rfl, fun _ q h hq => absurd h (by omega), fun _ => rfl⟩
 | succ d ih =>
  intro i hi
  have hil : i < L.length := by omega
  obtain ⟨rest, er, hr⟩ := ih (i + 1) (by omega)
  obtain ⟨b, eb, hb⟩ := iv_bad vars L hv hl i hil
  unfold impl_DiagramValid.l0
  rw [rdF hil, eb, Option.bind_some]
  cases b with
  | true =>
   refine ⟨false, rfl, fun h => (by cases h), fun h => ?_⟩
   exact absurd (hb.2 (h i hil (Nat.le_refl _))) (by decide)
  | false =>
   refine ⟨rest, er, ?_⟩
   rw [hr]
   constructor
   ·intro h q hq hq2
    by_cases c : i = q
    ·subst c
     exact hb.1 rfl
    ·exact h q hq (by omega)
   ·intro h q hq hq2
    exact h q hq (by omega)
theorem impl_dv (vars : Int) (L : List S56) : ∃ b, impl_DiagramValid.f vars L = some b ∧ (b = true ↔ DV vars L) := by
 unfold impl_DiagramValid.f
 simp only [in_val, Option.bind_some]
 by_cases c1 : 0 ≤ vars ∧ vars ≤ 12
 ·rw [if_neg (by simpa using c1)]
  by_cases c2 : (L.length : Int) > 2000
  ·rw [if_pos c2]
   exact ⟨false, rfl, fun h => (by cases h), fun h => by have := h.len; omega⟩
  ·rw [if_neg c2]
   obtain ⟨b, hb, h2⟩ := iv_l0 vars L c1 (by omega) L.length 0 (by omega)
   refine ⟨b, hb, ?_⟩
   rw [h2, dv_iff]
   exact ⟨fun h => ⟨c1, by omega, fun i hi => h i hi (Nat.zero_le _)⟩, fun h q hq _ => h.2.2 q hq⟩
 ·rw [if_pos (by simpa using c1)]
  exact ⟨false, rfl, fun h => (by cases h), fun h => absurd ⟨h.v0, h.v12⟩ c1⟩
/-- Where each fork stands. -/
def seenP (L : List S56) (x : S56) : Option Int := (dfind L x).map (fun i => (i : Int) + 2)
theorem seen_take {L : List S56} (hn : NoDup L) : ∀ i, i ≤ L.length → impl_forkingOf.seen L i = seenP (L.take i) := by
 intro i
 induction i with
 | zero =>
  intro _
  funext x
  rfl
 | succ i ih =>
  intro hi
  have hil : i < L.length := by omega
  funext x
  show (if x = rd_T56 L (i : Int) then some ((i : Int) + 2) else impl_forkingOf.seen L i x) = _
  rw [rdF hil, ih (by omega)]
  have e : L.take (i + 1) = L.take i ++ [L[i]] := by
   rw [List.take_add_one, List.getElem?_eq_getElem hil]
   rfl
  have hlen : (L.take i).length = i := by rw [List.length_take]; omega
  have hno : dfind (L.take i) L[i] = none := by
   cases hd : dfind (L.take i) L[i] with
   | none => rfl
   | some j =>
    have := dfind_some hd
    exact absurd (List.mem_of_getElem? this) (hn i _ (List.getElem?_eq_getElem hil))
  unfold seenP
  rw [e]
  by_cases c : x = L[i]
  ·rw [if_pos c, c, dfind_new hno []]
   simp [hlen]
  ·rw [if_neg c]
   cases hd : dfind (L.take i) x with
   | some j => rw [dfind_append hd]
   | none =>
    have : dfind (L.take i ++ [L[i]]) x = none := dfind_no (fun q hq e2 => by
     by_cases hqi : q < (L.take i).length
     ·rw [List.getElem_append_left hqi] at e2
      exact dfind_none hd (e2 ▸ List.getElem_mem hqi)
     ·have hq' : q = (L.take i).length := by
       have := hq
       rw [List.length_append, List.length_singleton] at this
       omega
      subst hq'
      rw [List.getElem_append_right (Nat.le_refl _)] at e2
      simp at e2
      exact c e2.symm)
    rw [this]
theorem okF_of {vars : Int} {L : List S56} (h : DV vars L) {x : S56} (hx : x ∈ L) : okF x := by
 obtain ⟨i, hi⟩ := List.mem_iff_getElem?.1 hx
 obtain ⟨a1, a2, a3, a4, a5, a6, _⟩ := h.ok i x hi
 have := h.v12
 have := (List.getElem?_eq_some_iff.1 hi).1
 have := h.len
 exact ⟨keyI a1 (by omega), keyI a3 (by omega), keyI a5 (by omega)⟩
/-- A diagram that grows, as the program holds it: nothing is done with it yet that is not so. -/
def fs0 (vars : Int) (L : List S56) : FS := ⟨vars, L, seenP L, false, fun _ => none⟩
theorem clone_val (L : List S56) (h : L.length ≤ 1000000000) : impl_Fork_137.f L = some L := by
 unfold impl_Fork_137.f
 simp only [Option.bind_some, List.length_nil, List.nil_append]
 rw [if_pos (by omega)]
theorem clone2_val (L : List S56) (h : L.length ≤ 1000000000) : impl_Fork_138.f L = some L := by
 unfold impl_Fork_138.f
 rw [if_pos (by omega)]
theorem forkingOf_val {vars : Int} {L : List S56} (h : DV vars L) : impl_forkingOf.f vars L = some (fs0 vars L) := by
 unfold impl_forkingOf.f
 rw [clone_val L (by have := h.len; omega), Option.bind_some, if_pos (fun x hx => okF_of h hx), seen_take h.nd _ (Nat.le_refl _), List.take_length]
 rfl
theorem fork_val (s : FS) (v lo hi : Int) (hk : okF ⟨v, lo, hi⟩) (hlo : 0 ≤ lo) (hhi : 0 ≤ hi) (hs : s.seen = seenP s.forks) :
  ∃ s' r, impl_forking_fork.f s v lo hi = some (s', r) ∧ s'.vars = s.vars ∧ s'.memo = s.memo ∧ s'.seen = seenP s'.forks ∧ s'.forks = (dadd s.forks v lo hi).1 ∧ (if (dadd s.forks v lo hi).2 < 0 then s'.full = true ∧ r = 0 else s'.full = s.full ∧ r = (dadd s.forks v lo hi).2) := by
 unfold impl_forking_fork.f dadd
 rw [if_neg (show ¬ (lo < 0 ∨ hi < 0) by omega)]
 by_cases c1 : lo = hi
 ·rw [if_pos c1, if_pos c1]
  exact ⟨s, lo, rfl, rfl, rfl, hs, rfl, by rw [if_neg (by omega)]; exact ⟨rfl, rfl⟩⟩
 rw [if_neg c1, if_neg c1, if_pos hk, hs]
 cases hd : dfind s.forks ⟨v, lo, hi⟩ with
 | some i =>
  have e : seenP s.forks ⟨v, lo, hi⟩ = some ((i : Int) + 2) := by unfold seenP; rw [hd]; rfl
  rw [e]
  exact ⟨s, _, rfl, rfl, rfl, hs, rfl, by rw [if_neg (by show ¬ ((_ : Nat) : Int) + 2 < 0; omega)]; exact ⟨rfl, rfl⟩⟩
 | none =>
  have e : seenP s.forks ⟨v, lo, hi⟩ = none := by unfold seenP; rw [hd]; rfl
  rw [e]
  by_cases c2 : 2000 ≤ s.forks.length
  ·simp only
   rw [if_pos (by omega), if_pos c2]
   exact ⟨_, _, rfl, rfl, rfl, rfl, rfl, by rw [if_pos (show (-1 : Int) < 0 by decide)]; exact ⟨rfl, rfl⟩⟩
  ·simp only
   rw [if_neg (by omega), if_neg c2]
   refine ⟨_, _, rfl, rfl, rfl, ?_, rfl, by rw [if_neg (by show ¬ ((_ : Nat) : Int) + 2 < 0; omega)]; exact ⟨rfl, rfl⟩⟩
   funext y
   show (if y = ⟨v, lo, hi⟩ then some ((s.forks.length : Int) + 2) else seenP s.forks y) = seenP (s.forks ++ [⟨v, lo, hi⟩]) y
   unfold seenP
   by_cases c : y = ⟨v, lo, hi⟩
   ·rw [if_pos c, c, dfind_new hd []]
    rfl
   ·rw [if_neg c]
    cases hy : dfind s.forks y with
    | some j => rw [dfind_append hy]
    | none =>
     have : dfind (s.forks ++ [⟨v, lo, hi⟩]) y = none := dfind_no (fun q hq e2 => by
      by_cases hqi : q < s.forks.length
      ·rw [List.getElem_append_left hqi] at e2
       exact dfind_none hy (e2 ▸ List.getElem_mem hqi)
      ·have hq' : q = s.forks.length := by
        have := hq
        rw [List.length_append, List.length_singleton] at this
        omega
       subst hq'
       rw [List.getElem_append_right (Nat.le_refl _)] at e2
       simp at e2
       exact c e2.symm)
     rw [this]
theorem done_val (s : FS) (n : Int) (hl : s.forks.length ≤ 2000) : impl_forking_done.f s n = some (if s.full = true then (0, [], -1) else (s.vars, s.forks, n)) := by
 unfold impl_forking_done.f
 by_cases c : s.full = true
 ·rw [if_pos c, if_pos c]
 ·rw [if_neg c, if_neg c, clone2_val _ (by omega)]
  rfl
/-- A diagram and a place, or nothing and -1. -/
def told (vars : Int) (p : List S56 × Int) : Int × List S56 × Int := if p.2 < 0 then (0, [], -1) else (vars, p.1, p.2)
/-! #### what is done with two places, as a tree of decisions (0 and, 1 or, 2 exactly one) -/
def gat (L : List S56) (n v : Int) (hi : Bool) : Int :=
 if n < 2 then n else if (L.getD (n - 2).toNat ⟨0, 0, 0⟩).f0 = v then (if hi = true then (L.getD (n - 2).toNat ⟨0, 0, 0⟩).f2 else (L.getD (n - 2).toNat ⟨0, 0, 0⟩).f1) else n
theorem gat_ext {L L2 : List S56} {n : Int} (h : Pl L n) (he : L <+: L2) (v : Int) (hi : Bool) : gat L2 n v hi = gat L n v hi := by
 unfold gat
 by_cases h2 : n < 2
 ·rw [if_pos h2, if_pos h2]
 ·rw [if_neg h2, if_neg h2, getD_ext he (by have := h.2; omega)]
theorem gat_ok {vars : Int} {L : List S56} (h : DV vars L) {n v : Int} (hp : Pl L n) (hv : v ≤ dvar vars L n) (hvv : v < vars) (hi : Bool) : Pl L (gat L n v hi) ∧ v < dvar vars L (gat L n v hi) := by
 unfold gat
 by_cases h2 : n < 2
 ·rw [if_pos h2]
  refine ⟨hp, ?_⟩
  unfold dvar
  rw [if_pos h2]
  exact hvv
 ·rw [if_neg h2]
  obtain ⟨x, hx, hd, e, a0, a1, p1, p2, _, _, _, q1, q2⟩ := h.at_ hp h2
  rw [hd]
  by_cases c : x.f0 = v
  ·rw [if_pos c]
   cases hi with
   | true => rw [if_pos rfl]; exact ⟨p2, by omega⟩
   | false => rw [if_neg (by decide)]; exact ⟨p1, by omega⟩
  ·rw [if_neg c]
   exact ⟨hp, by omega⟩
theorem dvar_two {vars : Int} {L : List S56} (h : DV vars L) {n : Int} (hp : Pl L n) : dvar vars L n < vars ↔ ¬ n < 2 := by
 constructor
 ·intro h1 h2
  unfold dvar at h1
  rw [if_pos h2] at h1
  omega
 ·intro h2
  obtain ⟨x, _, _, e, _, a1, _⟩ := h.at_ hp h2
  omega
theorem dvar_const {vars : Int} {L : List S56} {n : Int} (h : n < 2) : dvar vars L n = vars := by
 unfold dvar
 rw [if_pos h]
/-! #### what is done with two places: the reference and the program -/
theorem add_val (vars v lo hi : Int) (L : List S56) (hl : L.length ≤ 2000) : spec_l8Add.f vars L v lo hi = some (vars, (dadd L v lo hi).1, (dadd L v lo hi).2) := by
 unfold spec_l8Add.f dadd
 by_cases c1 : lo < 0 ∨ hi < 0
 ·rw [if_pos c1, if_pos c1]
 rw [if_neg c1, if_neg c1]
 by_cases c2 : lo = hi
 ·rw [if_pos c2, if_pos c2]
 rw [if_neg c2, if_neg c2, if_pos (show L.length ≤ 1000000000000 by omega)]
 show (match dfind L ⟨v, lo, hi⟩ with | some i => _ | none => _) = _
 cases dfind L ⟨v, lo, hi⟩ with
 | some i => rfl
 | none =>
  simp only
  by_cases c3 : 2000 ≤ L.length
  ·rw [if_pos c3, if_pos c3]
  ·rw [if_neg c3, if_neg c3]
theorem ins_fork (L : List S56) (v : Int) (lo hi : DT) : ins L (.fork v lo hi) = if (ins L lo).2 < 0 then (L, -1) else dadd (ins (ins L lo).1 hi).1 v (ins L lo).2 (ins (ins L lo).1 hi).2 := by rw [ins]
theorem place_val {vars : Int} (L : List S56) (n : Int) (hl : L.length ≤ 1000000000) : spec_l8Place.f vars L n = some (@decide (Pl L n) (decPl L n)) := by
 unfold spec_l8Place.f
 rw [l1In_val, w_id (by omega) (by omega)]
 rfl
/-! #### rows of values as a tree -/
def rowsT : Nat → Int → List Int → DT
 | 0, _, vs => .leaf (rd vs 0)
 | m + 1, v, vs => .fork v (rowsT m (v + 1) (vs.take (vs.length / 2))) (rowsT m (v + 1) (vs.drop (vs.length / 2)))
def BitRow (vs : List Int) : Prop := ∀ x ∈ vs, x = 0 ∨ x = 1
theorem BitRow.take {vs : List Int} (h : BitRow vs) (n : Nat) : BitRow (vs.take n) := fun x hx => h x (List.mem_of_mem_take hx)
theorem BitRow.drop {vs : List Int} (h : BitRow vs) (n : Nat) : BitRow (vs.drop n) := fun x hx => h x (List.mem_of_mem_drop hx)
theorem half_len {vs : List Int} {m : Nat} (h : vs.length = 2 ^ (m + 1)) : (vs.take (vs.length / 2)).length = 2 ^ m ∧ (vs.drop (vs.length / 2)).length = 2 ^ m := by
 rw [List.length_take, List.length_drop, h, Nat.pow_succ]
 omega
theorem rowsT_ok {vars : Int} {L : List S56} (hL : DV vars L) : ∀ (m : Nat) (v : Int) (vs : List Int), 0 ≤ v → v + m = vars → vs.length = 2 ^ m → BitRow vs → TOk vars L v (rowsT m v vs) := by
 intro m
 induction m with
 | zero =>
  intro v vs h0 hv hl hb
  unfold rowsT
  have hm : rd vs 0 ∈ vs := by
   have : 0 < vs.length := by rw [hl]; decide
   rw [show rd vs 0 = vs[0] from rd_lt this]
   exact List.getElem_mem _
  have hx := hb _ hm
  have hd : dvar vars L (rd vs 0) = vars := by
   unfold dvar
   rw [if_pos (by omega)]
  refine ⟨⟨by omega, by omega⟩, ?_⟩
  rw [hd]
  omega
 | succ m ih =>
  intro v vs h0 hv hl hb
  obtain ⟨h1, h2⟩ := half_len hl
  unfold rowsT
  exact ⟨Int.le_refl _, h0, by omega, ih (v + 1) _ (by omega) (by omega) h1 (hb.take _), ih (v + 1) _ (by omega) (by omega) h2 (hb.drop _)⟩
theorem spec_rows {vars : Int} : ∀ (m : Nat) (L : List S56) (v : Int) (vs : List Int), DV vars L → 0 ≤ v → v + m = vars → vs.length = 2 ^ m → BitRow vs →
  Ev (fun k => spec_l8Rows.f k vars L vs v) (vars, (ins L (rowsT m v vs)).1, (ins L (rowsT m v vs)).2) := by
 intro m
 induction m with
 | zero =>
  intro L v vs h h0 hv hl hb
  refine Ev.step (Ev.pos (by omega) (Ev.pos (by rw [hl]; decide) (Ev.val _))) (fun k => spec_l8Rows.f.eq_2 ..)
 | succ m ih =>
  intro L v vs h h0 hv hl hb
  have h12 := h.v12
  obtain ⟨h1, h2⟩ := half_len hl
  have hp : (2 : Nat) ^ (m + 1) ≤ 1000000000000 := Nat.le_trans (Nat.pow_le_pow_right (by decide) (show m + 1 ≤ 12 by omega)) (by decide)
  refine Ev.step (Ev.neg (by omega) (Ev.pos (by omega) ?_)) (fun k => spec_l8Rows.f.eq_2 ..)
  rw [w_id (by omega) (by omega)]
  refine Ev.bind (ih L (v + 1) _ h (by omega) (by omega) h1 (hb.take _)) ?_
  obtain ⟨d1, _⟩ := dv_ins h (rowsT_ok h m (v + 1) _ (by omega) (by omega) h1 (hb.take _))
  rw [show rowsT (m + 1) v vs = .fork v (rowsT m (v + 1) (vs.take (vs.length / 2))) (rowsT m (v + 1) (vs.drop (vs.length / 2))) from rfl]
  rw [ins_fork]
  by_cases c4 : (ins L (rowsT m (v + 1) (vs.take (vs.length / 2)))).2 < 0
  ·rw [if_pos c4]
   exact Ev.pos c4 (Ev.val _)
  rw [if_neg c4]
  obtain ⟨d2, _⟩ := dv_ins d1 (rowsT_ok d1 m (v + 1) _ (by omega) (by omega) h2 (hb.drop _))
  exact Ev.neg c4 (Ev.bind (ih _ (v + 1) _ d1 (by omega) (by omega) h2 (hb.drop _)) (Ev.const (add_val vars v _ _ _ d2.len)))
/-! #### drawn diagrams -/
theorem dv_nil {vars : Int} (h0 : 0 ≤ vars) (h12 : vars ≤ 12) : DV vars [] := ⟨h0, h12, Nat.zero_le _, fun i x hx => by simp at hx, fun i x hx => by simp at hx⟩
theorem ins_place {vars : Int} {L : List S56} {m : Int} {t : DT} (h : DV vars L) (ht : TOk vars L m t) : -1 ≤ (ins L t).2 ∧ (ins L t).2 ≤ ((ins L t).1.length : Int) + 1 := by
 obtain ⟨d, hp⟩ := dv_ins h ht
 by_cases c : 0 ≤ (ins L t).2
 ·have := (hp c).1
  exact ⟨by omega, this.2⟩
 ·refine ⟨?_, by omega⟩
  cases t with
  | leaf n => exact absurd ht.1.1 c
  | fork v lo hi =>
   rw [ins_fork] at c ⊢
   by_cases c1 : (ins L lo).2 < 0
   ·rw [if_pos c1]
    exact Int.le_refl _
   ·rw [if_neg c1] at c ⊢
    unfold dadd at c ⊢
    by_cases c2 : (ins L lo).2 < 0 ∨ (ins (ins L lo).1 hi).2 < 0
    ·rw [if_pos c2]
     exact Int.le_refl _
    rw [if_neg c2] at c ⊢
    by_cases c3 : (ins L lo).2 = (ins (ins L lo).1 hi).2
    ·rw [if_pos c3] at c
     exact absurd (show 0 ≤ (ins L lo).2 by omega) c
    rw [if_neg c3] at c ⊢
    cases hf : dfind (ins (ins L lo).1 hi).1 ⟨v, (ins L lo).2, (ins (ins L lo).1 hi).2⟩ with
    | some i =>
     rw [hf] at c
     exact absurd (show (0 : Int) ≤ (i : Int) + 2 by omega) c
    | none =>
     rw [hf] at c
     simp only at c ⊢
     by_cases c4 : 2000 ≤ (ins (ins L lo).1 hi).1.length
     ·rw [if_pos c4]
      exact Int.le_refl _
     ·rw [if_neg c4] at c
      exact absurd (show (0 : Int) ≤ ((ins (ins L lo).1 hi).1.length : Int) + 2 by omega) c
/-- What is drawn: a diagram of few variables, and its places. -/
structure Drawn (most : Int) (r : Int × List S56 × List Int × Int) : Prop where
 dv : DV r.1 r.2.1
 few : r.1 ≤ most
 some_ : 2 ≤ r.2.2.1.length
 many : r.2.2.1.length ≤ 10
 place : ∀ x ∈ r.2.2.1, -1 ≤ x ∧ x ≤ 2001
theorem shl_few (m : Nat) (h : m ≤ 6) : shl .i64 1 (m : Int) = ((2 ^ m : Nat) : Int) := by
 have : m = 0 ∨ m = 1 ∨ m = 2 ∨ m = 3 ∨ m = 4 ∨ m = 5 ∨ m = 6 := by omega
 rcases this with rfl | rfl | rfl | rfl | rfl | rfl | rfl <;> rfl
theorem draw_l1 (b : List Int) (hb : Drawer b) (m : Nat) (hm : m ≤ 6) (P : Int × List S56 × List Int × Int → Prop) (pl : List Int) (i : Int) (k2 : Int) (L : List S56) (q0 : Int)
  (hrest : ∀ (vs : List Int) (p : Int), vs.length = 2 ^ m → BitRow vs → 0 ≤ p → p ≤ q0 + 64 → Tot (fun k => (spec_l8Rows.f k (m : Int) L vs 0).bind fun r => if pl.length < 17592186044416 then spec_l8Draw.l0 k (pl ++ [r.2.2]) (wrap64 (i - 1)) b p r.1 r.2.1 else none) P) :
  ∀ (d j : Nat) (vs : List Int) (p : Int), j + d = 2 ^ m → vs.length = j → BitRow vs → 0 ≤ p → p ≤ q0 + j → q0 ≤ 900000 → Tot (fun k => spec_l8Draw.l1 k pl i vs k2 (j : Int) b p (m : Int) L) P := by
 have hp : (2 : Nat) ^ m ≤ 64 := Nat.le_trans (Nat.pow_le_pow_right (by decide) hm) (by decide)
 intro d
 induction d with
 | zero =>
  intro j vs p hj hl hbs p0 p1 hq
  refine Tot.step (Tot.pos (by omega) ?_) (fun k => spec_l8Draw.l1.eq_2 ..)
  rw [shl_few m hm]
  exact Tot.neg (by omega) (hrest vs p (by omega) hbs p0 (by omega))
 | succ d ih =>
  intro j vs p hj hl hbs p0 p1 hq
  refine Tot.step (Tot.pos (by omega) ?_) (fun k => spec_l8Draw.l1.eq_2 ..)
  rw [shl_few m hm]
  refine Tot.pos (by omega) (Tot.bind (pick_tot b hb p k2 p0 (by omega)) ?_)
  rintro ⟨y, q⟩ ⟨e1, _, _⟩
  simp only at e1 ⊢
  subst e1
  rw [w_id (by omega) (by omega), show (j : Int) + 1 = ((j + 1 : Nat) : Int) by omega]
  have bit : ∀ c : Int, c = 0 ∨ c = 1 → BitRow (vs ++ [c]) := fun c hc x hx => by
   rcases List.mem_append.mp hx with h | h
   ·exact hbs x h
   ·rw [List.mem_singleton.mp h]
    exact hc
  exact Tot.ite (fun _ => Tot.pos (by omega) (ih (j + 1) _ _ (by omega) (by simp; omega) (bit 1 (.inr rfl)) (by omega) (by omega) hq)) (fun _ => Tot.pos (by omega) (ih (j + 1) _ _ (by omega) (by simp; omega) (bit 0 (.inl rfl)) (by omega) (by omega) hq))
theorem draw_l0 (b : List Int) (hb : Drawer b) (m : Nat) (hm : m ≤ 6) (most : Int) (hmost : (m : Int) ≤ most) : ∀ (d : Nat) (pl : List Int) (L : List S56) (p : Int), d ≤ 3 → pl.length + d ≤ 10 → 2 ≤ pl.length → DV (m : Int) L → (∀ x ∈ pl, -1 ≤ x ∧ x ≤ 2001) → 0 ≤ p → p + 70 * d ≤ 100000 →
  Tot (fun k => spec_l8Draw.l0 k pl (d : Int) b p (m : Int) L) (fun r => Drawn most r ∧ 0 ≤ r.2.2.2 ∧ r.2.2.2 ≤ p + 70 * d) := by
 intro d
 induction d with
 | zero =>
  intro pl L p _ h1 h2 hd hp p0 p1
  refine Tot.step (Tot.neg (by omega) (Tot.val ⟨⟨hd, hmost, h2, by omega, hp⟩, p0, by simp⟩)) (fun k => spec_l8Draw.l0.eq_2 ..)
 | succ d ih =>
  intro pl L p h3 h1 h2 hd hp p0 p1
  refine Tot.step (Tot.pos (by omega) (Tot.bind (num_tot b hb p _ p0 (by omega) (by simp)) ?_)) (fun k => spec_l8Draw.l0.eq_2 ..)
  rintro ⟨k2, q⟩ ⟨e1, _⟩
  simp only at e1 ⊢
  subst e1
  refine draw_l1 b hb m hm _ pl _ k2 L (p + 1) ?_ (2 ^ m) 0 [] (p + 1) (by omega) rfl (fun x hx => by simp at hx) (by omega) (by omega) (by omega)
  intro vs p2 hl hbs q0 q1
  have hok := rowsT_ok hd m 0 vs (Int.le_refl _) (by omega) hl hbs
  obtain ⟨d1, _⟩ := dv_ins hd hok
  have hpl := ins_place hd hok
  have hlen := d1.len
  refine Tot.bind (Tot.of (spec_rows m L 0 vs hd (Int.le_refl _) (by omega) hl hbs) (P := fun r => r = ((m : Int), (ins L (rowsT m 0 vs)).1, (ins L (rowsT m 0 vs)).2)) rfl) ?_
  rintro r rfl
  refine Tot.pos (by omega) ?_
  show Tot (fun k => spec_l8Draw.l0 k (pl ++ [(ins L (rowsT m 0 vs)).2]) (wrap64 (((d + 1 : Nat) : Int) - 1)) b p2 (m : Int) (ins L (rowsT m 0 vs)).1) _
  rw [w_id (by omega) (by omega), show ((d + 1 : Nat) : Int) - 1 = (d : Int) by omega]
  refine (ih (pl ++ [(ins L (rowsT m 0 vs)).2]) (ins L (rowsT m 0 vs)).1 p2 (by omega) (by simp; omega) (by simp; omega) d1 (fun x hx => ?_) q0 (by omega)).mono ?_
  ·rcases List.mem_append.mp hx with h | h
   ·exact hp x h
   ·rw [List.mem_singleton.mp h]
    omega
  ·rintro r ⟨r1, r2, r3⟩
   exact ⟨r1, r2, by omega⟩
theorem draw_tot (b : List Int) (hb : Drawer b) (p most : Int) (p0 : 0 ≤ p) (p1 : p ≤ 50000) (m0 : 0 ≤ most) (m1 : most ≤ 6) : Tot (fun k => spec_l8Draw.f k b p most) (fun r => Drawn most r ∧ 0 ≤ r.2.2.2 ∧ r.2.2.2 ≤ p + 300) := by
 unfold spec_l8Draw.f
 rw [w_id (by omega) (by omega)]
 refine Tot.bind (pick_tot b hb p (most + 1) p0 (by omega)) ?_
 rintro ⟨v, q⟩ ⟨e1, v0, v1⟩
 simp only at e1 v0 v1 ⊢
 subst e1
 have v2 := v1 (by omega)
 refine Tot.bind (num_tot b hb (p + 1) _ (by omega) (by omega) (by simp)) ?_
 rintro ⟨d, q⟩ ⟨e1, hd⟩
 simp only at e1 hd ⊢
 subst e1
 have hd3 : 0 ≤ d ∧ d ≤ 3 := by simp at hd; omega
 obtain ⟨m, rfl⟩ := Int.eq_ofNat_of_zero_le v0
 obtain ⟨n, rfl⟩ := Int.eq_ofNat_of_zero_le hd3.1
 refine (draw_l0 b hb m (by omega) most (by omega) n [0, 1] [] (p + 1 + 1) (by omega) (by simp; omega) (by simp) (dv_nil (by omega) (by omega)) (fun x hx => by simp at hx; omega) (by omega) (by omega)).mono ?_
 rintro r ⟨r1, r2, r3⟩
 exact ⟨r1, r2, by omega⟩
/-- A drawn diagram that may be spoilt, and a place. -/
structure DrawnAny (r : Int × List S56 × Int × Int) : Prop where
 v0 : -1 ≤ r.1
 v1 : r.1 ≤ 13
 len : r.2.1.length ≤ 2001
 n0 : -1 ≤ r.2.2.1
 n1 : r.2.2.1 ≤ 3000
theorem any_tot (b : List Int) (hb : Drawer b) (p most : Int) (p0 : 0 ≤ p) (p1 : p ≤ 40000) (m0 : 0 ≤ most) (m1 : most ≤ 6) : Tot (fun k => spec_l8Any.f k b p most) (fun r => DrawnAny r ∧ 0 ≤ r.2.2.2 ∧ r.2.2.2 ≤ p + 400) := by
 unfold spec_l8Any.f
 refine Tot.bind (draw_tot b hb p most p0 (by omega) m0 m1) ?_
 rintro ⟨vars, L, pl, q⟩ ⟨⟨hd, hf, hs, hm, hp⟩, q0, q1⟩
 simp only at hd hf hs hm hp q0 q1 ⊢
 have hl := hd.len
 have hv := hd.v0
 have place : ∀ z : Int, 0 ≤ z → z < (pl.length : Int) → -1 ≤ rd pl z ∧ rd pl z ≤ 2001 := fun z h0 h1 => by
  obtain ⟨i, rfl⟩ := Int.eq_ofNat_of_zero_le h0
  refine hp _ ?_
  rw [rd_lt (by omega)]
  exact List.getElem_mem _
 have j2 : ∀ (n q : Int) (c : Bool), -1 ≤ n → n ≤ 2001 → (c = true → 0 < (L.length : Int)) → 0 ≤ q → q ≤ p + 350 → Tot (fun k => spec_l8Any.j2 k n c b q vars L) (fun r => DrawnAny r ∧ 0 ≤ r.2.2.2 ∧ r.2.2.2 ≤ p + 400) := by
  intro n q c n0 n1 hc q0 q1
  refine Tot.step ?_ (fun k => spec_l8Any.j2.eq_2 ..)
  refine Tot.ite (fun h => ?_) (fun _ => ?_)
  ·refine Tot.pos (hc h) (Tot.bind (num_tot b hb q _ q0 (by omega) (by simp)) ?_)
   rintro ⟨x, q2⟩ ⟨e1, _⟩
   simp only at e1 ⊢
   subst e1
   exact Tot.val ⟨⟨by show -1 ≤ vars; omega, by show vars ≤ 13; omega, by show (L.set _ _).length ≤ 2001; simp; omega, n0, by show n ≤ 3000; omega⟩, by show 0 ≤ q + 1; omega, by show q + 1 ≤ p + 400; omega⟩
  ·rw [w_id (by omega) (by omega)]
   refine Tot.bind (num_tot b hb q _ q0 (by omega) (by simp)) ?_
   rintro ⟨x, q2⟩ ⟨e1, hx⟩
   simp only at e1 hx ⊢
   subst e1
   have hx2 : -1 ≤ x ∧ x ≤ 3000 := by simp at hx; omega
   exact Tot.val ⟨⟨by show -1 ≤ vars; omega, by show vars ≤ 13; omega, by show L.length ≤ 2001; omega, hx2.1, hx2.2⟩, by show 0 ≤ q + 1; omega, by show q + 1 ≤ p + 400; omega⟩
 have j1 : ∀ (n f q : Int) (c : Bool), -1 ≤ n → n ≤ 2001 → (c = true → 0 < (L.length : Int)) → 0 ≤ q → q ≤ p + 350 → Tot (fun k => spec_l8Any.j1 k n f c b q vars L) (fun r => DrawnAny r ∧ 0 ≤ r.2.2.2 ∧ r.2.2.2 ≤ p + 400) := by
  intro n f q c n0 n1 hc q0 q1
  refine Tot.step ?_ (fun k => spec_l8Any.j1.eq_2 ..)
  refine Tot.ite (fun h => ?_) (fun _ => Tot.ite (fun _ => j2 n q _ n0 n1 (fun h => of_decide_eq_true h) q0 q1) (fun _ => j2 n q _ n0 n1 (fun h => by cases h) q0 q1))
  exact Tot.pos (hc h) (Tot.pos (by omega) (Tot.val ⟨⟨by show -1 ≤ vars; omega, by show vars ≤ 13; omega, by simp; omega, n0, by show n ≤ 3000; omega⟩, q0, by show q ≤ p + 400; omega⟩))
 have j0 : ∀ (n q : Int), -1 ≤ n → n ≤ 2001 → 0 ≤ q → q ≤ p + 310 → Tot (fun k => spec_l8Any.j0 k n b q vars L) (fun r => DrawnAny r ∧ 0 ≤ r.2.2.2 ∧ r.2.2.2 ≤ p + 400) := by
  intro n q n0 n1 q0 q1
  refine Tot.step (Tot.bind (pick_tot b hb q 14 q0 (by omega)) ?_) (fun k => spec_l8Any.j0.eq_2 ..)
  rintro ⟨x, q2⟩ ⟨e1, _, _⟩
  simp only at e1 ⊢
  subst e1
  refine Tot.ite (fun _ => ?_) (fun _ => Tot.val ⟨⟨by show -1 ≤ vars; omega, by show vars ≤ 13; omega, by show L.length ≤ 2001; omega, n0, by show n ≤ 3000; omega⟩, by show 0 ≤ q + 1; omega, by show q + 1 ≤ p + 400; omega⟩)
  refine Tot.bind (pick_tot b hb (q + 1) 4 (by omega) (by omega)) ?_
  rintro ⟨f, q2⟩ ⟨e1, _, _⟩
  simp only at e1 ⊢
  subst e1
  refine Tot.ite (fun _ => ?_) (fun _ => Tot.ite (fun _ => j1 n f _ _ n0 n1 (fun h => of_decide_eq_true h) (by omega) (by omega)) (fun _ => j1 n f _ _ n0 n1 (fun h => by cases h) (by omega) (by omega)))
  refine Tot.bind (num_tot b hb (q + 1 + 1) _ (by omega) (by omega) (by simp)) ?_
  rintro ⟨x, q2⟩ ⟨e1, hx⟩
  simp only at e1 hx ⊢
  subst e1
  have hx2 : -1 ≤ x ∧ x ≤ 13 := by simp at hx; omega
  exact Tot.val ⟨⟨hx2.1, hx2.2, by show L.length ≤ 2001; omega, n0, by show n ≤ 3000; omega⟩, by show 0 ≤ q + 1 + 1 + 1; omega, by show q + 1 + 1 + 1 ≤ p + 400; omega⟩
 rw [w_id (by omega) (by omega)]
 refine Tot.pos (by omega) (Tot.pos (by omega) (Tot.bind (pick_tot b hb q 4 q0 (by omega)) ?_))
 rintro ⟨x, q2⟩ ⟨e1, _, _⟩
 simp only at e1 ⊢
 subst e1
 refine Tot.ite (fun _ => ?_) (fun _ => ?_)
 ·refine Tot.bind (pick_tot b hb (q + 1) (pl.length : Int) (by omega) (by omega)) ?_
  rintro ⟨z, q2⟩ ⟨e1, z0, z1⟩
  simp only at e1 z0 z1 ⊢
  subst e1
  have z2 := z1 (by omega)
  have := place z z0 z2
  exact Tot.pos z0 (Tot.pos z2 (j0 _ _ this.1 this.2 (by omega) (by omega)))
 ·have := place ((pl.length : Int) - 1) (by omega) (by omega)
  exact j0 _ _ this.1 this.2 (by omega) (by omega)
/-! #### the value of a place -/
def dval (vars : Int) (L : List S56) (bits : List Int) : Nat → Int → Int
 | 0, n => n
 | m + 1, n => if n < 2 then n else dval vars L bits m (gat L n (dvar vars L n) (decide (rd bits (dvar vars L n) = 1)))
theorem dval_const {vars : Int} {L : List S56} {bits : List Int} {n : Int} (h : n < 2) : ∀ m, dval vars L bits m n = n := by
 intro m
 cases m with
 | zero => rfl
 | succ m =>
  unfold dval
  rw [if_pos h]
theorem dval_same {vars : Int} {L : List S56} (h : DV vars L) (bits : List Int) : ∀ (m m2 : Nat) (n : Int), Pl L n → vars - dvar vars L n < m → vars - dvar vars L n < m2 → dval vars L bits m n = dval vars L bits m2 n := by
 intro m
 induction m with
 | zero =>
  intro m2 n p h1 _
  have := (h.dvar_le p).2
  omega
 | succ m ih =>
  intro m2 n p h1 h2
  cases m2 with
  | zero =>
   have := (h.dvar_le p).2
   omega
  | succ m2 =>
   unfold dval
   by_cases c : n < 2
   ·rw [if_pos c, if_pos c]
   ·rw [if_neg c, if_neg c]
    have f := gat_ok h p (Int.le_refl _) ((dvar_two h p).2 c) (decide (rd bits (dvar vars L n) = 1))
    exact ih m2 _ f.1 (by omega) (by omega)
theorem dval_ext {vars : Int} {L L2 : List S56} (h : DV vars L) (he : L <+: L2) (bits : List Int) : ∀ (m : Nat) (n : Int), Pl L n → dval vars L2 bits m n = dval vars L bits m n := by
 intro m
 induction m with
 | zero => intro n _; rfl
 | succ m ih =>
  intro n p
  unfold dval
  by_cases c : n < 2
  ·rw [if_pos c, if_pos c]
  ·rw [if_neg c, if_neg c, dvar_ext p he, gat_ext p he]
   exact ih _ (gat_ok h p (Int.le_refl _) ((dvar_two h p).2 c) _).1
/-- The constant to which one comes from a place. -/
def dvP (vars : Int) (L : List S56) (bits : List Int) (n : Int) : Int := dval vars L bits 13 n
theorem dvP_const {vars : Int} {L : List S56} {bits : List Int} {n : Int} (h : n < 2) : dvP vars L bits n = n := dval_const h 13
theorem dvP_ext {vars : Int} {L L2 : List S56} (h : DV vars L) (he : L <+: L2) (bits : List Int) {n : Int} (p : Pl L n) : dvP vars L2 bits n = dvP vars L bits n := dval_ext h he bits 13 n p
theorem dvP_fork {vars : Int} {L : List S56} (h : DV vars L) (bits : List Int) {n : Int} (p : Pl L n) (c : ¬ n < 2) : dvP vars L bits n = dvP vars L bits (gat L n (dvar vars L n) (decide (rd bits (dvar vars L n) = 1))) := by
 have f := gat_ok h p (Int.le_refl _) ((dvar_two h p).2 c) (decide (rd bits (dvar vars L n) = 1))
 have a0 := (h.dvar_le p).1
 have a1 := h.v12
 unfold dvP
 rw [dval.eq_2, if_neg c, dval_same h bits 12 13 _ f.1 (by omega) (by omega)]
theorem dval_01 {vars : Int} {L : List S56} (h : DV vars L) (bits : List Int) : ∀ (m : Nat) (n : Int), Pl L n → vars - dvar vars L n < m → dval vars L bits m n = 0 ∨ dval vars L bits m n = 1 := by
 intro m
 induction m with
 | zero =>
  intro n p h1
  have := (h.dvar_le p).2
  omega
 | succ m ih =>
  intro n p h1
  unfold dval
  by_cases c : n < 2
  ·rw [if_pos c]
   have := p.1
   omega
  ·rw [if_neg c]
   have f := gat_ok h p (Int.le_refl _) ((dvar_two h p).2 c) (decide (rd bits (dvar vars L n) = 1))
   exact ih _ f.1 (by omega)
theorem dvP_01 {vars : Int} {L : List S56} (h : DV vars L) (bits : List Int) {n : Int} (p : Pl L n) : dvP vars L bits n = 0 ∨ dvP vars L bits n = 1 := by
 have a0 := (h.dvar_le p).1
 have a1 := h.v12
 exact dval_01 h bits 13 n p (by omega)
/-- A step toward a variable that stands no later than the place's own. -/
theorem dvP_gat {vars v : Int} {L : List S56} (h : DV vars L) (bits : List Int) {n : Int} (p : Pl L n) : dvP vars L bits (gat L n v (decide (rd bits v = 1))) = dvP vars L bits n := by
 by_cases c : n < 2
 ·unfold gat
  rw [if_pos c]
 ·by_cases e : dvar vars L n = v
  ·subst e
   exact (dvP_fork h bits p c).symm
  ·have e2 : (L.getD (n - 2).toNat ⟨0, 0, 0⟩).f0 ≠ v := by
    unfold dvar at e
    rw [if_neg c] at e
    exact e
   unfold gat
   rw [if_neg c, if_neg e2]
/-- The value of a tree. -/
def tval (vars : Int) (L : List S56) (bits : List Int) : DT → Int
 | .leaf n => dvP vars L bits n
 | .fork v lo hi => if rd bits v = 1 then tval vars L bits hi else tval vars L bits lo
theorem tval_ext {vars : Int} {L L2 : List S56} (h : DV vars L) (he : L <+: L2) (bits : List Int) {t : DT} : ∀ {m : Int}, TOk vars L m t → tval vars L2 bits t = tval vars L bits t := by
 induction t with
 | leaf n =>
  intro m ht
  exact dvP_ext h he bits ht.1
 | fork v lo hi ihl ihh =>
  intro m ht
  unfold tval
  rw [ihl ht.2.2.2.1, ihh ht.2.2.2.2]
/-- Where a fork is that was added. -/
theorem dadd_at {vars v lo hi : Int} {L : List S56} (hne : lo ≠ hi) (h : 0 ≤ (dadd L v lo hi).2) : 2 ≤ (dadd L v lo hi).2 ∧ dvar vars (dadd L v lo hi).1 (dadd L v lo hi).2 = v ∧ gat (dadd L v lo hi).1 (dadd L v lo hi).2 v false = lo ∧ gat (dadd L v lo hi).1 (dadd L v lo hi).2 v true = hi := by
 have key : ∀ (M : List S56) (i : Nat), M[i]? = some ⟨v, lo, hi⟩ → 2 ≤ (i : Int) + 2 ∧ dvar vars M ((i : Int) + 2) = v ∧ gat M ((i : Int) + 2) v false = lo ∧ gat M ((i : Int) + 2) v true = hi := by
  intro M i hx
  have hd : M.getD ((i : Int) + 2 - 2).toNat ⟨0, 0, 0⟩ = ⟨v, lo, hi⟩ := by
   rw [show ((i : Int) + 2 - 2).toNat = i by omega, List.getD_eq_getElem?_getD, hx]
   rfl
  refine ⟨by omega, ?_, ?_, ?_⟩
  ·unfold dvar
   rw [if_neg (by omega), hd]
  ·unfold gat
   rw [if_neg (by omega), hd, if_pos rfl, if_neg (by decide)]
  ·unfold gat
   rw [if_neg (by omega), hd, if_pos rfl, if_pos rfl]
 have hnn := dadd_nn h
 unfold dadd at h ⊢
 rw [if_neg (by omega), if_neg hne] at h ⊢
 cases hf : dfind L ⟨v, lo, hi⟩ with
 | some i => exact key L i (dfind_some hf)
 | none =>
  rw [hf] at h
  simp only at h ⊢
  by_cases c : 2000 ≤ L.length
  ·rw [if_pos c] at h
   exact (neg1 h).elim
  ·rw [if_neg c]
   exact key _ _ (by simp)
theorem dadd_val {vars v lo hi : Int} {L : List S56} (h : DV vars L) (hl : Pl L lo) (hh : Pl L hi) (v0 : 0 ≤ v) (v1 : v < vars) (hvl : v < dvar vars L lo) (hvh : v < dvar vars L hi) (hn : 0 ≤ (dadd L v lo hi).2) (bits : List Int) :
  dvP vars (dadd L v lo hi).1 bits (dadd L v lo hi).2 = if rd bits v = 1 then dvP vars L bits hi else dvP vars L bits lo := by
 by_cases c : lo = hi
 ·subst c
  have e : dadd L v lo lo = (L, lo) := by
   unfold dadd
   rw [if_neg (by have := hl.1; omega), if_pos rfl]
  rw [e, ite_self]
 ·obtain ⟨q1, q2, q3, q4⟩ := dadd_at (vars := vars) c hn
  obtain ⟨dd, hp⟩ := dv_dadd h hl hh v0 v1 hvl hvh
  have he := dadd_ext L v lo hi
  rw [dvP_fork dd bits (hp hn).1 (by omega), q2]
  by_cases cb : rd bits v = 1
  ·rw [decide_eq_true cb, q4, if_pos cb, dvP_ext h he bits hh]
  ·rw [decide_eq_false cb, q3, if_neg cb, dvP_ext h he bits hl]
/-- What was added has the tree's values. -/
theorem ins_val {vars : Int} (bits : List Int) {t : DT} : ∀ {L : List S56} {m : Int}, DV vars L → TOk vars L m t → 0 ≤ (ins L t).2 → dvP vars (ins L t).1 bits (ins L t).2 = tval vars L bits t := by
 induction t with
 | leaf n =>
  intro L m h ht hn
  rfl
 | fork v lo hi ihl ihh =>
  intro L m h ht hn
  obtain ⟨t1, t2, t3, t4, t5⟩ := ht
  rw [ins_fork] at hn ⊢
  by_cases c : (ins L lo).2 < 0
  ·rw [if_pos c] at hn
   exact (neg1 hn).elim
  rw [if_neg c] at hn ⊢
  obtain ⟨d1, p1⟩ := dv_ins h t4
  obtain ⟨p1, q1⟩ := p1 (by omega)
  have e1 := ins_ext L lo
  obtain ⟨d2, p2⟩ := dv_ins d1 (t5.ext e1)
  have hnn := dadd_nn hn
  obtain ⟨p2, q2⟩ := p2 hnn.2
  have e2 := ins_ext (ins L lo).1 hi
  rw [dadd_val d2 (p1.ext e2) p2 t2 t3 (by rw [dvar_ext p1 e2]; omega) (by omega) hn bits]
  unfold tval
  rw [dvP_ext d1 e2 bits p1, ihl h t4 (by omega), ihh d1 (t5.ext e1) hnn.2, tval_ext h e1 bits t5]
theorem TOk.down {vars : Int} {L : List S56} {t : DT} {x y : Int} (hxy : y ≤ x) (ht : TOk vars L x t) : TOk vars L y t := by
 cases t with
 | leaf n => exact ⟨ht.1, by have := ht.2; omega⟩
 | fork v lo hi => exact ⟨by have := ht.1; omega, ht.2⟩
theorem gat_self {L : List S56} {vars n : Int} (c : ¬ n < 2) (hi : Bool) : gat L n (dvar vars L n) hi = if hi = true then (rd_T56 L (n - 2)).f2 else (rd_T56 L (n - 2)).f1 := by
 unfold gat dvar
 rw [if_neg c, if_neg c, if_pos rfl, rdP]
theorem dvar_self {L : List S56} {vars n : Int} (c : ¬ n < 2) : dvar vars L n = (rd_T56 L (n - 2)).f0 := by
 unfold dvar
 rw [if_neg c, rdP]
/-! #### the program's value of a place -/
theorem value_l0 {vars : Int} {L : List S56} (h : DV vars L) (bits : List Int) (hb : (bits.length : Int) = vars) : ∀ (m : Nat) (n : Int), Pl L n → vars - dvar vars L n < m → Ev (fun k => impl_Diagram_value.l0 k n bits vars L) (dval vars L bits m n) := by
 intro m
 induction m with
 | zero =>
  intro n p h1
  have := (h.dvar_le p).2
  omega
 | succ m ih =>
  intro n p h1
  have p0 := p.1
  have p1 := p.2
  have hl := h.len
  unfold dval
  by_cases c : n < 2
  ·rw [if_pos c]
   exact Ev.step (Ev.neg (by omega) (Ev.val _)) (fun k => impl_Diagram_value.l0.eq_2 ..)
  ·rw [if_neg c]
   have hv := (dvar_two h p).2 c
   have hv0 := (h.dvar_le p).1
   have g0 : (rd_T56 L (n - 2)).f0 = dvar vars L n := (dvar_self c).symm
   have g1 : (rd_T56 L (n - 2)).f1 = gat L n (dvar vars L n) false := by rw [gat_self c]; rfl
   have g2 : (rd_T56 L (n - 2)).f2 = gat L n (dvar vars L n) true := by rw [gat_self c]; rfl
   refine Ev.step ?_ (fun k => impl_Diagram_value.l0.eq_2 ..)
   rw [w_id (by omega) (by omega), g0, g1, g2]
   refine Ev.pos (by omega) (Ev.pos (by omega) (Ev.pos (by omega) (Ev.pos hv0 (Ev.pos (by omega) ?_))))
   have f := fun hi => gat_ok h p (Int.le_refl _) hv hi
   by_cases cb : rd bits (dvar vars L n) = 1
   ·rw [decide_eq_true cb]
    exact Ev.pos cb (ih _ (f true).1 (by have := (f true).2; omega))
   ·rw [decide_eq_false cb]
    exact Ev.neg cb (ih _ (f false).1 (by have := (f false).2; omega))
/-! #### places of a diagram are the same just if they have the same values -/
theorem rd_set_far {bits : List Int} {w u : Int} (x : Int) (h0 : 0 ≤ w) (h1 : 0 ≤ u) (hne : w ≠ u) : rd (bits.set w.toNat x) u = rd bits u := by
 obtain ⟨a, rfl⟩ := Int.eq_ofNat_of_zero_le h0
 obtain ⟨b, rfl⟩ := Int.eq_ofNat_of_zero_le h1
 rw [Int.toNat_natCast]
 exact rd_set_ne (by omega)
theorem rd_set_at {bits : List Int} {w : Int} (x : Int) (h0 : 0 ≤ w) (h1 : w < (bits.length : Int)) : rd (bits.set w.toNat x) w = x := by
 obtain ⟨a, rfl⟩ := Int.eq_ofNat_of_zero_le h0
 rw [Int.toNat_natCast]
 exact rd_set_eq (by omega)
theorem dval_low {vars : Int} {L : List S56} (h : DV vars L) (bits : List Int) {w : Int} (hw : 0 ≤ w) (x : Int) : ∀ (m : Nat) (n : Int), Pl L n → w < dvar vars L n → dval vars L (bits.set w.toNat x) m n = dval vars L bits m n := by
 intro m
 induction m with
 | zero => intro n _ _; rfl
 | succ m ih =>
  intro n p hd
  unfold dval
  by_cases c : n < 2
  ·rw [if_pos c, if_pos c]
  ·rw [if_neg c, if_neg c, rd_set_far x hw (by omega) (by omega)]
   have f := gat_ok h p (Int.le_refl _) ((dvar_two h p).2 c) (decide (rd bits (dvar vars L n) = 1))
   exact ih _ f.1 (by omega)
theorem dvP_low {vars : Int} {L : List S56} (h : DV vars L) (bits : List Int) {w : Int} (hw : 0 ≤ w) (x : Int) {n : Int} (p : Pl L n) (hd : w < dvar vars L n) : dvP vars L (bits.set w.toNat x) n = dvP vars L bits n := dval_low h bits hw x 13 n p hd
theorem dvP_lo {vars : Int} {L : List S56} (h : DV vars L) (bits : List Int) (hb : bits.length = 12) {n : Int} (p : Pl L n) (c : ¬ n < 2) (hi : Bool) : dvP vars L (bits.set (dvar vars L n).toNat (if hi = true then 1 else 0)) n = dvP vars L bits (gat L n (dvar vars L n) hi) := by
 have hv := (dvar_two h p).2 c
 have hv0 := (h.dvar_le p).1
 have h12 := h.v12
 have f := gat_ok h p (Int.le_refl _) hv hi
 rw [dvP_fork h _ p c, rd_set_at _ hv0 (by omega)]
 cases hi with
 | true =>
  rw [if_pos rfl, decide_eq_true rfl]
  exact dvP_low h bits hv0 _ f.1 f.2
 | false =>
  rw [if_neg (by decide), decide_eq_false (by decide)]
  exact dvP_low h bits hv0 _ f.1 f.2
/-- The same values for all bits. -/
def Same (vars : Int) (L : List S56) (p q : Int) : Prop := ∀ bits : List Int, bits.length = 12 → dvP vars L bits p = dvP vars L bits q
theorem same_gat {vars : Int} {L : List S56} (h : DV vars L) {p q : Int} (pp : Pl L p) (pq : Pl L q) (hs : Same vars L p q) (c : ¬ p < 2) (hle : dvar vars L p ≤ dvar vars L q) (hi : Bool) : Same vars L (gat L p (dvar vars L p) hi) (gat L q (dvar vars L p) hi) := by
 intro bits hb
 have h1 := hs (bits.set (dvar vars L p).toNat (if hi = true then 1 else 0)) (by simpa using hb)
 rw [dvP_lo h bits hb pp c hi] at h1
 rw [h1]
 by_cases e : dvar vars L q = dvar vars L p
 ·have c2 : ¬ q < 2 := (dvar_two h pq).1 (by rw [e]; exact (dvar_two h pp).2 c)
  rw [← e, dvP_lo h bits hb pq c2 hi]
 ·have hv0 := (h.dvar_le pp).1
  rw [dvP_low h bits hv0 _ pq (by omega)]
  congr 1
  unfold gat
  by_cases c2 : q < 2
  ·rw [if_pos c2]
  ·rw [if_neg c2, if_neg (fun e2 => e (by unfold dvar at e2 ⊢; rw [if_neg c2]; exact e2))]
theorem gat_above {vars : Int} {L : List S56} {q v : Int} (h : v < dvar vars L q) (hi : Bool) : gat L q v hi = q := by
 unfold gat
 by_cases c2 : q < 2
 ·rw [if_pos c2]
 ·unfold dvar at h
  rw [if_neg c2] at h
  rw [if_neg c2, if_neg (by omega)]
theorem gat_ne {vars : Int} {L : List S56} (h : DV vars L) {p : Int} (pp : Pl L p) (c : ¬ p < 2) : gat L p (dvar vars L p) false ≠ gat L p (dvar vars L p) true ∧ gat L p (dvar vars L p) false < p ∧ gat L p (dvar vars L p) true < p := by
 obtain ⟨x, hx, hd, e, _, _, _, _, l1, l2, ne, _, _⟩ := h.at_ pp c
 unfold gat
 rw [e, hd, if_neg c, if_pos rfl, if_neg c, if_pos rfl, if_neg (by decide), if_pos rfl]
 exact ⟨ne, l1, l2⟩
theorem place_eq {vars : Int} {L : List S56} (h : DV vars L) {p q : Int} (pp : Pl L p) (pq : Pl L q) (c : ¬ p < 2) (c2 : ¬ q < 2) (hv : dvar vars L p = dvar vars L q) (hl : gat L p (dvar vars L p) false = gat L q (dvar vars L p) false) (hh : gat L p (dvar vars L p) true = gat L q (dvar vars L p) true) : p = q := by
 obtain ⟨x, hx, hd, e, _⟩ := h.at_ pp c
 obtain ⟨y, hy, hd2, e2, _⟩ := h.at_ pq c2
 rw [e, e2] at hv
 rw [e] at hl hh
 unfold gat at hl hh
 rw [hd, hd2, if_neg c, if_neg c2, if_pos rfl, if_pos hv.symm] at hl hh
 rw [if_neg (by decide), if_neg (by decide)] at hl
 rw [if_pos rfl, if_pos rfl] at hh
 have hxy : x = y := by
  obtain ⟨a, b, d⟩ := x
  obtain ⟨a', b', d'⟩ := y
  simp only at hv hl hh
  subst hv hl hh
  rfl
 subst hxy
 obtain ⟨l1, g1⟩ := List.getElem?_eq_some_iff.1 hx
 obtain ⟨l2, g2⟩ := List.getElem?_eq_some_iff.1 hy
 have := nodup_inj h.nd l1 l2 (g1.trans g2.symm)
 have := pp.1
 have := pq.1
 omega
theorem canon {vars : Int} {L : List S56} (h : DV vars L) : ∀ (N : Nat) (p q : Int), p < N → q < N → Pl L p → Pl L q → Same vars L p q → p = q := by
 intro N
 induction N with
 | zero =>
  intro p q h1 _ pp _ _
  have := pp.1
  omega
 | succ N ih =>
  intro p q h1 h2 pp pq hs
  -- a place whose variable stands ahead of the other's has two equal branches: it is none
  have no : ∀ p q : Int, p < (N + 1 : Nat) → q < (N + 1 : Nat) → Pl L p → Pl L q → Same vars L p q → ¬ dvar vars L p < dvar vars L q := by
   intro p q h1 h2 pp pq hs hlt
   have c : ¬ p < 2 := (dvar_two h pp).1 (by have := (h.dvar_le pq).2; omega)
   have f := fun hi => gat_ok h pp (Int.le_refl _) ((dvar_two h pp).2 c) hi
   obtain ⟨ne, l1, l2⟩ := gat_ne h pp c
   have s0 := same_gat h pp pq hs c (by omega) false
   have s1 := same_gat h pp pq hs c (by omega) true
   rw [gat_above hlt] at s0 s1
   exact ne (ih _ _ (by omega) (by omega) (f false).1 (f true).1 (fun bits hb => (s0 bits hb).trans (s1 bits hb).symm))
  have e : dvar vars L p = dvar vars L q := by
   have a := no p q h1 h2 pp pq hs
   have b := no q p h2 h1 pq pp (fun bits hb => (hs bits hb).symm)
   omega
  by_cases c : p < 2
  ·have c2 : q < 2 := by
    refine Decidable.byContradiction (fun c2 => ?_)
    have := (dvar_two h pq).2 c2
    have := dvar_const (vars := vars) (L := L) c
    omega
   have := hs (List.replicate 12 0) (by simp)
   rw [dvP_const c, dvP_const c2] at this
   exact this
  ·have c2 : ¬ q < 2 := (dvar_two h pq).1 (by rw [← e]; exact (dvar_two h pp).2 c)
   have f := fun hi => gat_ok h pp (Int.le_refl _) ((dvar_two h pp).2 c) hi
   have g := fun hi => gat_ok h pq (Int.le_refl _) ((dvar_two h pq).2 c2) hi
   obtain ⟨_, l1, l2⟩ := gat_ne h pp c
   obtain ⟨_, l3, l4⟩ := gat_ne h pq c2
   rw [← e] at g l3 l4
   exact place_eq h pp pq c c2 e (ih _ _ (by omega) (by omega) (f false).1 (g false).1 (same_gat h pp pq hs c (by omega) false)) (ih _ _ (by omega) (by omega) (f true).1 (g true).1 (same_gat h pp pq hs c (by omega) true))
theorem canon_eq {vars : Int} {L : List S56} (h : DV vars L) {p q : Int} (pp : Pl L p) (pq : Pl L q) (hs : Same vars L p q) : p = q := canon h (p.toNat + q.toNat + 1) p q (by have := pp.1; have := pq.1; omega) (by have := pp.1; have := pq.1; omega) pp pq hs
theorem tval_low {vars : Int} {L : List S56} (h : DV vars L) (bits : List Int) {w : Int} (hw : 0 ≤ w) (x : Int) {t : DT} : ∀ {m : Int}, TOk vars L m t → w < m → tval vars L (bits.set w.toNat x) t = tval vars L bits t := by
 induction t with
 | leaf n =>
  intro m ht hm
  exact dvP_low h bits hw x ht.1 (by have := ht.2; omega)
 | fork v lo hi ihl ihh =>
  intro m ht hm
  obtain ⟨t1, t2, t3, t4, t5⟩ := ht
  unfold tval
  rw [rd_set_far x hw t2 (by omega), ihl t4 (by omega), ihh t5 (by omega)]
theorem tval_side {vars : Int} {L : List S56} (h : DV vars L) {bits : List Int} (hb : bits.length = 12) {v : Int} {lo hi : DT} {m : Int} (ht : TOk vars L m (.fork v lo hi)) : tval vars L (bits.set v.toNat 0) (.fork v lo hi) = tval vars L bits lo ∧ tval vars L (bits.set v.toNat 1) (.fork v lo hi) = tval vars L bits hi := by
 obtain ⟨t1, t2, t3, t4, t5⟩ := ht
 have h12 := h.v12
 constructor
 ·show (if rd (bits.set v.toNat 0) v = 1 then _ else _) = _
  rw [rd_set_at _ t2 (by omega), if_neg (by decide), tval_low h bits t2 0 t4 (by omega)]
 ·show (if rd (bits.set v.toNat 1) v = 1 then _ else _) = _
  rw [rd_set_at _ t2 (by omega), if_pos rfl, tval_low h bits t2 1 t5 (by omega)]
/-- A tree that has a place's values comes to that place, and nothing is added. -/
theorem ins_there {vars : Int} {L : List S56} (h : DV vars L) {t : DT} : ∀ {m : Int} (p : Int), TOk vars L m t → Pl L p → (∀ bits : List Int, bits.length = 12 → tval vars L bits t = dvP vars L bits p) → ins L t = (L, p) := by
 induction t with
 | leaf n =>
  intro m p ht pp hs
  rw [show n = p from canon_eq h ht.1 pp hs]
  rfl
 | fork v lo hi ihl ihh =>
  intro m p ht pp hs
  obtain ⟨t1, t2, t3, t4, t5⟩ := ht
  have h12 := h.v12
  have ht' : TOk vars L v (.fork v lo hi) := ⟨Int.le_refl _, t2, t3, t4, t5⟩
  have side := fun bits hb => tval_side h (bits := bits) hb ht'
  have nl : ¬ dvar vars L p < v := fun hlt => by
   have c : ¬ p < 2 := (dvar_two h pp).1 (by omega)
   have hv0 := (h.dvar_le pp).1
   have f := fun hi => gat_ok h pp (Int.le_refl _) ((dvar_two h pp).2 c) hi
   obtain ⟨ne, _, _⟩ := gat_ne h pp c
   refine ne (canon_eq h (f false).1 (f true).1 (fun bits hb => ?_))
   have e0 := dvP_lo h bits hb pp c false
   have e1 := dvP_lo h bits hb pp c true
   rw [← e0, ← e1, ← hs _ (by simpa using hb), ← hs _ (by simpa using hb), tval_low h bits hv0 _ ht' (by omega), tval_low h bits hv0 _ ht' (by omega)]
  rw [ins_fork]
  by_cases e : dvar vars L p = v
  ·have c : ¬ p < 2 := (dvar_two h pp).1 (by omega)
   have f := fun hi => gat_ok h pp (Int.le_refl _) ((dvar_two h pp).2 c) hi
   obtain ⟨ne, _, _⟩ := gat_ne h pp c
   have el := ihl (gat L p v false) t4 (by rw [← e]; exact (f false).1) (fun bits hb => by
    rw [← (side bits hb).1, hs _ (by simpa using hb)]
    have := dvP_lo h bits hb pp c false
    rw [e] at this
    exact this)
   have eh := ihh (gat L p v true) t5 (by rw [← e]; exact (f true).1) (fun bits hb => by
    rw [← (side bits hb).2, hs _ (by simpa using hb)]
    have := dvP_lo h bits hb pp c true
    rw [e] at this
    exact this)
   rw [el]
   simp only
   rw [eh]
   simp only
   rw [e] at f ne
   have g0 := (f false).1.1
   have g1 := (f true).1.1
   rw [if_neg (by omega)]
   unfold dadd
   rw [if_neg (by omega), if_neg ne]
   obtain ⟨x, hx, hd, ev, _⟩ := h.at_ pp c
   have hxe : (⟨v, gat L p v false, gat L p v true⟩ : S56) = x := by
    have exv : x.f0 = v := by omega
    have hg0 : gat L p v false = x.f1 := by unfold gat; rw [if_neg c, hd, if_pos exv, if_neg (by decide)]
    have hg1 : gat L p v true = x.f2 := by unfold gat; rw [if_neg c, hd, if_pos exv, if_pos rfl]
    rw [hg0, hg1]
    obtain ⟨a, b, d⟩ := x
    simp only at exv ⊢
    rw [exv]
   rw [hxe, dfind_at h.nd hx]
   show (L, ((p - 2).toNat : Int) + 2) = (L, p)
   congr 1
   have := pp.1
   omega
  ·have hgt : v < dvar vars L p := by omega
   have el := ihl p t4 pp (fun bits hb => by
    rw [← (side bits hb).1, hs _ (by simpa using hb), dvP_low h bits t2 _ pp hgt])
   have eh := ihh p t5 pp (fun bits hb => by
    rw [← (side bits hb).2, hs _ (by simpa using hb), dvP_low h bits t2 _ pp hgt])
   rw [el]
   simp only
   rw [eh]
   simp only
   have := pp.1
   rw [if_neg (by omega)]
   unfold dadd
   rw [if_neg (by omega), if_pos rfl]
theorem rd_mid (pre t : List Int) (b : Int) : rd (pre ++ b :: t) ((pre.length : Nat) : Int) = b := by
 rw [rd_lt (by simp)]
 simp
/-- A number's lower bits, the highest one first. -/
def bitsD (n : Int) : Nat → List Int
 | 0 => []
 | d + 1 => (n / 2 ^ d % 2) :: bitsD n d
theorem bitsD_length (n : Int) : ∀ d, (bitsD n d).length = d := by
 intro d
 induction d with
 | zero => rfl
 | succ d ih => simp [bitsD, ih]
theorem shr_eq (n : Int) (d : Nat) (h : d ≤ 64) : shr .i64 n (d : Int) = n / 2 ^ d := by
 unfold shr
 rw [Int.toNat_natCast, Nat.min_eq_left (by simpa [IntKind.bits] using h)]
theorem spec_value_loop (n : Int) (hn : 0 ≤ n) : ∀ (d : Nat) (acc : List Int), d ≤ 60 → acc.length ≤ 1000 - d →
  Ev (fun k => spec_l6Value.l0 k n acc ((d : Int) - 1)) (acc ++ bitsD n d) := by
 intro d
 induction d with
 | zero =>
  intro acc _ _
  refine Ev.step (Ev.neg (by omega) (Ev.valEq (by simp [bitsD]))) (fun k => spec_l6Value.l0.eq_2 ..)
 | succ d ih =>
  intro acc hd ha
  refine Ev.step ?_ (fun k => spec_l6Value.l0.eq_2 ..)
  rw [show ((d + 1 : Nat) : Int) - 1 = (d : Int) by omega, shr_eq n d (by omega), w_id (by omega) (by omega)]
  refine Ev.pos (by omega) (Ev.pos (by omega) (Ev.pos (by omega) ?_))
  have := ih (acc ++ [n / 2 ^ d % 2]) (by omega) (by simp; omega)
  have e : Int.tmod (n / 2 ^ d) 2 = n / 2 ^ d % 2 := by
   rw [Int.tmod_eq_emod_of_nonneg]
   exact Int.ediv_nonneg hn (by exact_mod_cast Nat.zero_le _)
  rw [e]
  refine this.to ?_
  simp [bitsD]
theorem spec_value (n : Int) (hn : 0 ≤ n) (m : Nat) (hm : m ≤ 60) : Ev (fun k => spec_l6Value.f k n (m : Int)) (bitsD n m) := by
 unfold spec_l6Value.f
 rw [w_id (by omega) (by omega)]
 exact (spec_value_loop n hn m [] hm (by simp)).to (by simp)
/-! #### a diagram that is made value by value -/
def madeT (fn : List Int → Int) : Nat → List Int → DT
 | 0, bits => .leaf (fn bits)
 | m + 1, bits => .fork (bits.length : Int) (madeT fn m (bits ++ [0])) (madeT fn m (bits ++ [1]))
def allvals (fn : List Int → Int) : Nat → List Int → List Int
 | 0, bits => [fn bits]
 | m + 1, bits => allvals fn m (bits ++ [0]) ++ allvals fn m (bits ++ [1])
theorem allvals_len (fn : List Int → Int) : ∀ (m : Nat) (bits : List Int), (allvals fn m bits).length = 2 ^ m := by
 intro m
 induction m with
 | zero => intro bits; rfl
 | succ m ih =>
  intro bits
  unfold allvals
  rw [List.length_append, ih, ih, Nat.pow_succ]
  omega
theorem rows_made (fn : List Int → Int) : ∀ (m : Nat) (bits : List Int), rowsT m (bits.length : Int) (allvals fn m bits) = madeT fn m bits := by
 intro m
 induction m with
 | zero => intro bits; rfl
 | succ m ih =>
  intro bits
  have h1 := allvals_len fn m (bits ++ [0])
  have h2 := allvals_len fn m (bits ++ [1])
  have hh : (allvals fn (m + 1) bits).length / 2 = (allvals fn m (bits ++ [0])).length := by
   rw [allvals_len, h1, Nat.pow_succ]
   omega
  have e1 := ih (bits ++ [0])
  have e2 := ih (bits ++ [1])
  rw [List.length_append, List.length_singleton] at e1 e2
  show DT.fork (bits.length : Int) (rowsT m ((bits.length : Int) + 1) ((allvals fn (m + 1) bits).take ((allvals fn (m + 1) bits).length / 2))) (rowsT m ((bits.length : Int) + 1) ((allvals fn (m + 1) bits).drop ((allvals fn (m + 1) bits).length / 2))) = _
  rw [hh]
  show DT.fork (bits.length : Int) (rowsT m ((bits.length : Int) + 1) ((allvals fn m (bits ++ [0]) ++ allvals fn m (bits ++ [1])).take (allvals fn m (bits ++ [0])).length)) (rowsT m ((bits.length : Int) + 1) ((allvals fn m (bits ++ [0]) ++ allvals fn m (bits ++ [1])).drop (allvals fn m (bits ++ [0])).length)) = _
  rw [List.take_left, List.drop_left]
  have c : ((bits.length + 1 : Nat) : Int) = (bits.length : Int) + 1 := by omega
  rw [c] at e1 e2
  rw [e1, e2]
  rfl
theorem bitsD_low (n : Nat) (m : Nat) : ∀ d, d ≤ m → bitsD ((2 ^ m + n : Nat) : Int) d = bitsD (n : Int) d := by
 intro d
 induction d with
 | zero => intro _; rfl
 | succ d ih =>
  intro hd
  unfold bitsD
  rw [ih (by omega)]
  congr 1
  have e : (2 : Int) ^ d = ((2 ^ d : Nat) : Int) := by simp
  rw [e, ← Int.natCast_ediv, ← Int.natCast_ediv]
  have h1 : 2 ^ m = 2 ^ (m - d - 1) * 2 * 2 ^ d := by
   rw [Nat.mul_assoc, ← Nat.pow_succ', ← Nat.pow_add]
   congr 1
   omega
  have h2 : (2 ^ m + n) / 2 ^ d = 2 ^ (m - d - 1) * 2 + n / 2 ^ d := by
   rw [h1, Nat.mul_comm (2 ^ (m - d - 1) * 2) (2 ^ d), Nat.mul_add_div (Nat.pow_pos (by decide))]
  rw [h2]
  omega
theorem allvals_rows (fn : List Int → Int) : ∀ (m : Nat) (bits : List Int), allvals fn m bits = (List.range (2 ^ m)).map (fun i => fn (bits ++ bitsD ((i : Nat) : Int) m)) := by
 intro m
 induction m with
 | zero =>
  intro bits
  show [fn bits] = [fn (bits ++ [])]
  rw [List.append_nil]
 | succ m ih =>
  intro bits
  have hp : 2 ^ (m + 1) = 2 ^ m + 2 ^ m := by rw [Nat.pow_succ]; omega
  rw [hp, List.range_add, List.map_append, List.map_map]
  unfold allvals
  rw [ih, ih]
  have hpos : 0 < 2 ^ m := Nat.pow_pos (by decide)
  have ei : (2 : Int) ^ m = ((2 ^ m : Nat) : Int) := by simp
  congr 1
  ·apply List.map_congr_left
   intro i hi
   have hi := List.mem_range.mp hi
   have e : bitsD (i : Int) (m + 1) = 0 :: bitsD (i : Int) m := by
    show ((i : Int) / 2 ^ m % 2) :: _ = _
    rw [ei, ← Int.natCast_ediv, Nat.div_eq_of_lt hi]
    rfl
   rw [e, List.append_assoc]
   rfl
  ·apply List.map_congr_left
   intro i hi
   have hi := List.mem_range.mp hi
   have e : bitsD ((2 ^ m + i : Nat) : Int) (m + 1) = 1 :: bitsD (i : Int) m := by
    show (((2 ^ m + i : Nat) : Int) / 2 ^ m % 2) :: bitsD ((2 ^ m + i : Nat) : Int) m = _
    rw [bitsD_low i m m (Nat.le_refl _), ei, ← Int.natCast_ediv, Nat.add_div_left _ hpos, Nat.div_eq_of_lt hi]
    rfl
   show fn (bits ++ [1] ++ bitsD (i : Int) m) = fn (bits ++ bitsD ((2 ^ m + i : Nat) : Int) (m + 1))
   rw [e, List.append_assoc]
   rfl
theorem madeT_ok {vars : Int} {L : List S56} (hL : DV vars L) (fn : List Int → Int) (hfn : ∀ bits, BitRow bits → (bits.length : Int) = vars → fn bits = 0 ∨ fn bits = 1) : ∀ (m : Nat) (bits : List Int), BitRow bits → (bits.length : Int) + m = vars → TOk vars L (bits.length : Int) (madeT fn m bits) := by
 intro m
 induction m with
 | zero =>
  intro bits hb hl
  have := hfn bits hb (by omega)
  unfold madeT
  refine ⟨⟨by omega, by omega⟩, ?_⟩
  unfold dvar
  rw [if_pos (by omega)]
  omega
 | succ m ih =>
  intro bits hb hl
  have k : ∀ c : Int, c = 0 ∨ c = 1 → TOk vars L ((bits.length : Int) + 1) (madeT fn m (bits ++ [c])) := fun c hc => by
   have := ih (bits ++ [c]) (fun x hx => by
    rcases List.mem_append.mp hx with h | h
    ·exact hb x h
    ·rw [List.mem_singleton.mp h]
     exact hc) (by simp; omega)
   rw [List.length_append, List.length_singleton] at this
   exact this
  unfold madeT
  exact ⟨Int.le_refl _, by omega, by omega, k 0 (.inl rfl), k 1 (.inr rfl)⟩
theorem dadd_bound {L : List S56} {v lo hi : Int} (hl : L.length ≤ 2000) (h2 : lo ≤ 2001) : (dadd L v lo hi).1.length ≤ 2000 ∧ (dadd L v lo hi).2 ≤ 2001 := by
 unfold dadd
 split
 ·exact ⟨hl, show (-1 : Int) ≤ 2001 by decide⟩
 split
 ·exact ⟨hl, h2⟩
 split
 ·next i hf =>
  have := (List.getElem?_eq_some_iff.1 (dfind_some hf)).1
  exact ⟨hl, by show (i : Int) + 2 ≤ 2001; omega⟩
 split
 ·exact ⟨hl, show (-1 : Int) ≤ 2001 by decide⟩
 ·exact ⟨by simp; omega, by show (L.length : Int) + 2 ≤ 2001; omega⟩
structure WInv (vars : Int) (s : FS) : Prop where
 vs : s.vars = vars
 seen : s.seen = seenP s.forks
 len : s.forks.length ≤ 2000
theorem bit_val (b : Bool) : impl_bit.f b = some (if b = true then 1 else 0) := by
 unfold impl_bit.f
 cases b <;> rfl
theorem made_val {vars : Int} (h12 : vars ≤ 12) (is : Nat → List Int → Option Bool) (fn : List Int → Int) (hfn : ∀ bits, BitRow bits → (bits.length : Int) = vars → (fn bits = 0 ∨ fn bits = 1) ∧ Ev (fun k => is k bits) (fn bits == 1)) :
  ∀ (m : Nat) (s : FS) (bits : List Int), WInv vars s → (bits.length : Int) + m = vars → BitRow bits →
  ∃ s' r, (∃ K, ∀ k j, K ≤ k → K ≤ j → impl_forking_made.f k (is j) s bits = some (s', r)) ∧ WInv vars s' ∧ 0 ≤ r ∧ r ≤ 2001 ∧ (s.full = true → s'.full = true) ∧
   (s.full = false → DV vars s.forks → ((ins s.forks (madeT fn m bits)).2 < 0 → s'.full = true) ∧ (0 ≤ (ins s.forks (madeT fn m bits)).2 → s'.full = false ∧ s'.forks = (ins s.forks (madeT fn m bits)).1 ∧ r = (ins s.forks (madeT fn m bits)).2)) := by
 intro m
 induction m with
 | zero =>
  intro s bits hw hl hb
  cases hf : s.full with
  | true =>
   refine ⟨s, 0, ⟨1, fun k j hk _ => ?_⟩, hw, by decide, by decide, fun _ => hf, fun h => (by cases h)⟩
   obtain ⟨k, rfl⟩ : ∃ q, k = q + 1 := ⟨k - 1, by omega⟩
   rw [impl_forking_made.f, if_pos hf]
  | false =>
   obtain ⟨h01, K, hK⟩ := hfn bits hb (by omega)
   refine ⟨s, fn bits, ⟨K + 1, fun k j hk hj => ?_⟩, hw, by omega, by omega, fun h => (by cases h), fun _ _ => ⟨fun hn => ?_, fun _ => ⟨hf, rfl, rfl⟩⟩⟩
   ·obtain ⟨k, rfl⟩ : ∃ q, k = q + 1 := ⟨k - 1, by omega⟩
    rw [impl_forking_made.f, if_neg (by rw [hf]; decide), if_pos (by rw [hw.vs]; omega), show is j bits = some (fn bits == 1) from hK j (by omega), Option.bind_some, bit_val, Option.bind_some]
    rcases h01 with h | h <;> rw [h] <;> rfl
   ·have : fn bits < 0 := hn
    omega
 | succ m ih =>
  intro s bits hw hl hb
  cases hf : s.full with
  | true =>
   refine ⟨s, 0, ⟨1, fun k j hk _ => ?_⟩, hw, by decide, by decide, fun _ => hf, fun h => (by cases h)⟩
   obtain ⟨k, rfl⟩ : ∃ q, k = q + 1 := ⟨k - 1, by omega⟩
   rw [impl_forking_made.f, if_pos hf]
  | false =>
   have bsn : ∀ c : Int, c = 0 ∨ c = 1 → BitRow (bits ++ [c]) := fun c hc x hx => by
    rcases List.mem_append.mp hx with h | h
    ·exact hb x h
    ·rw [List.mem_singleton.mp h]
     exact hc
   obtain ⟨s1, r1, ⟨K1, e1⟩, w1, p1, q1, f1, g1⟩ := ih s (bits ++ [0]) hw (by simp; omega) (bsn 0 (.inl rfl))
   obtain ⟨s2, r2, ⟨K2, e2⟩, w2, p2, q2, f2, g2⟩ := ih s1 (bits ++ [1]) w1 (by simp; omega) (bsn 1 (.inr rfl))
   obtain ⟨s3, r3, ef, k1, k2, k3, k4, k5⟩ := fork_val s2 (bits.length : Int) r1 r2 (show KeyI (bits.length : Int) ∧ KeyI r1 ∧ KeyI r2 from ⟨keyI (by omega) (by omega), keyI p1 (by omega), keyI p2 (by omega)⟩) p1 p2 w2.seen
   have hbd := dadd_bound (L := s2.forks) (v := (bits.length : Int)) (lo := r1) (hi := r2) w2.len q1
   have hr3 : 0 ≤ r3 ∧ r3 ≤ 2001 := by
    by_cases c : (dadd s2.forks (bits.length : Int) r1 r2).2 < 0
    ·rw [if_pos c] at k5
     omega
    ·rw [if_neg c] at k5
     omega
   have full2 : s2.full = true → s3.full = true := fun h => by
    by_cases c : (dadd s2.forks (bits.length : Int) r1 r2).2 < 0
    ·rw [if_pos c] at k5
     exact k5.1
    ·rw [if_neg c] at k5
     rw [k5.1]
     exact h
   refine ⟨s3, r3, ⟨max K1 K2 + 1, fun k j hk hj => ?_⟩, ⟨by rw [k1]; exact w2.vs, k3, by rw [k4]; exact hbd.1⟩, hr3.1, hr3.2, fun h => (by cases h), fun _ hd => ?_⟩
   ·obtain ⟨k, rfl⟩ : ∃ q, k = q + 1 := ⟨k - 1, by omega⟩
    rw [impl_forking_made.f, if_neg (by rw [hf]; decide), if_neg (by rw [hw.vs]; omega), if_pos (by omega), e1 k j (by omega) (by omega), Option.bind_some]
    simp only
    rw [e2 k j (by omega) (by omega), Option.bind_some]
    exact ef
   ·have hT : ins s.forks (madeT fn (m + 1) bits) = if (ins s.forks (madeT fn m (bits ++ [0]))).2 < 0 then (s.forks, -1) else dadd (ins (ins s.forks (madeT fn m (bits ++ [0]))).1 (madeT fn m (bits ++ [1]))).1 (bits.length : Int) (ins s.forks (madeT fn m (bits ++ [0]))).2 (ins (ins s.forks (madeT fn m (bits ++ [0]))).1 (madeT fn m (bits ++ [1]))).2 := by
     show ins s.forks (.fork (bits.length : Int) (madeT fn m (bits ++ [0])) (madeT fn m (bits ++ [1]))) = _
     rw [ins_fork]
    rw [hT]
    obtain ⟨gn, gy⟩ := g1 hf hd
    by_cases cl : (ins s.forks (madeT fn m (bits ++ [0]))).2 < 0
    ·rw [if_pos cl]
     exact ⟨fun _ => full2 (f2 (gn cl)), fun h => (neg1 h).elim⟩
    rw [if_neg cl]
    obtain ⟨z1, z2, z3⟩ := gy (by omega)
    have hok := madeT_ok hd fn (fun b hb hl => (hfn b hb hl).1) m (bits ++ [0]) (bsn 0 (.inl rfl)) (by simp; omega)
    have hd1 := (dv_ins hd hok).1
    rw [← z2, ← z3]
    rw [← z2] at hd1
    obtain ⟨gn2, gy2⟩ := g2 z1 hd1
    by_cases ch : (ins s1.forks (madeT fn m (bits ++ [1]))).2 < 0
    ·have hneg : dadd (ins s1.forks (madeT fn m (bits ++ [1]))).1 (bits.length : Int) r1 (ins s1.forks (madeT fn m (bits ++ [1]))).2 = ((ins s1.forks (madeT fn m (bits ++ [1]))).1, -1) := by
      unfold dadd
      rw [if_pos (.inr ch)]
     rw [hneg]
     exact ⟨fun _ => full2 (gn2 ch), fun h => (neg1 h).elim⟩
    obtain ⟨z4, z5, z6⟩ := gy2 (by omega)
    rw [← z5, ← z6]
    refine ⟨fun h => ?_, fun h => ?_⟩
    ·rw [if_pos h] at k5
     exact k5.1
    ·rw [if_neg (by omega)] at k5
     exact ⟨k5.1.trans z4, k4, k5.2⟩
theorem shl_pow (m : Nat) (h : m ≤ 12) : shl .i64 1 (m : Int) = ((2 ^ m : Nat) : Int) := by
 have : m = 0 ∨ m = 1 ∨ m = 2 ∨ m = 3 ∨ m = 4 ∨ m = 5 ∨ m = 6 ∨ m = 7 ∨ m = 8 ∨ m = 9 ∨ m = 10 ∨ m = 11 ∨ m = 12 := by omega
 rcases this with rfl | rfl | rfl | rfl | rfl | rfl | rfl | rfl | rfl | rfl | rfl | rfl | rfl <;> rfl
/-- The value of a tree that was made value by value. -/
theorem madeT_val {vars : Int} {L : List S56} (fn : List Int → Int) (bits : List Int) (hb : BitRow bits) (hf : fn bits < 2) : ∀ (rest pre : List Int), bits = pre ++ rest → tval vars L bits (madeT fn rest.length pre) = fn bits := by
 intro rest
 induction rest with
 | nil =>
  intro pre e
  rw [List.append_nil] at e
  subst e
  exact dvP_const hf
 | cons b rest ih =>
  intro pre e
  have hb1 : b = 0 ∨ b = 1 := hb b (by rw [e]; simp)
  have hr : rd bits ((pre.length : Nat) : Int) = b := by rw [e, rd_mid]
  show (if rd bits ((pre.length : Nat) : Int) = 1 then tval vars L bits (madeT fn rest.length (pre ++ [1])) else tval vars L bits (madeT fn rest.length (pre ++ [0]))) = _
  rw [hr]
  rcases hb1 with rfl | rfl
  ·rw [if_neg (by decide)]
   exact ih (pre ++ [0]) (by rw [e, List.append_assoc]; rfl)
  ·rw [if_pos rfl]
   exact ih (pre ++ [1]) (by rw [e, List.append_assoc]; rfl)
/-! #### a diagram of just the forks to which one comes -/
def cpT (vars : Int) (L : List S56) : Nat → Int → DT
 | 0, _ => .leaf 0
 | m + 1, n => if n < 2 then .leaf n else .fork (dvar vars L n) (cpT vars L m (gat L n (dvar vars L n) false)) (cpT vars L m (gat L n (dvar vars L n) true))
theorem cpT_same {vars : Int} {L : List S56} (h : DV vars L) : ∀ (m m2 : Nat) (n : Int), Pl L n → vars - dvar vars L n < m → vars - dvar vars L n < m2 → cpT vars L m n = cpT vars L m2 n := by
 intro m
 induction m with
 | zero =>
  intro m2 n p h1 _
  have := (h.dvar_le p).2
  omega
 | succ m ih =>
  intro m2 n p h1 h2
  cases m2 with
  | zero =>
   have := (h.dvar_le p).2
   omega
  | succ m2 =>
   unfold cpT
   by_cases c : n < 2
   ·rw [if_pos c, if_pos c]
   ·have f := fun hi => gat_ok h p (Int.le_refl _) ((dvar_two h p).2 c) hi
    rw [if_neg c, if_neg c, ih m2 _ (f false).1 (by have := (f false).2; omega) (by have := (f false).2; omega), ih m2 _ (f true).1 (by have := (f true).2; omega) (by have := (f true).2; omega)]
def cpP (vars : Int) (L : List S56) (n : Int) : DT := cpT vars L 13 n
theorem cpP_const {vars : Int} {L : List S56} {n : Int} (c : n < 2) : cpP vars L n = .leaf n := by
 unfold cpP cpT
 rw [if_pos c]
theorem cpP_fork {vars : Int} {L : List S56} (h : DV vars L) {n : Int} (p : Pl L n) (c : ¬ n < 2) : cpP vars L n = .fork (dvar vars L n) (cpP vars L (gat L n (dvar vars L n) false)) (cpP vars L (gat L n (dvar vars L n) true)) := by
 have f := fun hi => gat_ok h p (Int.le_refl _) ((dvar_two h p).2 c) hi
 have a0 := (h.dvar_le p).1
 have a1 := h.v12
 unfold cpP
 rw [cpT.eq_2, if_neg c, cpT_same h 12 13 _ (f false).1 (by have := (f false).2; omega) (by have := (f false).2; omega), cpT_same h 12 13 _ (f true).1 (by have := (f true).2; omega) (by have := (f true).2; omega)]
theorem cpP_ok {vars : Int} {L F : List S56} (h : DV vars L) (hF : DV vars F) : ∀ (m : Nat) (n : Int), Pl L n → vars - dvar vars L n < m → TOk vars F (dvar vars L n) (cpP vars L n) := by
 intro m
 induction m with
 | zero =>
  intro n p h1
  have := (h.dvar_le p).2
  omega
 | succ m ih =>
  intro n p h1
  by_cases c : n < 2
  ·rw [cpP_const c]
   have := p.1
   exact ⟨⟨p.1, by omega⟩, by rw [dvar_const c, dvar_const c]; exact Int.le_refl _⟩
  ·have hv := (dvar_two h p).2 c
   have f := fun hi => gat_ok h p (Int.le_refl _) hv hi
   rw [cpP_fork h p c]
   exact ⟨Int.le_refl _, (h.dvar_le p).1, hv, TOk.down (by have := (f false).2; omega) (ih _ (f false).1 (by have := (f false).2; omega)), TOk.down (by have := (f true).2; omega) (ih _ (f true).1 (by have := (f true).2; omega))⟩
theorem cpP_val {vars : Int} {L F : List S56} (h : DV vars L) (bits : List Int) : ∀ (m : Nat) (n : Int), Pl L n → vars - dvar vars L n < m → tval vars F bits (cpP vars L n) = dvP vars L bits n := by
 intro m
 induction m with
 | zero =>
  intro n p h1
  have := (h.dvar_le p).2
  omega
 | succ m ih =>
  intro n p h1
  by_cases c : n < 2
  ·rw [cpP_const c, dvP_const c]
   exact dvP_const c
  ·have f := fun hi => gat_ok h p (Int.le_refl _) ((dvar_two h p).2 c) hi
   rw [cpP_fork h p c, dvP_fork h bits p c]
   unfold tval
   by_cases cb : rd bits (dvar vars L n) = 1
   ·rw [if_pos cb, decide_eq_true cb]
    exact ih _ (f true).1 (by have := (f true).2; omega)
   ·rw [if_neg cb, decide_eq_false cb]
    exact ih _ (f false).1 (by have := (f false).2; omega)
/-- Numbers below n, none twice, are n at most. -/
theorem nodup_bound : ∀ (n : Nat) (l : List Nat), l.Nodup → (∀ x ∈ l, x < n) → l.length ≤ n := by
 intro n
 induction n with
 | zero =>
  intro l _ hl
  cases l with
  | nil => exact Nat.le_refl _
  | cons x l => exact absurd (hl x List.mem_cons_self) (Nat.not_lt_zero _)
 | succ n ih =>
  intro l hn hl
  have h1 := ih (l.erase n) (hn.erase n) (fun x hx => by
   have hx2 := (List.Nodup.mem_erase_iff hn).1 hx
   have := hl x hx2.2
   have := hx2.1
   omega)
  by_cases c : n ∈ l
  ·rw [List.length_erase_of_mem c] at h1
   omega
  ·rw [List.erase_of_not_mem c] at h1
   omega
/-- Each place has the values of a place of the elder diagram. -/
def Img (vars : Int) (L F : List S56) : Prop := ∀ p, Pl F p → ∃ q, Pl L q ∧ ∀ bits : List Int, bits.length = 12 → dvP vars F bits p = dvP vars L bits q
/-- Where there are as many forks as may be, each place of the elder diagram is there. -/
theorem img_full {vars : Int} {L F : List S56} (h : DV vars L) (hF : DV vars F) (hi : Img vars L F) (hl : 2000 ≤ F.length) {q : Int} (pq : Pl L q) : ∃ p, Pl F p ∧ ∀ bits : List Int, bits.length = 12 → dvP vars F bits p = dvP vars L bits q := by
 refine Classical.byContradiction (fun hno => ?_)
 have key : ∀ m : Nat, m ≤ F.length → ∃ l : List Nat, l.length = m + 1 ∧ l.Nodup ∧ (∀ x ∈ l, x < L.length + 2) ∧ (∀ x ∈ l, (x : Int) = q ∨ ∃ p : Int, 2 ≤ p ∧ p < (m : Int) + 2 ∧ ∀ bits : List Int, bits.length = 12 → dvP vars F bits p = dvP vars L bits (x : Int)) := by
  intro m
  induction m with
  | zero =>
   intro _
   refine ⟨[q.toNat], rfl, by simp, fun x hx => ?_, fun x hx => ?_⟩
   ·rw [List.mem_singleton.mp hx]
    have := pq.1
    have := pq.2
    omega
   ·rw [List.mem_singleton.mp hx]
    have := pq.1
    exact .inl (by omega)
  | succ m ih =>
   intro hm
   obtain ⟨l, l1, l2, l3, l4⟩ := ih (by omega)
   have pp : Pl F ((m : Int) + 2) := ⟨by omega, by omega⟩
   obtain ⟨y, py, hy⟩ := hi _ pp
   have y0 := py.1
   have y1 := py.2
   have hyc : (y.toNat : Int) = y := by omega
   refine ⟨y.toNat :: l, by simp [l1], List.nodup_cons.2 ⟨fun hmem => ?_, l2⟩, fun x hx => ?_, fun x hx => ?_⟩
   ·rcases l4 _ hmem with e | ⟨p, p2, p3, hp⟩
    ·exact hno ⟨_, pp, fun bits hb => by rw [hy bits hb, ← hyc, e]⟩
    ·have e : p = (m : Int) + 2 := canon_eq hF ⟨by omega, by omega⟩ pp (fun bits hb => by rw [hp bits hb, hyc, hy bits hb])
     omega
   ·rcases List.mem_cons.mp hx with e | hx
    ·rw [e]
     omega
    ·exact l3 x hx
   ·rcases List.mem_cons.mp hx with e | hx
    ·rw [e]
     refine .inr ⟨(m : Int) + 2, by omega, by omega, fun bits hb => ?_⟩
     rw [hyc]
     exact hy bits hb
    ·rcases l4 x hx with e | ⟨p, p2, p3, hp⟩
     ·exact .inl e
     ·exact .inr ⟨p, p2, by omega, hp⟩
 obtain ⟨l, l1, l2, l3, l4⟩ := key F.length (Nat.le_refl _)
 have n0 : ∀ c : Nat, c < 2 → c ∉ l := fun c hc hmem => by
  have cc : (c : Int) < 2 := by omega
  rcases l4 c hmem with e | ⟨p, p2, p3, hp⟩
  ·refine hno ⟨q, ⟨pq.1, by omega⟩, fun bits _ => ?_⟩
   rw [dvP_const (by omega), dvP_const (by omega)]
  ·have e : p = (c : Int) := canon_eq hF ⟨by omega, by omega⟩ ⟨by omega, by omega⟩ (fun bits hb => by rw [hp bits hb, dvP_const cc, dvP_const cc])
   omega
 have hb := nodup_bound (L.length + 2) (0 :: 1 :: l) (List.nodup_cons.2 ⟨fun hm => by
  rcases List.mem_cons.mp hm with e | hm
  ·cases e
  ·exact n0 0 (by decide) hm, List.nodup_cons.2 ⟨n0 1 (by decide), l2⟩⟩) (fun x hx => by
   rcases List.mem_cons.mp hx with e | hx
   ·omega
   ·rcases List.mem_cons.mp hx with e | hx
    ·omega
    ·exact l3 x hx)
 have := h.len
 have := hF.len
 simp only [List.length_cons] at hb
 omega
/-- There is always room for the forks of the elder diagram. -/
theorem ins_cp {vars : Int} {L : List S56} (h : DV vars L) : ∀ (m : Nat) (n : Int) (F : List S56), DV vars F → Img vars L F → Pl L n → vars - dvar vars L n < m → 0 ≤ (ins F (cpP vars L n)).2 ∧ Img vars L (ins F (cpP vars L n)).1 := by
 intro m
 induction m with
 | zero =>
  intro n F _ _ p h1
  have := (h.dvar_le p).2
  omega
 | succ m ih =>
  intro n F hF hi p h1
  by_cases c : n < 2
  ·rw [cpP_const c]
   exact ⟨p.1, hi⟩
  have hv := (dvar_two h p).2 c
  have f := fun hi => gat_ok h p (Int.le_refl _) hv hi
  have hok := cpP_ok h hF 13 n p (by have := (h.dvar_le p).1; have := h.v12; omega)
  rw [cpP_fork h p c] at hok ⊢
  rw [ins_fork]
  obtain ⟨l0, hi1⟩ := ih _ F hF hi (f false).1 (by have := (f false).2; omega)
  obtain ⟨d1, pl1⟩ := dv_ins hF hok.2.2.2.1
  obtain ⟨pl1, ql1⟩ := pl1 l0
  obtain ⟨r0, hi2⟩ := ih _ (ins F (cpP vars L (gat L n (dvar vars L n) false))).1 d1 hi1 (f true).1 (by have := (f true).2; omega)
  have e1 := ins_ext F (cpP vars L (gat L n (dvar vars L n) false))
  obtain ⟨d2, pl2⟩ := dv_ins d1 (hok.2.2.2.2.ext e1)
  obtain ⟨pl2, ql2⟩ := pl2 r0
  have v1 := fun bits => ins_val bits hF hok.2.2.2.1 l0
  have v2 := fun bits => ins_val bits d1 (hok.2.2.2.2.ext e1) r0
  have e2 := ins_ext (ins F (cpP vars L (gat L n (dvar vars L n) false))).1 (cpP vars L (gat L n (dvar vars L n) true))
  have fu := fun bits (hi : Bool) => cpP_val (F := F) h bits 13 _ (f hi).1 (by have := (h.dvar_le (f hi).1).1; have := h.v12; omega)
  have fu2 := fun bits (hi : Bool) => cpP_val (F := (ins F (cpP vars L (gat L n (dvar vars L n) false))).1) h bits 13 _ (f hi).1 (by have := (h.dvar_le (f hi).1).1; have := h.v12; omega)
  rw [if_neg (by omega)]
  generalize hF1 : (ins F (cpP vars L (gat L n (dvar vars L n) false))).1 = F1 at *
  generalize hr1 : (ins F (cpP vars L (gat L n (dvar vars L n) false))).2 = r1 at *
  generalize hF2 : (ins F1 (cpP vars L (gat L n (dvar vars L n) true))).1 = F2 at *
  generalize hr2 : (ins F1 (cpP vars L (gat L n (dvar vars L n) true))).2 = r2 at *
  have p1 := pl1.ext e2
  have hv0 := (h.dvar_le p).1
  have hvl : dvar vars L n < dvar vars F2 r1 := by rw [dvar_ext pl1 e2]; omega
  have hvh : dvar vars L n < dvar vars F2 r2 := by omega
  have vals : ∀ bits, (if rd bits (dvar vars L n) = 1 then dvP vars F2 bits r2 else dvP vars F2 bits r1) = dvP vars L bits n := fun bits => by
   rw [dvP_fork h bits p c]
   by_cases cb : rd bits (dvar vars L n) = 1
   ·rw [if_pos cb, decide_eq_true cb, v2 bits, fu2 bits true]
   ·rw [if_neg cb, decide_eq_false cb, dvP_ext d1 e2 bits pl1, v1 bits, fu bits false]
  have room : 0 ≤ (dadd F2 (dvar vars L n) r1 r2).2 := by
   refine Decidable.byContradiction (fun hneg => ?_)
   have hlen : 2000 ≤ F2.length := by
    unfold dadd at hneg
    rw [if_neg (by omega)] at hneg
    by_cases ce : r1 = r2
    ·rw [if_pos ce] at hneg
     exact absurd l0 hneg
    ·rw [if_neg ce] at hneg
     cases hf : dfind F2 ⟨dvar vars L n, r1, r2⟩ with
     | some i =>
      rw [hf] at hneg
      exact absurd (show (0 : Int) ≤ (i : Int) + 2 by omega) hneg
     | none =>
      rw [hf] at hneg
      simp only at hneg
      by_cases c4 : 2000 ≤ F2.length
      ·exact c4
      ·rw [if_neg c4] at hneg
       exact absurd (show (0 : Int) ≤ (F2.length : Int) + 2 by omega) hneg
   obtain ⟨pz, hz1, hz2⟩ := img_full h d2 hi2 hlen p
   have hok2 : TOk vars F2 (dvar vars L n) (.fork (dvar vars L n) (.leaf r1) (.leaf r2)) := ⟨Int.le_refl _, hv0, hv, ⟨p1, by omega⟩, ⟨pl2, by omega⟩⟩
   have ht := ins_there d2 pz hok2 hz1 (fun bits hb => by
    rw [hz2 bits hb, ← vals bits]
    rfl)
   rw [ins_fork] at ht
   have e3 : ¬ (ins F2 (.leaf r1)).2 < 0 := by show ¬ r1 < 0; omega
   rw [if_neg e3] at ht
   have e4 : dadd F2 (dvar vars L n) r1 r2 = (F2, pz) := ht
   rw [e4] at hneg
   exact hneg hz1.1
  refine ⟨room, fun z hz => ?_⟩
  obtain ⟨d3, pl3⟩ := dv_dadd d2 p1 pl2 hv0 hv hvl hvh
  have e3 := dadd_ext F2 (dvar vars L n) r1 r2
  by_cases cz : Pl F2 z
  ·obtain ⟨q, pq, hq⟩ := hi2 z cz
   exact ⟨q, pq, fun bits hb => by rw [dvP_ext d2 e3 bits cz, hq bits hb]⟩
  ·-- the new place
   have hz3 : z = (dadd F2 (dvar vars L n) r1 r2).2 := by
    have a0 := hz.1
    have a1 := hz.2
    have a2 : ¬ z ≤ (F2.length : Int) + 1 := fun hle => cz ⟨a0, hle⟩
    have hd2 := (pl3 room).1.2
    unfold dadd at a1 hd2 room ⊢
    rw [if_neg (by omega)] at a1 hd2 room ⊢
    by_cases ce : r1 = r2
    ·rw [if_pos ce] at a1
     exact absurd a1 a2
    ·rw [if_neg ce] at a1 hd2 room ⊢
     cases hf : dfind F2 ⟨dvar vars L n, r1, r2⟩ with
     | some i =>
      rw [hf] at a1
      exact absurd a1 a2
     | none =>
      rw [hf] at a1
      simp only at a1 ⊢
      by_cases c4 : 2000 ≤ F2.length
      ·rw [if_pos c4] at a1
       exact absurd a1 a2
      ·rw [if_neg c4] at a1 ⊢
       simp only [List.length_append, List.length_singleton] at a1
       show z = (F2.length : Int) + 2
       omega
   refine ⟨n, p, fun bits _ => ?_⟩
   rw [hz3, dadd_val d2 p1 pl2 hv0 hv hvl hvh room bits, vals bits]
theorem img_nil (vars : Int) (L : List S56) : Img vars L [] := fun p hp => ⟨p, ⟨hp.1, by have := hp.2; simp at this; omega⟩, fun bits _ => by have := hp.2; simp at this; rw [dvP_const (by omega), dvP_const (by omega)]⟩
structure InvC (vars : Int) (L : List S56) (s : FS) (mm : Int → Option Int) : Prop where
 vs : s.vars = vars
 full : s.full = false
 dv : DV vars s.forks
 seen : s.seen = seenP s.forks
 img : Img vars L s.forks
 low : ∀ q, 0 ≤ q → q < 2 → mm q = some q
 memo : ∀ q r, mm q = some r → Pl L q ∧ 0 ≤ r ∧ ins s.forks (cpP vars L q) = (s.forks, r)
theorem comp_cl {vars : Int} {L : List S56} (h : DV vars L) : ∀ (m : Nat) (n : Int) (s : FS) (mm : Int → Option Int), InvC vars L s mm → Pl L n → vars - dvar vars L n < m →
  ∃ s' mm' r, Ev (fun k => impl_compacted.cl k L s n mm) (s', mm', r) ∧ InvC vars L s' mm' ∧ s.forks <+: s'.forks ∧ s'.forks = (ins s.forks (cpP vars L n)).1 ∧ r = (ins s.forks (cpP vars L n)).2 := by
 intro m
 induction m with
 | zero =>
  intro n s mm _ p h1
  have := (h.dvar_le p).2
  omega
 | succ m ih =>
  intro n s mm hI p h1
  have p0 := p.1
  have pn := p.2
  have hl := h.len
  have v12 := h.v12
  have hk : KeyI n := keyI p0 (by omega)
  cases hq : mm n with
  | some r =>
   obtain ⟨_, _, h4⟩ := hI.memo n r hq
   refine ⟨s, mm, r, Ev.step (Ev.pos hk ?_) (fun k => impl_compacted.cl.eq_2 ..), hI, List.prefix_refl _, by rw [h4], by rw [h4]⟩
   rw [hq]
   exact Ev.val _
  | none =>
   have c : ¬ n < 2 := fun c => by rw [hI.low n p0 c] at hq; cases hq
   have hv := (dvar_two h p).2 c
   have hv0 := (h.dvar_le p).1
   have f := fun hi => gat_ok h p (Int.le_refl _) hv hi
   have g0 : (rd_T56 L (n - 2)).f0 = dvar vars L n := (dvar_self c).symm
   have g1 : (rd_T56 L (n - 2)).f1 = gat L n (dvar vars L n) false := by rw [gat_self c]; rfl
   have g2 : (rd_T56 L (n - 2)).f2 = gat L n (dvar vars L n) true := by rw [gat_self c]; rfl
   obtain ⟨s1, m1, r1, e1, i1, x1, f1, k1⟩ := ih _ s mm hI (f false).1 (by have := (f false).2; omega)
   obtain ⟨s2, m2, r2, e2, i2, x2, f2, k2⟩ := ih _ s1 m1 i1 (f true).1 (by have := (f true).2; omega)
   have rm := ins_cp h 13 n s.forks hI.dv hI.img p (by omega)
   have rm1 := ins_cp h 13 _ s.forks hI.dv hI.img (f false).1 (by have := (h.dvar_le (f false).1).1; omega)
   have rm2 := ins_cp h 13 _ s1.forks i1.dv i1.img (f true).1 (by have := (h.dvar_le (f true).1).1; omega)
   have ok1 := cpP_ok h hI.dv 13 _ (f false).1 (by have := (h.dvar_le (f false).1).1; omega)
   have ok2 := cpP_ok h i1.dv 13 _ (f true).1 (by have := (h.dvar_le (f true).1).1; omega)
   have okn := cpP_ok h hI.dv 13 n p (by omega)
   have pl1 := ((dv_ins hI.dv ok1).2 rm1.1).1
   have pl2 := ((dv_ins i1.dv ok2).2 rm2.1).1
   rw [← f1, ← k1] at pl1
   rw [← f2, ← k2] at pl2
   have hins : ins s.forks (cpP vars L n) = dadd s2.forks (dvar vars L n) r1 r2 := by
    rw [cpP_fork h p c, ins_fork, if_neg (by omega), ← f1, ← k1, ← f2, ← k2]
   have hl1 := i1.dv.len
   have hl2 := i2.dv.len
   obtain ⟨s3, r3, ef, q1, q2, q3, q4, q5⟩ := fork_val s2 (dvar vars L n) r1 r2 (show KeyI (dvar vars L n) ∧ KeyI r1 ∧ KeyI r2 from ⟨keyI hv0 (by omega), keyI pl1.1 (by have := pl1.2; omega), keyI pl2.1 (by have := pl2.2; omega)⟩) pl1.1 pl2.1 i2.seen
   rw [hins] at rm
   rw [if_neg (by omega)] at q5
   have x3 : s2.forks <+: s3.forks := by rw [q4]; exact dadd_ext _ _ _ _
   have xx := (x1.trans x2).trans x3
   have hd3 : DV vars s3.forks := by
    rw [q4, ← hins]
    exact (dv_ins hI.dv okn).1
   have stay : ∀ q r, m2 q = some r → Pl L q ∧ 0 ≤ r ∧ ins s3.forks (cpP vars L q) = (s3.forks, r) := fun q r hm => by
    obtain ⟨j1, j3, j4⟩ := i2.memo q r hm
    have := ins_stays (L := s2.forks) (t := cpP vars L q) (by rw [j4]; exact j3) (L2 := s3.forks) (by rw [j4]; exact x3)
    exact ⟨j1, j3, by rw [this, j4]⟩
   refine ⟨s3, fun y => if y = n then some r3 else m2 y, r3, Ev.step (Ev.pos hk ?_) (fun k => impl_compacted.cl.eq_2 ..), ⟨by rw [q1]; exact i2.vs, q5.1.trans i2.full, hd3, q3, by rw [q4]; exact rm.2, fun q a b => ?_, fun q r hm => ?_⟩, xx, by rw [q4, hins], by rw [hins]; exact q5.2⟩
   ·rw [hq, w_id (by omega) (by omega), g0, g1, g2]
    exact Ev.pos (by omega) (Ev.pos (by omega) (Ev.bind e1 (Ev.bind e2 (Ev.bind (Ev.const ef) (Ev.val _)))))
   ·show (if q = n then some r3 else m2 q) = some q
    rw [if_neg (by omega)]
    exact i2.low q a b
   ·by_cases e : q = n
    ·subst e
     have hr : r3 = r := by simpa using hm
     subst hr
     have := ins_stays (L := s.forks) (t := cpP vars L q) (by rw [hins]; exact rm.1) (L2 := s3.forks) (by rw [hins, ← q4]; exact List.prefix_refl _)
     exact ⟨p, by rw [q5.2]; exact rm.1, by rw [this, hins, q5.2]⟩
    ·have : m2 q = some r := by simpa [e] using hm
     exact stay q r this
def CompIs (vars : Int) (L : List S56) (n : Int) (r : Int × List S56 × Int) : Prop :=
 (DV vars L ∧ Pl L n → r = (vars, (ins [] (cpP vars L n)).1, (ins [] (cpP vars L n)).2)) ∧ (¬ (DV vars L ∧ Pl L n) → r = (0, [], -1))
theorem comp_v {vars n : Int} {L : List S56} {r : Int × List S56 × Int} (h : CompIs vars L n r) : Ev (fun k => impl_Compacted.f k vars L n) r := by
 obtain ⟨hy, hn⟩ := h
 unfold impl_Compacted.f
 obtain ⟨q, hb, h1⟩ := impl_dv vars L
 refine Ev.bind (Ev.const hb) ?_
 cases q with
 | false =>
  rw [hn (fun h => by have := h1.2 h.1; cases this)]
  exact Ev.neg (by decide) (Ev.val _)
 | true =>
  have hd := h1.1 rfl
  have hl := hd.len
  refine Ev.pos rfl (Ev.bind (Ev.const (isPlace_val vars n (by omega))) ?_)
  by_cases pa : Pl L n
  ·rw [@decide_eq_true _ (decPl L n) pa, hy ⟨hd, pa⟩]
   have dn := dv_nil hd.v0 hd.v12
   have i0 : InvC vars L (fs0 vars []) impl_compacted.m0 := ⟨rfl, rfl, dn, rfl, img_nil _ _, fun q a b => by
    have : q = 0 ∨ q = 1 := by omega
    rcases this with rfl | rfl <;> rfl, fun q r hm => by
    unfold impl_compacted.m0 at hm
    by_cases c1 : q = 1
    ·rw [if_pos c1] at hm
     injection hm with hm
     subst c1 hm
     exact ⟨⟨by decide, by omega⟩, by decide, by rw [cpP_const (by decide)]; rfl⟩
    ·rw [if_neg c1] at hm
     by_cases c0 : q = 0
     ·rw [if_pos c0] at hm
      injection hm with hm
      subst c0 hm
      exact ⟨⟨by decide, by omega⟩, by decide, by rw [cpP_const (by decide)]; rfl⟩
     ·rw [if_neg c0] at hm
      cases hm⟩
   obtain ⟨s', mm', m', ev, i1, _, f1, k1⟩ := comp_cl hd 13 n (fs0 vars []) impl_compacted.m0 i0 pa (by have := (hd.dvar_le pa).1; have := hd.v12; omega)
   refine Ev.pos rfl (Ev.bind (a := (vars, (ins [] (cpP vars L n)).1, (ins [] (cpP vars L n)).2)) ?_ (Ev.val _))
   unfold impl_compacted.f
   refine Ev.bind (Ev.const (forkingOf_val dn)) (Ev.bind ev (Ev.const ?_))
   show impl_forking_done.f s' m' = _
   rw [done_val s' m' i1.dv.len, if_neg (by rw [i1.full]; decide), i1.vs, f1, k1]
   rfl
  ·rw [@decide_eq_false _ (decPl L n) pa, hn (fun h => pa h.2)]
   exact Ev.neg (by decide) (Ev.val _)
/-! #### orders: a valid order, and a diagram read in another order -/
theorem nodup_le : ∀ (a b : List Int), a.Nodup → (∀ x ∈ a, x ∈ b) → a.length ≤ b.length
 | [], _, _, _ => Nat.zero_le _
 | x :: a, b, h, hs => by
  have hx : x ∈ b := hs x (by simp)
  have hn := List.nodup_cons.mp h
  have := nodup_le a (b.erase x) hn.2 (fun y hy => (List.mem_erase_of_ne (fun (e : y = x) => hn.1 (e ▸ hy))).mpr (hs y (by simp [hy])))
  rw [List.length_erase_of_mem hx] at this
  have := List.length_pos_of_mem hx
  simp only [List.length_cons]
  omega
def upto (n : Nat) : List Int := (List.range n).map (fun j => ((j : Nat) : Int))
theorem upto_len (n : Nat) : (upto n).length = n := by simp [upto]
theorem upto_mem {n : Nat} {x : Int} : x ∈ upto n ↔ 0 ≤ x ∧ x < (n : Int) := by
 unfold upto
 rw [List.mem_map]
 constructor
 ·rintro ⟨j, hj, rfl⟩
  have := List.mem_range.mp hj
  omega
 ·intro h
  exact ⟨x.toNat, List.mem_range.mpr (by omega), by omega⟩
theorem upto_nodup (n : Nat) : (upto n).Nodup := by
 unfold upto
 refine List.Pairwise.map _ (fun a b (h : a ≠ b) => by omega) List.nodup_range
/-- An order of n: a list of n places that names each of them. -/
def Ord (o : List Int) (n : Int) : Prop := (0 ≤ n ∧ n ≤ 12) ∧ (o.length : Int) = n ∧ ∀ j : Int, 0 ≤ j → j < n → j ∈ o
/-- What the program asks of each member. -/
def OrdAt (o : List Int) (n : Int) (i : Nat) : Prop := (0 ≤ rd o (i : Int) ∧ rd o (i : Int) ≤ n - 1) ∧ rd o (i : Int) ∉ o.take i
theorem ord_at {o : List Int} {n : Int} (h : Ord o n) {i : Nat} (hi : i < o.length) : OrdAt o n i := by
 obtain ⟨⟨n0, n12⟩, hl, hj⟩ := h
 have big : ∀ (x : List Int), (∀ j : Int, 0 ≤ j → j < n → j ∈ x) → o.length ≤ x.length := fun x hx => by
  have := nodup_le (upto o.length) x (upto_nodup _) (fun y hy => by have := upto_mem.mp hy; exact hx y this.1 (by omega))
  rwa [upto_len] at this
 have split : o = o.take i ++ rd o (i : Int) :: o.drop (i + 1) := by
  rw [rd_lt hi, List.getElem_cons_drop, List.take_append_drop]
 have less : (o.take i ++ o.drop (i + 1)).length < o.length := by
  simp only [List.length_append, List.length_take, List.length_drop]
  omega
 have mem : ∀ j, j ∈ o → j ≠ rd o (i : Int) → j ∈ o.take i ++ o.drop (i + 1) := fun j h1 h2 => by
  rw [split] at h1
  rcases List.mem_append.mp h1 with h | h
  ·exact List.mem_append.mpr (Or.inl h)
  ·rcases List.mem_cons.mp h with h | h
   ·exact absurd h h2
   ·exact List.mem_append.mpr (Or.inr h)
 constructor
 ·refine Classical.byContradiction (fun hb => ?_)
  have := big (o.take i ++ o.drop (i + 1)) (fun j j0 j1 => mem j (hj j j0 j1) (fun e => hb ⟨by omega, by omega⟩))
  omega
 ·intro hm
  have := big (o.take i ++ o.drop (i + 1)) (fun j j0 j1 => by
   by_cases e : j = rd o (i : Int)
   ·exact List.mem_append.mpr (Or.inl (e ▸ hm))
   ·exact mem j (hj j j0 j1) e)
  omega
theorem ord_of {o : List Int} {n : Int} (hn : 0 ≤ n ∧ n ≤ 12) (hl : (o.length : Int) = n) (h : ∀ i : Nat, i < o.length → OrdAt o n i) : Ord o n := by
 refine ⟨hn, hl, fun j j0 j1 => Classical.byContradiction (fun hj => ?_)⟩
 have nd : o.Nodup := by
  refine List.pairwise_iff_getElem.mpr (fun a b ha hb hab e => ?_)
  have := (h b hb).2
  rw [rd_lt hb] at this
  refine this ?_
  rw [← e]
  exact List.mem_take_iff_getElem.mpr ⟨a, by omega, rfl⟩
 have := nodup_le o ((upto o.length).erase j) nd (fun x hx => by
  obtain ⟨i, hi, hxi⟩ := List.mem_iff_getElem.mp hx
  have ha := (h i hi).1
  rw [rd_lt hi, hxi] at ha
  exact (List.mem_erase_of_ne (fun (e : x = j) => hj (e ▸ hx))).mpr (upto_mem.mpr ⟨ha.1, by omega⟩))
 rw [List.length_erase_of_mem (upto_mem.mpr ⟨j0, by omega⟩), upto_len] at this
 omega
theorem index_loop (l : List Int) (hl : l.length ≤ 1048576) (x : Int) : ∀ (d i : Nat), i + d = l.length → ∃ r, Ev (fun k => slices_Index_int_int.l0 k l x (l.length : Int) (i : Int)) r ∧ (0 ≤ r ↔ ∃ j : Nat, i ≤ j ∧ j < l.length ∧ rd l (j : Int) = x) := by
 intro d
 induction d with
 | zero =>
  intro i hi
  exact ⟨-1, Ev.step (Ev.neg (by omega) (Ev.val _)) (fun k => slices_Index_int_int.l0.eq_2 ..), ⟨fun h => by omega, fun ⟨j, h1, h2, _⟩ => by omega⟩⟩
 | succ d ih =>
  intro i hi
  by_cases h : x = rd l (i : Int)
  ·exact ⟨(i : Int), Ev.step (Ev.pos (by omega) (Ev.pos (by omega) (Ev.pos (by omega) (Ev.pos h (Ev.val _))))) (fun k => slices_Index_int_int.l0.eq_2 ..), ⟨fun _ => ⟨i, Nat.le_refl _, by omega, h.symm⟩, fun _ => by omega⟩⟩
  ·obtain ⟨r, h1, h2⟩ := ih (i + 1) (by omega)
   refine ⟨r, Ev.step (Ev.pos (by omega) (Ev.pos (by omega) (Ev.pos (by omega) (Ev.neg h ?_)))) (fun k => slices_Index_int_int.l0.eq_2 ..), h2.trans ⟨?_, ?_⟩⟩
   ·rw [wsucc i (by omega)]
    exact h1
   ·rintro ⟨j, h1, h2, h3⟩
    exact ⟨j, by omega, h2, h3⟩
   ·rintro ⟨j, h1, h2, h3⟩
    rcases Nat.lt_or_eq_of_le h1 with h4 | rfl
    ·exact ⟨j, h4, h2, h3⟩
    ·exact absurd h3.symm h
theorem contains_val (l : List Int) (hl : l.length ≤ 1048576) (x : Int) : Ev (fun k => slices_Contains_int_int.f k l x) (decide (x ∈ l)) := by
 obtain ⟨r, h1, h2⟩ := index_loop l hl x l.length 0 (by omega)
 unfold slices_Contains_int_int.f slices_Index_int_int.f
 refine Ev.bind h1 (Ev.valEq ?_)
 rw [decide_eq_decide, ge_iff_le, h2, List.mem_iff_getElem]
 constructor
 ·rintro ⟨j, _, h3, h4⟩
  exact ⟨j, h3, by rw [← rd_lt h3]; exact h4⟩
 ·rintro ⟨j, h3, h4⟩
  exact ⟨j, Nat.zero_le _, h3, by rw [rd_lt h3]; exact h4⟩
theorem impl_ord_loop (o : List Int) (n : Int) (hn : 0 ≤ n ∧ n ≤ 12) (hl : o.length ≤ 12) : ∀ (d i : Nat), i + d = o.length → ∃ b, Ev (fun k => impl_OrderValid.l0 k o n o (o.length : Int) (i : Int)) b ∧ (b = true ↔ ∀ q : Nat, i ≤ q → q < o.length → OrdAt o n q) := by
 intro d
 induction d with
 | zero =>
  intro i hi
  exact ⟨true, Ev.step (Ev.neg (by omega) (Ev.val _)) (fun k => impl_OrderValid.l0.eq_2 ..), ⟨fun _ q h1 h2 => by omega, fun _ => rfl⟩⟩
 | succ d ih =>
  intro i hi
  by_cases c : OrdAt o n i
  ·obtain ⟨b, h1, h2⟩ := ih (i + 1) (by omega)
   refine ⟨b, Ev.step (Ev.pos (by omega) (Ev.pos (by omega) (Ev.pos (by omega) (Ev.bind (Ev.const (in_val _ _ _)) ?_)))) (fun k => impl_OrderValid.l0.eq_2 ..), h2.trans ⟨?_, fun h q h3 h4 => h q (by omega) h4⟩⟩
   ·rw [w_id (by omega) (by omega)]
    refine Ev.pos (decide_eq_true c.1) (Ev.pos (by omega) ?_)
    rw [Int.toNat_natCast]
    refine Ev.bind (contains_val (o.take i) (by rw [List.length_take]; omega) _) (Ev.neg (by simp only [decide_eq_true_eq]; exact c.2) ?_)
    rw [wsucc i (by omega)]
    exact h1
   ·intro h q h3 h4
    rcases Nat.lt_or_eq_of_le h3 with h5 | rfl
    ·exact h q h5 h4
    ·exact c
  ·refine ⟨false, Ev.step (Ev.pos (by omega) (Ev.pos (by omega) (Ev.pos (by omega) (Ev.bind (Ev.const (in_val _ _ _)) ?_)))) (fun k => impl_OrderValid.l0.eq_2 ..), ⟨fun h => by (cases h), fun h => absurd (h i (Nat.le_refl _) (by omega)) c⟩⟩
   rw [w_id (by omega) (by omega)]
   by_cases c1 : 0 ≤ rd o (i : Int) ∧ rd o (i : Int) ≤ n - 1
   ·refine Ev.pos (decide_eq_true c1) (Ev.pos (by omega) ?_)
    rw [Int.toNat_natCast]
    exact Ev.bind (contains_val (o.take i) (by rw [List.length_take]; omega) _) (Ev.pos (decide_eq_true (Classical.byContradiction (fun h => c ⟨c1, h⟩))) (Ev.val _))
   ·exact Ev.neg (by rw [decide_eq_false c1]; decide) (Ev.val _)
theorem impl_ord (o : List Int) (n : Int) (hlen : o.length ≤ 1048576) : ∃ b, Ev (fun k => impl_OrderValid.f k o n) b ∧ (b = true ↔ Ord o n) := by
 have bad : ∀ q : Bool, q = true → Ev (fun k => impl_OrderValid.j0 k o n q) false := fun q hq => Ev.step (Ev.pos hq (Ev.val _)) (fun k => impl_OrderValid.j0.eq_2 ..)
 unfold impl_OrderValid.f
 by_cases c : 0 ≤ n ∧ n ≤ 12
 ·by_cases c2 : (o.length : Int) = n
  ·obtain ⟨b, h1, h2⟩ := impl_ord_loop o n c (by omega) o.length 0 (by omega)
   refine ⟨b, Ev.bind (Ev.const (in_val _ _ _)) (Ev.pos (decide_eq_true c) (Ev.step (Ev.neg (by simp [c2]) h1) (fun k => impl_OrderValid.j0.eq_2 ..))), h2.trans ⟨fun h => ord_of c c2 (fun i hi => h i (Nat.zero_le _) hi), fun h q _ hq => ord_at h hq⟩⟩
  ·exact ⟨false, Ev.bind (Ev.const (in_val _ _ _)) (Ev.pos (decide_eq_true c) (bad _ (by simp [c2]))), ⟨fun h => by (cases h), fun h => absurd h.2.1 c2⟩⟩
 ·exact ⟨false, Ev.bind (Ev.const (in_val _ _ _)) (Ev.neg (by rw [decide_eq_false c]; decide) (bad _ rfl)), ⟨fun h => by (cases h), fun h => absurd h.1 c⟩⟩
theorem spec_ord_loop (o : List Int) (n : Nat) (hn : n ≤ 12) (hl : o.length ≤ 1048576) : ∀ (d i : Nat), i + d = n → ∃ b, Ev (fun k => spec_OrderValid.l0 k o (n : Int) (i : Int)) b ∧ (b = true ↔ ∀ j : Int, (i : Int) ≤ j → j < (n : Int) → j ∈ o) := by
 intro d
 induction d with
 | zero =>
  intro i hi
  exact ⟨true, Ev.step (Ev.neg (by omega) (Ev.val _)) (fun k => spec_OrderValid.l0.eq_2 ..), ⟨fun _ j h1 h2 => by omega, fun _ => rfl⟩⟩
 | succ d ih =>
  intro i hi
  obtain ⟨t, ht1, ht2⟩ := has_dec o hl (i : Int)
  have hm : (∃ j : Nat, j < o.length ∧ rd o (j : Int) = (i : Int)) ↔ (i : Int) ∈ o := by
   rw [List.mem_iff_getElem]
   exact ⟨fun ⟨j, h3, h4⟩ => ⟨j, h3, by rw [← rd_lt h3]; exact h4⟩, fun ⟨j, h3, h4⟩ => ⟨j, h3, by rw [rd_lt h3]; exact h4⟩⟩
  cases t with
  | true =>
   obtain ⟨b, h1, h2⟩ := ih (i + 1) (by omega)
   refine ⟨b, Ev.step (Ev.pos (by omega) (Ev.bind ht1 (Ev.pos rfl ?_))) (fun k => spec_OrderValid.l0.eq_2 ..), h2.trans ⟨?_, fun h j h3 h4 => h j (by omega) h4⟩⟩
   ·rw [wsucc i (by omega)]
    exact h1
   ·intro h j h3 h4
    by_cases e : j = (i : Int)
    ·rw [e]
     exact hm.mp (ht2.mp rfl)
    ·exact h j (by omega) h4
  | false =>
   exact ⟨false, Ev.step (Ev.pos (by omega) (Ev.bind ht1 (Ev.neg (by decide) (Ev.val _)))) (fun k => spec_OrderValid.l0.eq_2 ..), ⟨fun h => by (cases h), fun h => by have := ht2.mpr (hm.mpr (h i (Int.le_refl _) (by omega))); (cases this)⟩⟩
theorem spec_ord (o : List Int) (n : Int) (hlen : o.length ≤ 1048576) : ∃ b, Ev (fun k => spec_OrderValid.f k o n) b ∧ (b = true ↔ Ord o n) := by
 have bad : ∀ q : Bool, q = true → Ev (fun k => spec_OrderValid.j0 k o n q) false := fun q hq => Ev.step (Ev.pos hq (Ev.val _)) (fun k => spec_OrderValid.j0.eq_2 ..)
 unfold spec_OrderValid.f
 by_cases c : 0 ≤ n ∧ n ≤ 12
 ·by_cases c2 : (o.length : Int) = n
  ·obtain ⟨m, rfl⟩ := Int.eq_ofNat_of_zero_le c.1
   obtain ⟨b, h1, h2⟩ := spec_ord_loop o m (by omega) hlen m 0 (by omega)
   refine ⟨b, Ev.bind (Ev.const (l1In_val _ _ _)) (Ev.pos (decide_eq_true c) (Ev.step (Ev.neg (by simp [c2]) h1) (fun k => spec_OrderValid.j0.eq_2 ..))), h2.trans ⟨fun h => ⟨c, c2, fun j j0 j1 => h j j0 j1⟩, fun h j j0 j1 => h.2.2 j (by omega) j1⟩⟩
  ·exact ⟨false, Ev.bind (Ev.const (l1In_val _ _ _)) (Ev.pos (decide_eq_true c) (bad _ (by simp [c2]))), ⟨fun h => by (cases h), fun h => absurd h.2.1 c2⟩⟩
 ·exact ⟨false, Ev.bind (Ev.const (l1In_val _ _ _)) (Ev.neg (by rw [decide_eq_false c]; decide) (bad _ rfl)), ⟨fun h => by (cases h), fun h => absurd h.1 c⟩⟩
/-- The row of bits moved to the places that the order names. -/
def mvF (o b : List Int) : Nat → Nat → List Int → List Int
 | 0, _, x => x
 | d + 1, i, x => mvF o b d (i + 1) (x.set (rd o (i : Int)).toNat (rd b (i : Int)))
def mvd (o b : List Int) : List Int := mvF o b o.length 0 (List.replicate o.length 0)
theorem mvF_len (o b : List Int) : ∀ (d i : Nat) (x : List Int), (mvF o b d i x).length = x.length
 | 0, _, _ => rfl
 | d + 1, i, x => by
  unfold mvF
  rw [mvF_len o b d (i + 1), List.length_set]
theorem mvd_len (o b : List Int) : (mvd o b).length = o.length := by
 unfold mvd
 rw [mvF_len, List.length_replicate]
theorem ord_rd {o : List Int} {n : Int} (h : Ord o n) {i : Nat} (hi : i < o.length) : 0 ≤ rd o (i : Int) ∧ rd o (i : Int) < n := by
 have := (ord_at h hi).1
 omega
theorem impl_mv {o b : List Int} {n : Int} (h : Ord o n) (hb : (b.length : Int) = n) : ∀ (d i : Nat) (x : List Int), i + d = o.length → (x.length : Int) = n → Ev (fun k => impl_reordered.l0 k x o b (i : Int)) (mvF o b d i x) := by
 have h12 := h.1.2
 have hol := h.2.1
 intro d
 induction d with
 | zero =>
  intro i x hi hx
  exact Ev.step (Ev.neg (by omega) (Ev.val _)) (fun k => impl_reordered.l0.eq_2 ..)
 | succ d ih =>
  intro i x hi hx
  obtain ⟨r0, r1⟩ := ord_rd h (show i < o.length by omega)
  refine Ev.step (Ev.pos (by omega) (Ev.pos (by omega) (Ev.pos (by omega) (Ev.pos r0 (Ev.pos (by omega) ?_))))) (fun k => impl_reordered.l0.eq_2 ..)
  rw [wsucc i (by omega)]
  exact ih (i + 1) _ (by omega) (by rw [List.length_set]; exact hx)
theorem spec_l8value_l0 {vars : Int} {L : List S56} (h : DV vars L) (bits : List Int) (hb : (bits.length : Int) = vars) : ∀ (m : Nat) (n : Int), Pl L n → vars - dvar vars L n < m → Ev (fun k => spec_l8Value.l0 k n bits vars L) (dval vars L bits m n) := by
 intro m
 induction m with
 | zero =>
  intro n p h1
  have := (h.dvar_le p).2
  omega
 | succ m ih =>
  intro n p h1
  have p0 := p.1
  have p1 := p.2
  have hl := h.len
  unfold dval
  by_cases c : n < 2
  ·rw [if_pos c]
   exact Ev.step (Ev.neg (by omega) (Ev.val _)) (fun k => spec_l8Value.l0.eq_2 ..)
  ·rw [if_neg c]
   have hv := (dvar_two h p).2 c
   have hv0 := (h.dvar_le p).1
   have g0 : (rd_T56 L (n - 2)).f0 = dvar vars L n := (dvar_self c).symm
   have g1 : (rd_T56 L (n - 2)).f1 = gat L n (dvar vars L n) false := by rw [gat_self c]; rfl
   have g2 : (rd_T56 L (n - 2)).f2 = gat L n (dvar vars L n) true := by rw [gat_self c]; rfl
   refine Ev.step ?_ (fun k => spec_l8Value.l0.eq_2 ..)
   rw [w_id (by omega) (by omega), g0, g1, g2]
   refine Ev.pos (by omega) (Ev.pos (by omega) (Ev.pos (by omega) (Ev.pos hv0 (Ev.pos (by omega) ?_))))
   have f := fun hi => gat_ok h p (Int.le_refl _) hv hi
   by_cases cb : rd bits (dvar vars L n) = 1
   ·rw [decide_eq_true cb]
    exact Ev.pos cb (ih _ (f true).1 (by have := (f true).2; omega))
   ·rw [decide_eq_false cb]
    exact Ev.neg cb (ih _ (f false).1 (by have := (f false).2; omega))
/-! #### a diagram read in another order: the reference and the program -/
/-- The value of place n under the moved bits. -/
def moV (vars : Int) (L : List S56) (n : Int) (o bits : List Int) : Int := dvP vars L (mvd o bits) n
theorem moV_01 {vars n : Int} {L : List S56} {o : List Int} (h : DV vars L) (p : Pl L n) (bits : List Int) : moV vars L n o bits = 0 ∨ moV vars L n o bits = 1 := dvP_01 h _ p
theorem moved_is {vars n : Int} {L : List S56} {o : List Int} (h : DV vars L) (p : Pl L n) (ho : Ord o vars) {bits : List Int} (hl : (bits.length : Int) = vars) : Ev (fun k => impl_reordered.is k vars L n o bits) (moV vars L n o bits == 1) := by
 have h12 := ho.1
 have hol := ho.2.1
 unfold impl_reordered.is
 refine Ev.pos h12.1 (Ev.pos (by omega) ?_)
 have e : vars.toNat = o.length := by omega
 rw [e]
 refine Ev.bind (impl_mv ho hl o.length 0 (List.replicate o.length 0) (by omega) (by rw [List.length_replicate]; exact hol)) (Ev.bind (a := moV vars L n o bits) ?_ (Ev.val _))
 unfold impl_Diagram_value.f
 have hq : ((mvd o bits).length : Int) = vars := by rw [mvd_len]; exact hol
 have a0 := (h.dvar_le p).1
 exact value_l0 h (mvd o bits) hq 13 n p (by have := h.v12; omega)
def ReAsk (vars : Int) (L : List S56) (n : Int) (o : List Int) : Prop := DV vars L ∧ Pl L n ∧ Ord o vars
/-- The diagram of the values in the other order. -/
def reT (vars : Int) (L : List S56) (n : Int) (o : List Int) : DT := madeT (moV vars L n o) vars.toNat []
def ReIs (vars : Int) (L : List S56) (n : Int) (o : List Int) (r : Int × List S56 × Int) : Prop :=
 (ReAsk vars L n o → r = told vars (ins [] (reT vars L n o))) ∧ (¬ ReAsk vars L n o → r = (0, [], -1))
theorem told_len {vars n : Int} {L : List S56} {o : List Int} (h : DV vars L) (p : Pl L n) : (told vars (ins [] (reT vars L n o))).2.1.length ≤ 2000 := by
 have d0 := (h.dvar_le p).1
 have h0 := h.v0
 have this := (dv_ins (dv_nil h0 h.v12) (madeT_ok (dv_nil h0 h.v12) (moV vars L n o) (fun b hb hl => moV_01 h p b) vars.toNat [] (fun x hx => by simp at hx) (by simp; omega))).1.len
 unfold told
 split
 ·exact Nat.zero_le _
 ·exact this
theorem reIs_ex (vars : Int) (L : List S56) (n : Int) (o : List Int) : ∃ r, ReIs vars L n o r ∧ r.2.1.length ≤ 2000 := by
 by_cases c : ReAsk vars L n o
 ·exact ⟨_, ⟨fun _ => rfl, fun h => absurd c h⟩, told_len c.1 c.2.1⟩
 ·exact ⟨(0, [], -1), ⟨fun h => absurd h c, fun _ => rfl⟩, Nat.zero_le _⟩
theorem reord_v {vars n : Int} {L : List S56} {o : List Int} (h : DV vars L) (p : Pl L n) (ho : Ord o vars) : Ev (fun k => impl_reordered.f k vars L n o) (told vars (ins [] (reT vars L n o))) := by
 unfold impl_reordered.f
 have h0 := h.v0
 have h12 := h.v12
 obtain ⟨m, rfl⟩ := Int.eq_ofNat_of_zero_le h0
 have dn := dv_nil h0 h12
 have w0 : WInv (m : Int) (fs0 (m : Int) []) := ⟨rfl, rfl, Nat.zero_le _⟩
 obtain ⟨s', q, ⟨K, hK⟩, w1, _, _, _, g⟩ := made_val h12 (fun k => impl_reordered.is k (m : Int) L n o) (moV (m : Int) L n o) (fun b hb hl => ⟨moV_01 h p b, moved_is h p ho hl⟩) m (fs0 (m : Int) []) [] w0 (by simp) (fun x hx => by simp at hx)
 obtain ⟨gn, gy⟩ := g rfl dn
 have gn' : (ins [] (reT (m : Int) L n o)).2 < 0 → s'.full = true := gn
 have gy' : 0 ≤ (ins [] (reT (m : Int) L n o)).2 → s'.full = false ∧ s'.forks = (ins [] (reT (m : Int) L n o)).1 ∧ q = (ins [] (reT (m : Int) L n o)).2 := gy
 have ev : Ev (fun k => impl_forking_made.f k (impl_reordered.is k (m : Int) L n o) (fs0 (m : Int) []) []) (s', q) := ⟨K, fun k hk => hK k k hk hk⟩
 refine Ev.bind (Ev.const (forkingOf_val dn)) (Ev.bind ev (Ev.const ?_))
 show impl_forking_done.f s' q = told (m : Int) (ins [] (reT (m : Int) L n o))
 rw [done_val s' q w1.len]
 unfold told
 by_cases cn : (ins [] (reT (m : Int) L n o)).2 < 0
 ·rw [if_pos cn, if_pos (gn' cn)]
 ·obtain ⟨z1, z2, z3⟩ := gy' (by omega)
  rw [if_neg cn, if_neg (by rw [z1]; decide), w1.vs, z2, z3]
theorem spec_mv {o b : List Int} {m : Nat} {L : List S56} {n : Int} (h : DV (m : Int) L) (p : Pl L n) (ho : Ord o (m : Int)) (hb : b.length = m) (out : List Int) (hout : out.length < 1000000) (i : Int) (r : Int × List S56 × Int)
  (hr : ∀ t, t = dvP (m : Int) L (mvd o b) n → Ev (fun k => spec_l9Moved.l0 k n o (out ++ [t]) (wrap64 (i + 1)) (m : Int) L) r) : ∀ (d j : Nat) (x : List Int), j + d = m → x.length = m → mvF o b d j x = mvd o b → Ev (fun k => spec_l9Moved.l1 k n o out i b x (j : Int) (m : Int) L) r := by
 have h12 := ho.1.2
 have hol := ho.2.1
 intro d
 induction d with
 | zero =>
  intro j x hj hx e
  have e2 : x = mvd o b := e
  refine Ev.step (Ev.neg (by omega) (Ev.bind (a := dvP (m : Int) L (mvd o b) n) ?_ (Ev.pos (by omega) (hr _ rfl)))) (fun k => spec_l9Moved.l1.eq_2 ..)
  rw [e2]
  unfold spec_l8Value.f
  have a0 := (h.dvar_le p).1
  exact spec_l8value_l0 h (mvd o b) (by rw [mvd_len]; exact hol) 13 n p (by omega)
 | succ d ih =>
  intro j x hj hx e
  obtain ⟨r0, r1⟩ := ord_rd ho (show j < o.length by omega)
  refine Ev.step (Ev.pos (by omega) (Ev.pos (by omega) (Ev.pos (by omega) (Ev.pos (by omega) (Ev.pos r0 (Ev.pos (by omega) ?_)))))) (fun k => spec_l9Moved.l1.eq_2 ..)
  rw [wsucc j (by omega)]
  exact ih (j + 1) _ (by omega) (by rw [List.length_set]; exact hx) e
theorem spec_moved_loop {m : Nat} {L : List S56} {n : Int} {o : List Int} (h : DV (m : Int) L) (p : Pl L n) (ho : Ord o (m : Int)) : ∀ (d i : Nat), i + d = 2 ^ m →
  Ev (fun k => spec_l9Moved.l0 k n o ((List.range i).map (fun j => moV (m : Int) L n o (bitsD ((j : Nat) : Int) m))) (i : Int) (m : Int) L) ((m : Int), (ins [] (reT (m : Int) L n o)).1, (ins [] (reT (m : Int) L n o)).2) := by
 have h12 := h.v12
 have h0 := h.v0
 have hol := ho.2.1
 have hp : (2 : Nat) ^ m ≤ 4096 := Nat.le_trans (Nat.pow_le_pow_right (by decide) (show m ≤ 12 by omega)) (by decide)
 intro d
 induction d with
 | zero =>
  intro i hi
  have hi2 : i = 2 ^ m := by omega
  subst hi2
  refine Ev.step (Ev.pos h0 ?_) (fun k => spec_l9Moved.l0.eq_2 ..)
  rw [shl_pow m (by omega)]
  have ev : (List.range (2 ^ m)).map (fun j => moV (m : Int) L n o (bitsD ((j : Nat) : Int) m)) = allvals (moV (m : Int) L n o) m [] := (allvals_rows (moV (m : Int) L n o) m []).symm
  rw [ev]
  have hb : BitRow (allvals (moV (m : Int) L n o) m []) := by
   rw [← ev]
   intro x hx
   obtain ⟨j, _, rfl⟩ := List.mem_map.mp hx
   exact moV_01 h p _
  have hT := rows_made (moV (m : Int) L n o) m []
  have hr := spec_rows m [] 0 (allvals (moV (m : Int) L n o) m []) (dv_nil h0 h12) (Int.le_refl _) (by omega) (allvals_len _ _ _) hb
  rw [show rowsT m 0 (allvals (moV (m : Int) L n o) m []) = madeT (moV (m : Int) L n o) m [] from hT] at hr
  exact Ev.neg (by omega) (Ev.bind hr (Ev.val _))
 | succ d ih =>
  intro i hi
  refine Ev.step (Ev.pos h0 ?_) (fun k => spec_l9Moved.l0.eq_2 ..)
  rw [shl_pow m (by omega)]
  refine Ev.pos (by omega) (Ev.bind (spec_value (i : Int) (by omega) m (by omega)) (Ev.pos (by omega) ?_))
  have em : m = o.length := by omega
  have hmv : ∀ b, mvF o b m 0 (List.replicate (m : Int).toNat 0) = mvd o b := fun b => by
   rw [Int.toNat_natCast]
   unfold mvd
   rw [← em]
  refine spec_mv h p ho (by rw [bitsD_length]) _ (by simp; omega) _ _ ?_ m 0 _ (by omega) (by rw [List.length_replicate, Int.toNat_natCast]) (hmv _)
  intro t ht
  rw [wsucc i (by omega), ht]
  have e1 : (List.range i).map (fun j => moV (m : Int) L n o (bitsD ((j : Nat) : Int) m)) ++ [dvP (m : Int) L (mvd o (bitsD (i : Int) m)) n] = (List.range (i + 1)).map (fun j => moV (m : Int) L n o (bitsD ((j : Nat) : Int) m)) := by
   rw [List.range_succ, List.map_append]
   rfl
  rw [e1]
  exact ih (i + 1) (by omega)
theorem spec_moved {vars n : Int} {L : List S56} {o : List Int} (h : DV vars L) (p : Pl L n) (ho : Ord o vars) : Ev (fun k => (spec_l9Moved.f k vars L n o).bind fun bt => (spec_l8Told.f bt.1 bt.2.1 bt.2.2).bind fun bt2 => some (bt2.1, bt2.2.1, bt2.2.2)) (told vars (ins [] (reT vars L n o))) := by
 have h0 := h.v0
 obtain ⟨m, rfl⟩ := Int.eq_ofNat_of_zero_le h0
 unfold spec_l9Moved.f
 refine Ev.bind (spec_moved_loop h p ho (2 ^ m) 0 (by omega)) (Ev.bind (a := told (m : Int) (ins [] (reT (m : Int) L n o))) (Ev.const ?_) (Ev.val _))
 unfold spec_l8Told.f told
 by_cases c : (ins [] (reT (m : Int) L n o)).2 < 0
 ·rw [if_pos c, if_pos c]
 ·rw [if_neg c, if_neg c]
theorem spec_reord {vars n : Int} {L : List S56} {o : List Int} (hlen : o.length ≤ 1048576) {r : Int × List S56 × Int} (h : ReIs vars L n o r) : Ev (fun k => spec_Reordered.f k vars L n o) r := by
 obtain ⟨hy, hn⟩ := h
 unfold spec_Reordered.f
 have e0 : Ev (fun k => spec_Reordered.j0 k n o true vars L) (0, [], -1) := Ev.step (Ev.pos rfl (Ev.val _)) (fun k => spec_Reordered.j0.eq_2 ..)
 obtain ⟨q, hb, h1⟩ := spec_dv vars L
 cases q with
 | false =>
  rw [hn (fun h => by have := h1.2 h.1; (cases this))]
  exact Ev.bind hb (Ev.neg (by decide) e0)
 | true =>
  have hd := h1.1 rfl
  have hl := hd.len
  refine Ev.bind hb (Ev.pos rfl (Ev.bind (Ev.const (place_val L n (by omega))) ?_))
  by_cases c : Pl L n
  ·rw [@decide_eq_true _ (decPl L n) c]
   obtain ⟨t, ht1, ht2⟩ := spec_ord o vars hlen
   refine Ev.pos rfl (Ev.bind ht1 ?_)
   cases t with
   | true =>
    rw [hy ⟨hd, c, ht2.1 rfl⟩]
    exact Ev.step (Ev.neg (by decide) (spec_moved hd c (ht2.1 rfl))) (fun k => spec_Reordered.j0.eq_2 ..)
   | false =>
    rw [hn (fun h => by have := ht2.2 h.2.2; (cases this))]
    exact e0
  ·rw [@decide_eq_false _ (decPl L n) c, hn (fun h => c h.2.1)]
   exact Ev.neg (by decide) e0
theorem impl_reord {vars n : Int} {L : List S56} {o : List Int} (hlen : o.length ≤ 1048576) {r : Int × List S56 × Int} (h : ReIs vars L n o r) : Ev (fun k => impl_Reordered.f k vars L n o) r := by
 obtain ⟨hy, hn⟩ := h
 unfold impl_Reordered.f
 obtain ⟨q, hb, h1⟩ := impl_dv vars L
 refine Ev.bind (Ev.const hb) ?_
 cases q with
 | false =>
  rw [hn (fun h => by have := h1.2 h.1; (cases this))]
  exact Ev.neg (by decide) (Ev.val _)
 | true =>
  have hd := h1.1 rfl
  have hl := hd.len
  refine Ev.pos rfl (Ev.bind (Ev.const (isPlace_val vars n (by omega))) ?_)
  by_cases c : Pl L n
  ·rw [@decide_eq_true _ (decPl L n) c]
   obtain ⟨t, ht1, ht2⟩ := impl_ord o vars hlen
   refine Ev.pos rfl (Ev.bind ht1 ?_)
   cases t with
   | true =>
    rw [hy ⟨hd, c, ht2.1 rfl⟩]
    exact Ev.pos rfl (Ev.bind (reord_v hd c (ht2.1 rfl)) (Ev.val _))
   | false =>
    rw [hn (fun h => by have := ht2.2 h.2.2; (cases this))]
    exact Ev.neg (by decide) (Ev.val _)
  ·rw [@decide_eq_false _ (decPl L n) c, hn (fun h => c h.2.1)]
   exact Ev.neg (by decide) (Ev.val _)
/-! #### the program's least row, whole -/
theorem wc_loop (l : List Int) (hl : l.length ≤ 1048576) : ∀ (d i : Nat), i + d = l.length → Ev (fun k => laws_wcInts.l0 k l l (l.length : Int) (i : Int)) true := by
 intro d
 induction d with
 | zero =>
  intro i hi
  exact Ev.step (Ev.neg (by omega) (Ev.val _)) (fun k => laws_wcInts.l0.eq_2 ..)
 | succ d ih =>
  intro i hi
  refine Ev.step (Ev.pos (by omega) (Ev.pos (by omega) (Ev.pos (by omega) (Ev.pos (by omega) (Ev.pos rfl ?_))))) (fun k => laws_wcInts.l0.eq_2 ..)
  rw [wsucc i (by omega)]
  exact ih (i + 1) (by omega)
theorem wc_same (l : List Int) (hl : l.length ≤ 1048576) : Ev (fun k => laws_wcInts.f k l l) true := by
 unfold laws_wcInts.f
 exact Ev.pos rfl (wc_loop l hl l.length 0 (by omega))
/-! #### drawn orders -/
theorem oplain_loop (n : Nat) (hn : n ≤ 13) : ∀ (d i : Nat) (x : List Int), i + d = n → x.length = i → Tot (fun k => spec_l9Plain.l0 k (n : Int) x (i : Int)) (fun r => r.length = n) := by
 intro d
 induction d with
 | zero =>
  intro i x hi hx
  exact Tot.step (Tot.neg (by omega) (Tot.val (by omega))) (fun k => spec_l9Plain.l0.eq_2 ..)
 | succ d ih =>
  intro i x hi hx
  refine Tot.step (Tot.pos (by omega) (Tot.pos (by omega) ?_)) (fun k => spec_l9Plain.l0.eq_2 ..)
  rw [wsucc i (by omega)]
  exact ih (i + 1) _ (by omega) (by simp; omega)
theorem order_loop (b : List Int) (hb : Drawer b) (n : Nat) (hn : n ≤ 13) : ∀ (d i : Nat) (x : List Int) (p : Int), i + d = n → x.length = n → 0 ≤ p → p + d ≤ 50000 → Tot (fun k => spec_l9Order.l0 k (n : Int) x (i : Int) b p) (fun r => r.1.length ≤ 14) := by
 intro d
 induction d with
 | zero =>
  intro i x p hi hx p0 p1
  refine Tot.step (Tot.neg (by omega) (Tot.bind (pick_tot b hb p 14 p0 (by omega)) ?_)) (fun k => spec_l9Order.l0.eq_2 ..)
  rintro ⟨y, q⟩ ⟨e1, _⟩
  simp only at e1 ⊢
  subst e1
  refine Tot.ite (fun _ => ?_) (fun _ => Tot.val (by show x.length ≤ 14; omega))
  refine Tot.bind (pick_tot b hb (p + 1) 2 (by omega) (by omega)) ?_
  rintro ⟨y, q⟩ ⟨e1, _⟩
  simp only at e1 ⊢
  subst e1
  refine Tot.ite (fun _ => Tot.pos (by omega) (Tot.val (by simp; omega))) (fun _ => ?_)
  refine Tot.ite (fun _ => Tot.pos (by omega) (Tot.val (by simp; omega))) (fun h0 => ?_)
  rw [w_id (x := (n : Int) - 1) (by omega) (by omega)]
  refine Tot.pos (by omega) (Tot.pos (by omega) (Tot.bind (num_tot b hb (p + 1 + 1) _ (by omega) (by omega) (by simp)) ?_))
  rintro ⟨u, q⟩ ⟨e1, _⟩
  simp only at e1 ⊢
  exact Tot.pos (by omega) (Tot.val (by simp; omega))
 | succ d ih =>
  intro i x p hi hx p0 p1
  refine Tot.step (Tot.pos (by omega) (Tot.bind (pick_tot b hb p (n : Int) p0 (by omega)) ?_)) (fun k => spec_l9Order.l0.eq_2 ..)
  rintro ⟨z, q⟩ ⟨e1, z0, z1⟩
  simp only at e1 z0 z1 ⊢
  subst e1
  have z2 := z1 (by omega)
  rw [wsucc i (by omega)]
  exact Tot.pos (by omega) (Tot.pos (by omega) (Tot.pos z0 (Tot.pos (by omega) (ih (i + 1) _ (p + 1) (by omega) (by simp; omega) (by omega) (by omega)))))
theorem order_tot (b : List Int) (hb : Drawer b) (p : Int) (p0 : 0 ≤ p) (p1 : p ≤ 40000) (v : Int) (v0 : 0 ≤ v) (v1 : v ≤ 13) : Tot (fun k => spec_l9Order.f k b p v) (fun r => r.1.length ≤ 14) := by
 obtain ⟨n, rfl⟩ := Int.eq_ofNat_of_zero_le v0
 unfold spec_l9Order.f spec_l9Plain.f
 refine Tot.bind (oplain_loop n (by omega) n 0 [] (by omega) rfl) ?_
 intro x hx
 exact order_loop b hb n (by omega) n 0 x p (by omega) hx p0 (by omega)
theorem draw_reord (code : List Int) (hc : ∀ x ∈ code, (Lit.int .u8 x).wf = true) : Tot (fun k => spec_DrawReordered.f k code) (fun r => r.2.2.2.length ≤ 14) := by
 obtain ⟨b, ho, hb⟩ := open_tot code hc
 unfold spec_DrawReordered.f
 refine Tot.bind (Tot.of (Ev.const ho) (P := fun r => r = (b, 0)) rfl) ?_
 rintro r rfl
 refine Tot.bind (any_tot b hb 0 5 (by decide) (by decide) (by decide) (by decide)) ?_
 rintro ⟨vars, L, n, q⟩ ⟨hd, q0, q1⟩
 have v1 := hd.v1
 simp only at q0 q1 v1 ⊢
 refine Tot.ite (fun _ => ?_) (fun c => ?_)
 ·refine Tot.bind (order_tot b hb q q0 (by omega) 0 (by decide) (by decide)) ?_
  intro r hr
  exact Tot.val hr
 ·refine Tot.bind (order_tot b hb q q0 (by omega) vars (by omega) v1) ?_
  intro r hr
  exact Tot.val hr
/-! #### an order and back -/
theorem mvF_other (o b : List Int) (v : Int) : ∀ (d i : Nat) (x : List Int), (∀ j : Nat, i ≤ j → j < i + d → 0 ≤ rd o (j : Int) ∧ rd o (j : Int) ≠ v) → 0 ≤ v → rd (mvF o b d i x) v = rd x v := by
 intro d
 induction d with
 | zero => intro i x _ _; rfl
 | succ d ih =>
  intro i x h v0
  have h1 := h i (Nat.le_refl _) (by omega)
  show rd (mvF o b d (i + 1) (x.set (rd o (i : Int)).toNat (rd b (i : Int)))) v = _
  rw [ih (i + 1) _ (fun j hj1 hj2 => h j (by omega) (by omega)) v0]
  exact rd_set_far _ h1.1 v0 h1.2
theorem ord_ne {o : List Int} {n : Int} (h : Ord o n) {i j : Nat} (hij : i < j) (hj : j < o.length) : rd o (i : Int) ≠ rd o (j : Int) := fun e => by
 have := (ord_at h hj).2
 refine this ?_
 rw [← e, rd_lt (by omega)]
 exact List.mem_take_iff_getElem.mpr ⟨i, by omega, rfl⟩
theorem mvF_at {o : List Int} {n : Int} (h : Ord o n) (b : List Int) : ∀ (d i : Nat) (x : List Int), i + d = o.length → x.length = o.length → ∀ j : Nat, i ≤ j → j < o.length → rd (mvF o b d i x) (rd o (j : Int)) = rd b (j : Int) := by
 have hl := h.2.1
 intro d
 induction d with
 | zero => intro i x hi _ j h1 h2; omega
 | succ d ih =>
  intro i x hi hx j h1 h2
  show rd (mvF o b d (i + 1) (x.set (rd o (i : Int)).toNat (rd b (i : Int)))) (rd o (j : Int)) = _
  by_cases e : j = i
  ·subst e
   have hr := ord_rd h h2
   rw [mvF_other o b (rd o (j : Int)) d (j + 1) _ (fun q hq1 hq2 => ⟨(ord_rd h (by omega)).1, fun e => ord_ne h (show j < q by omega) (by omega) e.symm⟩) hr.1]
   exact rd_set_at _ hr.1 (by omega)
  ·exact ih (i + 1) _ (by omega) (by rw [List.length_set]; exact hx) j (by omega) h2
theorem mvd_at {o : List Int} {n : Int} (h : Ord o n) (b : List Int) {j : Nat} (hj : j < o.length) : rd (mvd o b) (rd o (j : Int)) = rd b (j : Int) :=
 mvF_at h b o.length 0 _ (by omega) (by rw [List.length_replicate]) j (Nat.zero_le _) hj
theorem mvF_bits (o : List Int) {b : List Int} (hb : BitRow b) : ∀ (d i : Nat) (x : List Int), i + d ≤ b.length → BitRow x → BitRow (mvF o b d i x) := by
 intro d
 induction d with
 | zero => intro i x _ hx; exact hx
 | succ d ih =>
  intro i x hi hx
  refine ih (i + 1) _ (by omega) (fun y hy => ?_)
  rcases List.mem_or_eq_of_mem_set hy with h | h
  ·exact hx y h
  ·rw [h, rd_lt (by omega)]
   exact hb _ (List.getElem_mem _)
theorem mvd_bits {o b : List Int} (hb : BitRow b) (hl : b.length = o.length) : BitRow (mvd o b) :=
 mvF_bits o hb o.length 0 _ (by omega) (fun x hx => .inl (List.eq_of_mem_replicate hx))
theorem ord_find {o : List Int} {n : Int} (h : Ord o n) {v : Nat} (hv : (v : Int) < n) : ∃ i : Nat, i < o.length ∧ rd o (i : Int) = (v : Int) := by
 obtain ⟨i, hi, e⟩ := List.mem_iff_getElem.mp (h.2.2 (v : Int) (by omega) hv)
 exact ⟨i, hi, by rw [rd_lt hi, e]⟩
theorem rd_upto {n i : Nat} (h : i < n) : rd (upto n) (i : Int) = (i : Int) := by
 rw [rd_lt (by rw [upto_len]; exact h)]
 unfold upto
 rw [List.getElem_map, List.getElem_range]
/-- Where each variable stands in an order. -/
def bkO (o : List Int) : List Int := mvd o (upto o.length)
theorem bk_len (o : List Int) : (bkO o).length = o.length := mvd_len o _
theorem bk_at {o : List Int} {n : Int} (h : Ord o n) {i : Nat} (hi : i < o.length) : rd (bkO o) (rd o (i : Int)) = (i : Int) := by
 unfold bkO
 rw [mvd_at h _ hi, rd_upto hi]
theorem bk_ord {o : List Int} {n : Int} (h : Ord o n) : Ord (bkO o) n := by
 have hl := h.2.1
 refine ⟨h.1, by rw [bk_len]; exact hl, fun j j0 j1 => ?_⟩
 obtain ⟨i, rfl⟩ := Int.eq_ofNat_of_zero_le j0
 have hi : i < o.length := by omega
 have hr := ord_rd h hi
 obtain ⟨q, hq⟩ := Int.eq_ofNat_of_zero_le hr.1
 have := bk_at h hi
 rw [hq] at this
 rw [← this, rd_lt (by rw [bk_len]; omega)]
 exact List.getElem_mem _
theorem mv_back {o b : List Int} {n : Int} (h : Ord o n) (hb : (b.length : Int) = n) : mvd o (mvd (bkO o) b) = b := by
 have hl := h.2.1
 refine list_eq_rd (by rw [mvd_len]; omega) (fun q hq => ?_)
 rw [mvd_len] at hq
 obtain ⟨i, hi, e⟩ := ord_find h (v := q) (by omega)
 have h2 := bk_at h hi
 have a := mvd_at h (mvd (bkO o) b) hi
 have b2 := mvd_at (bk_ord h) b (j := q) (by rw [bk_len]; exact hq)
 rw [e] at h2 a
 rw [h2] at b2
 rw [a, b2]
/-! ##### the program's and the reference's -/
theorem impl_back_loop {o : List Int} {n : Int} (h : Ord o n) : ∀ (d i : Nat) (x : List Int), i + d = o.length → x.length = o.length → mvF o (upto o.length) d i x = bkO o → Ev (fun k => impl_OrderBack.l0 k x o (o.length : Int) (i : Int)) (bkO o) := by
 have hl := h.2.1
 have h12 := h.1.2
 intro d
 induction d with
 | zero =>
  intro i x hi hx e
  have e2 : x = bkO o := e
  refine Ev.step (Ev.neg (by omega) (Ev.bind (a := bkO o) (Ev.const ?_) (Ev.val _))) (fun k => impl_OrderBack.l0.eq_2 ..)
  unfold impl_clone_int.f
  rw [if_pos (by omega), e2]
 | succ d ih =>
  intro i x hi hx e
  have hr := ord_rd h (show i < o.length by omega)
  refine Ev.step (Ev.pos (by omega) (Ev.pos (by omega) (Ev.pos (by omega) (Ev.pos hr.1 (Ev.pos (by omega) ?_))))) (fun k => impl_OrderBack.l0.eq_2 ..)
  rw [wsucc i (by omega)]
  refine ih (i + 1) _ (by omega) (by rw [List.length_set]; exact hx) ?_
  rw [← e]
  show _ = mvF o (upto o.length) d (i + 1) (x.set (rd o (i : Int)).toNat (rd (upto o.length) (i : Int)))
  rw [rd_upto (by omega)]
theorem sback_l1 {o : List Int} (hl : o.length ≤ 12) (v : Int) (p : Nat) (hp : p < o.length) (hv : rd o (p : Int) = v) (uniq : ∀ j : Nat, j < o.length → rd o (j : Int) = v → j = p) (x : List Int) (hx : x.length ≤ 12) (r : List Int)
  (rest : Ev (fun k => spec_OrderBack.l0 k o (x ++ [(p : Int)]) (wrap64 (v + 1))) r) : ∀ (d i : Nat), i + d = o.length → Ev (fun k => spec_OrderBack.l1 k o (if i ≤ p then x else x ++ [(p : Int)]) v (i : Int)) r := by
 intro d
 induction d with
 | zero =>
  intro i hi
  rw [if_neg (by omega)]
  exact Ev.step (Ev.neg (by omega) rest) (fun k => spec_OrderBack.l1.eq_2 ..)
 | succ d ih =>
  intro i hi
  have nx := ih (i + 1) (by omega)
  by_cases e : i = p
  ·subst e
   rw [if_pos (Nat.le_refl _)]
   rw [if_neg (by omega)] at nx
   refine Ev.step (Ev.pos (by omega) (Ev.pos (by omega) (Ev.pos hv (Ev.pos (by omega) ?_)))) (fun k => spec_OrderBack.l1.eq_2 ..)
   rw [wsucc i (by omega)]
   exact nx
  ·have hne : ¬ rd o (i : Int) = v := fun h => e (uniq i (by omega) h)
   have eq : (if i + 1 ≤ p then x else x ++ [(p : Int)]) = (if i ≤ p then x else x ++ [(p : Int)]) := by
    by_cases c : i ≤ p
    ·rw [if_pos c, if_pos (by omega)]
    ·rw [if_neg c, if_neg (by omega)]
   rw [eq] at nx
   refine Ev.step (Ev.pos (by omega) (Ev.pos (by omega) (Ev.neg hne ?_))) (fun k => spec_OrderBack.l1.eq_2 ..)
   rw [wsucc i (by omega)]
   exact nx
theorem sback_l0 {o : List Int} {n : Int} (h : Ord o n) (hv : Ev (fun k => spec_OrderValid.f k o (o.length : Int)) true) : ∀ (d v : Nat), v + d = o.length → Ev (fun k => spec_OrderBack.l0 k o ((bkO o).take v) (v : Int)) (bkO o) := by
 have hl := h.2.1
 have h12 := h.1.2
 intro d
 induction d with
 | zero =>
  intro v hi
  rw [List.take_of_length_le (by rw [bk_len]; omega)]
  exact Ev.step (Ev.neg (by omega) (Ev.step (Ev.neg (by decide) (Ev.val _)) (fun k => spec_OrderBack.j1.eq_2 ..))) (fun k => spec_OrderBack.l0.eq_2 ..)
 | succ d ih =>
  intro v hi
  obtain ⟨p, hp, e⟩ := ord_find h (v := v) (by omega)
  have nx := ih (v + 1) (by omega)
  have hb := bk_at h hp
  rw [e, rd_lt (by rw [bk_len]; omega)] at hb
  have et : (bkO o).take (v + 1) = (bkO o).take v ++ [(p : Int)] := by
   rw [List.take_add_one, List.getElem?_eq_getElem (by rw [bk_len]; omega), hb]
   rfl
  rw [et, ← wsucc v (by omega)] at nx
  refine Ev.step (Ev.pos (by omega) (Ev.bind hv (Ev.step (Ev.pos rfl ?_) (fun k => spec_OrderBack.j1.eq_2 ..)))) (fun k => spec_OrderBack.l0.eq_2 ..)
  have := sback_l1 (by omega) (v : Int) p hp e (fun j hj ej => by
   rcases Nat.lt_trichotomy j p with c | c | c
   ·exact absurd (ej.trans e.symm) (ord_ne h c hp)
   ·exact c
   ·exact absurd (e.trans ej.symm) (ord_ne h c hj)) ((bkO o).take v) (by rw [List.length_take, bk_len]; omega) _ nx o.length 0 (by omega)
  rw [if_pos (Nat.zero_le _)] at this
  exact this
/-- What both tell of an order. -/
theorem back_val (o : List Int) (hlen : o.length ≤ 1048576) : ∃ r, r.length ≤ 1048576 ∧ Ev (fun k => impl_OrderBack.f k o) r ∧ Ev (fun k => spec_OrderBack.f k o) r ∧ (Ord o (o.length : Int) → r = bkO o) := by
 obtain ⟨q, hq, h1⟩ := impl_ord o (o.length : Int) hlen
 obtain ⟨t, ht, h2⟩ := spec_ord o (o.length : Int) hlen
 unfold impl_OrderBack.f spec_OrderBack.f
 by_cases c : Ord o (o.length : Int)
 ·obtain rfl : q = true := h1.2 c
  obtain rfl : t = true := h2.2 c
  have h12 := c.1.2
  refine ⟨bkO o, by rw [bk_len]; exact hlen, ?_, ?_, fun _ => rfl⟩
  ·refine Ev.bind hq (Ev.pos rfl (Ev.pos (by omega) (Ev.pos (by omega) ?_)))
   rw [Int.toNat_natCast]
   exact impl_back_loop c o.length 0 _ (by omega) (by rw [List.length_replicate]) rfl
  ·exact sback_l0 c ht o.length 0 (by omega)
 ·obtain rfl : q = false := by
   cases q
   ·rfl
   ·exact absurd (h1.1 rfl) c
  obtain rfl : t = false := by
   cases t
   ·rfl
   ·exact absurd (h2.1 rfl) c
  refine ⟨[], Nat.zero_le _, Ev.bind hq (Ev.neg (by decide) (Ev.val _)), ?_, fun h => absurd h c⟩
  have j : Ev (fun k => spec_OrderBack.j1 k o [] 0 false) [] := Ev.step (Ev.neg (by decide) (Ev.val _)) (fun k => spec_OrderBack.j1.eq_2 ..)
  by_cases c0 : 0 < o.length
  ·exact Ev.step (Ev.pos (by omega) (Ev.bind ht j)) (fun k => spec_OrderBack.l0.eq_2 ..)
  ·exact Ev.step (Ev.neg (by omega) j) (fun k => spec_OrderBack.l0.eq_2 ..)
/-- A diagram that is made value by value out of a place's values is the compacted one. -/
theorem made_cp {vars : Int} {L : List S56} (h : DV vars L) (n : Int) (fn : List Int → Int) (hfn : ∀ bits, BitRow bits → (bits.length : Int) = vars → fn bits = dvP vars L bits n) : ∀ (m : Nat) (pre : List Int) (q : Int) (F : List S56), BitRow pre → (pre.length : Int) + m = vars → DV vars F → Img vars L F → Pl L q → (pre.length : Int) ≤ dvar vars L q →
  (∀ rest, dvP vars L (pre ++ rest) n = dvP vars L (pre ++ rest) q) → ins F (madeT fn m pre) = ins F (cpP vars L q) := by
 have dv13 := fun (z : Int) (hz : Pl L z) => show vars - dvar vars L z < (13 : Nat) by have := (h.dvar_le hz).1; have := h.v12; omega
 intro m
 induction m with
 | zero =>
  intro pre q F hb hm _ _ pq hd hv
  have c : q < 2 := Decidable.byContradiction (fun c => by have := (dvar_two h pq).2 c; omega)
  have e := hv []
  rw [List.append_nil, dvP_const (n := q) c] at e
  show ins F (.leaf (fn pre)) = _
  rw [cpP_const c, hfn pre hb (by omega), e]
 | succ m ih =>
  intro pre q F hb hm hF hi pq hd hv
  have f := fun hi => gat_ok h pq hd (by omega) hi
  have hb2 : ∀ c : Int, c = 0 ∨ c = 1 → BitRow (pre ++ [c]) := fun c hc x hx => by
   rcases List.mem_append.mp hx with h | h
   ·exact hb x h
   ·rw [List.mem_singleton.mp h]
    exact hc
  have one : ∀ (c : Int) (F : List S56), c = 0 ∨ c = 1 → DV vars F → Img vars L F → ins F (madeT fn m (pre ++ [c])) = ins F (cpP vars L (gat L q (pre.length : Int) (decide (c = 1)))) := by
   intro c F hc hF hi
   refine ih (pre ++ [c]) _ F (hb2 c hc) (by simp; omega) hF hi (f _).1 (by have := (f (decide (c = 1))).2; simp; omega) (fun rest => ?_)
   rw [List.append_assoc]
   have e1 := hv ([c] ++ rest)
   have e2 := dvP_gat (v := (pre.length : Int)) h (pre ++ c :: rest) pq
   rw [rd_mid] at e2
   exact e1.trans e2.symm
  have o0 := one 0 F (.inl rfl) hF hi
  rw [show decide ((0 : Int) = 1) = false by decide] at o0
  show ins F (.fork (pre.length : Int) (madeT fn m (pre ++ [0])) (madeT fn m (pre ++ [1]))) = _
  obtain ⟨l0, hi1⟩ := ins_cp h 13 _ F hF hi (f false).1 (dv13 _ (f false).1)
  obtain ⟨d1, _⟩ := dv_ins hF (cpP_ok h hF 13 _ (f false).1 (dv13 _ (f false).1))
  have o1 := one 1 _ (.inr rfl) d1 hi1
  rw [show decide ((1 : Int) = 1) = true by decide] at o1
  rw [ins_fork, o0, o1, if_neg (by omega)]
  by_cases e : (pre.length : Int) = dvar vars L q
  ·have c : ¬ q < 2 := (dvar_two h pq).1 (by omega)
   rw [cpP_fork h pq c, ins_fork, ← e, if_neg (by omega)]
  ·have hlt : (pre.length : Int) < dvar vars L q := by omega
   rw [gat_above hlt] at l0 ⊢
   rw [gat_above hlt, ins_stays l0 (List.prefix_refl _)]
   unfold dadd
   rw [if_neg (by simp only; omega), if_pos rfl]

theorem back_same {vars n : Int} {L : List S56} {o : List Int} (h : DV vars L) (p : Pl L n) (ho : Ord o vars) (hr : 0 ≤ (ins [] (reT vars L n o)).2) :
  ins [] (reT vars (ins [] (reT vars L n o)).1 (ins [] (reT vars L n o)).2 (bkO o)) = ins [] (cpP vars L n) := by
 have h0 := h.v0
 have dn := dv_nil h0 h.v12
 obtain ⟨m, hm⟩ := Int.eq_ofNat_of_zero_le h0
 have em : vars.toNat = m := by omega
 have tok := madeT_ok dn (moV vars L n o) (fun b hb hl => moV_01 h p b) vars.toNat [] (fun x hx => by simp at hx) (by simp; omega)
 refine made_cp h n _ (fun bits hb hl => ?_) vars.toNat [] n [] (fun x hx => by simp at hx) (by simp; omega) dn (img_nil vars L) p (h.dvar_le p).1 (fun rest => rfl)
 have hl2 : (mvd (bkO o) bits).length = vars.toNat := by rw [mvd_len, bk_len]; have := ho.2.1; omega
 have hb2 : BitRow (mvd (bkO o) bits) := mvd_bits hb (by rw [bk_len]; have := ho.2.1; omega)
 show dvP vars (ins [] (reT vars L n o)).1 (mvd (bkO o) bits) (ins [] (reT vars L n o)).2 = _
 have v1 : dvP vars (ins [] (reT vars L n o)).1 (mvd (bkO o) bits) (ins [] (reT vars L n o)).2 = tval vars [] (mvd (bkO o) bits) (reT vars L n o) := ins_val _ dn tok hr
 have v2 := madeT_val (vars := vars) (L := []) (moV vars L n o) (mvd (bkO o) bits) hb2 (by have := moV_01 (o := o) h p (mvd (bkO o) bits); omega) (mvd (bkO o) bits) [] rfl
 rw [hl2] at v2
 rw [v1]
 refine v2.trans ?_
 unfold moV
 rw [mv_back ho hl]
theorem back_loop {vars : Int} {o : List Int} (hv : Ev (fun k => impl_OrderValid.f k o vars) true) (r1 : Int) (L F : List S56) (hF : F.length ≤ 1048576) : ∀ (d i : Nat), i + d = F.length → Ev (fun k => laws_FnReorderBack.l0 k o (F.length : Int) (i : Int) vars L r1 F r1 F) true := by
 intro d
 induction d with
 | zero =>
  intro i hi
  exact Ev.step (Ev.neg (by omega) (Ev.bind hv (Ev.val _))) (fun k => laws_FnReorderBack.l0.eq_2 ..)
 | succ d ih =>
  intro i hi
  refine Ev.step (Ev.pos (by omega) (Ev.pos (by omega) (Ev.pos (by omega) (Ev.pos (by omega) (Ev.neg (by simp) ?_))))) (fun k => laws_FnReorderBack.l0.eq_2 ..)
  rw [wsucc i (by omega)]
  exact ih (i + 1) (by omega)
theorem FnReorderBack : laws_FnReorderBack.Pure := by
 intro code _ _ hc
 apply Ev.get
 unfold laws_FnReorderBack.f
 by_cases c0 : (code.length : Int) > 1048576
 ·exact Ev.pos c0 (Ev.val _)
 refine Ev.neg c0 ?_
 obtain ⟨⟨vars, L, n, o⟩, hdraw, hol⟩ := draw_reord code hc
 have hol2 : o.length ≤ 14 := hol
 refine Ev.bind hdraw ?_
 simp only
 obtain ⟨⟨r1, R, r3⟩, ht, hR⟩ := reIs_ex vars L n o
 obtain ⟨bk, bl, ib, sb, bo⟩ := back_val o (by omega)
 have wc := wc_same bk bl
 refine Ev.bind (impl_reord (by omega) ht) (Ev.bind ib (Ev.bind sb (Ev.bind wc (Ev.pos rfl ?_))))
 simp only
 have sr := spec_reord (by omega) ht
 obtain ⟨hy, hn⟩ := ht
 by_cases neg : r3 < 0
 ·rw [decide_eq_true neg]
  refine Ev.step (Ev.pos rfl (Ev.bind sr (Ev.bind sb (Ev.bind wc (Ev.pos rfl ?_))))) (fun k => laws_FnReorderBack.j0.eq_2 ..)
  rw [beq_self_eq_true]
  exact Ev.val _
 ·rw [decide_eq_false neg]
  have ask : ReAsk vars L n o := Classical.byContradiction (fun c => by
   have := hn c
   simp only [Prod.mk.injEq] at this
   omega)
  have hh := hy ask
  obtain ⟨h, p, ho⟩ := ask
  have hlo := ho.2.1
  have hbk : bk = bkO o := bo (by rw [hlo]; exact ho)
  subst hbk
  unfold told at hh
  by_cases cn : (ins [] (reT vars L n o)).2 < 0
  ·rw [if_pos cn] at hh
   simp only [Prod.mk.injEq] at hh
   omega
  ·rw [if_neg cn] at hh
   simp only [Prod.mk.injEq] at hh
   obtain ⟨rfl, rfl, rfl⟩ := hh
   have dn := dv_nil h.v0 h.v12
   have tok := madeT_ok dn (moV r1 L n o) (fun b hb hl => moV_01 h p b) r1.toNat [] (fun x hx => by simp at hx) (by have := h.v0; simp; omega)
   obtain ⟨d1, d2⟩ := dv_ins dn tok
   obtain ⟨pl, _⟩ := d2 (Int.not_lt.mp cn)
   have same := back_same h p ho (Int.not_lt.mp cn)
   have room := (ins_cp h 13 n [] dn (img_nil r1 L) p (by have := (h.dvar_le p).1; have := h.v12; omega)).1
   have i2 : Ev (fun k => impl_Reordered.f k r1 (ins [] (reT r1 L n o)).1 (ins [] (reT r1 L n o)).2 (bkO o)) (r1, (ins [] (cpP r1 L n)).1, (ins [] (cpP r1 L n)).2) := by
    refine impl_reord (by rw [bk_len]; omega) ⟨fun _ => ?_, fun hnn => absurd ⟨d1, pl, bk_ord ho⟩ hnn⟩
    rw [same]
    unfold told
    rw [if_neg (by omega)]
   have i3 : Ev (fun k => impl_Compacted.f k r1 L n) (r1, (ins [] (cpP r1 L n)).1, (ins [] (cpP r1 L n)).2) := comp_v ⟨fun _ => rfl, fun hnn => absurd ⟨h, p⟩ hnn⟩
   have cl := (dv_ins dn (cpP_ok h dn 13 n p (by have := (h.dvar_le p).1; have := h.v12; omega))).1.len
   obtain ⟨q, hq, hq1⟩ := impl_ord (bkO o) r1 (by rw [bk_len]; omega)
   obtain rfl : q = true := hq1.2 (bk_ord ho)
   refine Ev.step (Ev.neg (by decide) (Ev.bind i2 (Ev.bind i3 (Ev.pos rfl (Ev.step (Ev.neg (by simp) ?_) (fun k => laws_FnReorderBack.j1.eq_2 ..)))))) (fun k => laws_FnReorderBack.j0.eq_2 ..)
   exact back_loop hq r1 L (ins [] (cpP r1 L n)).1 (by omega) (ins [] (cpP r1 L n)).1.length 0 (by omega)

end Go.Proofs.Ytpcckoljocpchaa.Pure
