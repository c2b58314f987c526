/- FnDiagramNot: a place and its contrary have all rows of bits together, and none in common, whatever is drawn. -/
import Derived.Test.YtpcompnmadpljaaQFnDiagramNotx13
namespace Go.Proofs.Ytpcompnmadpljaa.Pure
open Go.RowKit Go.Proofs.Ytpcompnmadpljaa.QFnDiagramNot Go.Proofs.YtpcompnmadpljaaW.PrintWords Go.Proofs.YtpcompnmadpljaaW.PrintLast Go.Proofs.YtpcompnmadpljaaW.PrintMore
set_option linter.unusedVariables false
set_option linter.unusedSimpArgs false

/-! #### rounds -/
/-- From some number of rounds on, g tells r. -/
def Ev {α : Type} (g : Nat → Option α) (r : α) : Prop := ∃ K, ∀ k, K ≤ k → g k = some r
theorem Ev.val {α : Type} (r : α) : Ev (fun _ => some r) r := ⟨0, fun _ _ => rfl⟩
theorem Ev.valEq {α : Type} {r r' : α} (h : r = r') : Ev (fun _ => some r) r' := ⟨0, fun _ _ => by rw [h]⟩
theorem Ev.const {α : Type} {g : Option α} {r : α} (h : g = some r) : Ev (fun _ => g) r := ⟨0, fun _ _ => h⟩
theorem Ev.bind {α β : Type} {g : Nat → Option α} {f : Nat → α → Option β} {a : α} {b : β} (h : Ev g a) (h2 : Ev (fun k => f k a) b) : Ev (fun k => (g k).bind (f k)) b := by
 obtain ⟨K, hK⟩ := h
 obtain ⟨L, hL⟩ := h2
 exact ⟨max K L, fun k hk => by show (g k).bind (f k) = _; rw [hK k (by omega)]; exact hL k (by omega)⟩
theorem Ev.step {α : Type} {g g' : Nat → Option α} {r : α} (h : Ev g' r) (e : ∀ k, g (k + 1) = g' k) : Ev g r := by
 obtain ⟨K, hK⟩ := h
 exact ⟨K + 1, fun k hk => by
  obtain ⟨m, rfl⟩ : ∃ m, k = m + 1 := ⟨k - 1, by omega⟩
  rw [e]
  exact hK m (by omega)⟩
theorem Ev.pos {α : Type} {c : Prop} [Decidable c] {g g' : Nat → Option α} {r : α} (hc : c) (h : Ev g r) : Ev (fun k => if c then g k else g' k) r := by
 obtain ⟨K, hK⟩ := h
 exact ⟨K, fun k hk => by simp only [if_pos hc]; exact hK k hk⟩
theorem Ev.neg {α : Type} {c : Prop} [Decidable c] {g g' : Nat → Option α} {r : α} (hc : ¬ c) (h : Ev g' r) : Ev (fun k => if c then g k else g' k) r := by
 obtain ⟨K, hK⟩ := h
 exact ⟨K, fun k hk => by simp only [if_neg hc]; exact hK k hk⟩
theorem Ev.get {α : Type} {g : Nat → Option α} {r : α} (h : Ev g r) : ∃ k, g k = some r := by
 obtain ⟨K, hK⟩ := h
 exact ⟨K, hK K (Nat.le_refl _)⟩
/-! #### numbers -/
theorem w_id {x : Int} (h0 : -9223372036854775808 ≤ x) (h1 : x ≤ 9223372036854775807) : wrap64 x = x := by
 unfold wrap64
 omega
/-! #### lists -/
theorem rd_nat (l : List Int) (i : Nat) : rd l (i : Int) = l.getD i 0 := by
 unfold rd
 rw [Int.toNat_natCast]
theorem getD_lt {α : Type} {l : List α} {i : Nat} (h : i < l.length) (d : α) : l.getD i d = l[i] := by
 rw [List.getD_eq_getElem?_getD, List.getElem?_eq_getElem h]
 rfl
theorem rd_lt {l : List Int} {i : Nat} (h : i < l.length) : rd l (i : Int) = l[i] := by rw [rd_nat, getD_lt h]
theorem rd_set_eq {l : List Int} {i : Nat} {v : Int} (h : i < l.length) : rd (l.set i v) (i : Int) = v := by
 rw [rd_lt (by simpa using h)]
 simp
theorem rd_set_ne {l : List Int} {i j : Nat} {v : Int} (h : i ≠ j) : rd (l.set i v) (j : Int) = rd l (j : Int) := by
 rw [rd_nat, rd_nat, List.getD_eq_getElem?_getD, List.getD_eq_getElem?_getD, List.getElem?_set_ne h]
/-! #### it tells something, of which P holds -/
def Tot {α : Type} (g : Nat → Option α) (P : α → Prop) : Prop := ∃ r, Ev g r ∧ P r
theorem Tot.of {α : Type} {g : Nat → Option α} {P : α → Prop} {r : α} (h : Ev g r) (hp : P r) : Tot g P := ⟨r, h, hp⟩
theorem Tot.val {α : Type} {P : α → Prop} {r : α} (h : P r) : Tot (fun _ => some r) P := ⟨r, Ev.val r, h⟩
theorem Tot.mono {α : Type} {g : Nat → Option α} {P Q : α → Prop} (h : Tot g P) (hq : ∀ r, P r → Q r) : Tot g Q := by
 obtain ⟨r, h1, h2⟩ := h
 exact ⟨r, h1, hq r h2⟩
theorem Tot.step {α : Type} {g g' : Nat → Option α} {P : α → Prop} (h : Tot g' P) (e : ∀ k, g (k + 1) = g' k) : Tot g P := by
 obtain ⟨r, h1, h2⟩ := h
 exact ⟨r, Ev.step h1 e, h2⟩
theorem Tot.bind {α β : Type} {g : Nat → Option α} {f : Nat → α → Option β} {Q : α → Prop} {P : β → Prop} (h : Tot g Q) (h2 : ∀ a, Q a → Tot (fun k => f k a) P) : Tot (fun k => (g k).bind (f k)) P := by
 obtain ⟨a, ha, hq⟩ := h
 obtain ⟨r, h1, h3⟩ := h2 a hq
 exact ⟨r, Ev.bind ha h1, h3⟩
theorem Tot.pos {α : Type} {c : Prop} [Decidable c] {g g' : Nat → Option α} {P : α → Prop} (hc : c) (h : Tot g P) : Tot (fun k => if c then g k else g' k) P := by
 obtain ⟨r, h1, h2⟩ := h
 exact ⟨r, Ev.pos hc h1, h2⟩
theorem Tot.neg {α : Type} {c : Prop} [Decidable c] {g g' : Nat → Option α} {P : α → Prop} (hc : ¬ c) (h : Tot g' P) : Tot (fun k => if c then g k else g' k) P := by
 obtain ⟨r, h1, h2⟩ := h
 exact ⟨r, Ev.neg hc h1, h2⟩
theorem Tot.ite {α : Type} {c : Prop} [Decidable c] {g g' : Nat → Option α} {P : α → Prop} (h1 : c → Tot g P) (h2 : ¬ c → Tot g' P) : Tot (fun k => if c then g k else g' k) P := by
 by_cases hc : c
 ·exact Tot.pos hc (h1 hc)
 ·exact Tot.neg hc (h2 hc)
/-! #### the drawer of numbers -/
def Drawer (b : List Int) : Prop := b.length ≤ 2000 ∧ ∀ j : Nat, j < b.length → 0 ≤ rd b (j : Int) ∧ rd b (j : Int) ≤ 255
theorem xor_nonneg (a c : Int) (ha : 0 ≤ a) (ha2 : a < 4611686018427387904) (hc : 0 ≤ c) (hc2 : c < 4611686018427387904) : 0 ≤ Go.bits .xor .i64 a c := by
 obtain ⟨m, rfl⟩ := Int.eq_ofNat_of_zero_le ha
 obtain ⟨n, rfl⟩ := Int.eq_ofNat_of_zero_le hc
 have hm : m < 2 ^ 62 := by omega
 have hn : n < 2 ^ 62 := by omega
 have hx := Nat.xor_lt_two_pow hm hn
 have hm' : m % 2 ^ 64 = m := Nat.mod_eq_of_lt (by omega)
 have hn' : n % 2 ^ 64 = n := Nat.mod_eq_of_lt (by omega)
 have e : (BitVec.ofInt 64 (m : Int) ^^^ BitVec.ofInt 64 (n : Int)).toNat = m ^^^ n := by
  rw [BitVec.ofInt_natCast, BitVec.ofInt_natCast, BitVec.toNat_xor, BitVec.toNat_ofNat, BitVec.toNat_ofNat, hm', hn']
 have e2 : Go.bits .xor .i64 (m : Int) (n : Int) = IntKind.i64.wrap ((BitVec.ofInt 64 (m : Int) ^^^ BitVec.ofInt 64 (n : Int)).toNat : Int) := rfl
 rw [e2, e, IntKind.wrap_i64]
 omega
theorem tmod_range (x n : Int) (h0 : 0 ≤ x) (hn : 1 ≤ n) : 0 ≤ Int.tmod x n ∧ Int.tmod x n < n := by
 rw [Int.tmod_eq_emod_of_nonneg h0]
 exact ⟨Int.emod_nonneg _ (by omega), Int.emod_lt_of_pos _ (by omega)⟩
theorem pick_tot (b : List Int) (hb : Drawer b) (p n : Int) (hp : 0 ≤ p) (hp2 : p ≤ 1000000) :
  Tot (fun k => spec_l40Rd_pick.f k b p n) (fun r => r.2 = p + 1 ∧ 0 ≤ r.1 ∧ (1 ≤ n → r.1 < n)) := by
 obtain ⟨hl, hbb⟩ := hb
 have w1 : wrap64 (p + 1) = p + 1 := w_id (by omega) (by omega)
 have w2 : wrap64 (p + 1 - 1) = p := by rw [w_id (by omega) (by omega)]; omega
 have byte : ∀ z : Int, 0 ≤ z → z < (b.length : Int) → 0 ≤ rd b z ∧ rd b z ≤ 255 := by
  intro z h0 h1
  obtain ⟨m, rfl⟩ := Int.eq_ofNat_of_zero_le h0
  exact hbb m (by omega)
 unfold spec_l40Rd_pick.f
 rw [w1]
 refine Tot.ite (fun hn => ?_) (fun hn => ?_)
 ·refine Tot.step (Tot.pos rfl (Tot.val ?_)) (fun k => spec_l40Rd_pick.j0.eq_2 ..)
  exact ⟨rfl, Int.le_refl _, fun h => by omega⟩
 ·refine Tot.step ?_ (fun k => spec_l40Rd_pick.j0.eq_2 ..)
  refine Tot.ite (fun hz => Tot.val ⟨rfl, Int.le_refl _, fun h => by show (0 : Int) < n; omega⟩) (fun hz => ?_)
  have hlen : (b.length : Int) ≠ 0 := by simpa using hz
  rw [w2]
  refine Tot.ite (fun hpl => ?_) (fun hpl => ?_)
  ·obtain ⟨y0, y1⟩ := byte p hp hpl
   refine Tot.pos hp (Tot.neg (by omega) (Tot.val ?_))
   rw [w_id (by omega) (by omega)]
   obtain ⟨z0, z1⟩ := tmod_range (rd b p) n y0 (by omega)
   exact ⟨rfl, z0, fun _ => z1⟩
  ·obtain ⟨i0, i1⟩ := tmod_range p (b.length : Int) hp (by omega)
   have w3 : wrap64 (p * 7) = p * 7 := w_id (by omega) (by omega)
   have w4 : wrap64 (p * 7 + 3) = p * 7 + 3 := w_id (by omega) (by omega)
   rw [w3, w4]
   obtain ⟨j0, j1⟩ := tmod_range (p * 7 + 3) (b.length : Int) (by omega) (by omega)
   refine Tot.neg (by omega) (Tot.pos i0 (Tot.pos i1 (Tot.pos j0 (Tot.pos j1 (Tot.neg (by omega) (Tot.val ?_))))))
   obtain ⟨u0, u1⟩ := byte _ i0 i1
   obtain ⟨v0, v1⟩ := byte _ j0 j1
   generalize rd b (Int.tmod p (b.length : Int)) = u at u0 u1 ⊢
   generalize rd b (Int.tmod (p * 7 + 3) (b.length : Int)) = v at v0 v1 ⊢
   have q0 : 0 ≤ Int.tdiv p (b.length : Int) ∧ Int.tdiv p (b.length : Int) ≤ p := by
    rw [Int.tdiv_eq_ediv_of_nonneg hp]
    exact ⟨Int.ediv_nonneg hp (by omega), Int.ediv_le_self _ hp⟩
   generalize Int.tdiv p (b.length : Int) = q at q0 ⊢
   rw [w_id (x := u) (by omega) (by omega), w_id (x := v) (by omega) (by omega), w_id (x := q) (by omega) (by omega), w_id (x := u * 131) (by omega) (by omega), w_id (x := v * 1117) (by omega) (by omega),
    w_id (x := p * 29) (by omega) (by omega), w_id (x := q * 53) (by omega) (by omega), w_id (x := u * 131 + v * 1117) (by omega) (by omega), w_id (x := u * 131 + v * 1117 + p * 29) (by omega) (by omega), w_id (x := u * 131 + v * 1117 + p * 29 + q * 53) (by omega) (by omega)]
   generalize hA : u * 131 + v * 1117 + p * 29 + q * 53 = A
   have hA0 : 0 ≤ A ∧ A ≤ 1000000000 := by omega
   have hd : 0 ≤ Int.tdiv A 64 ∧ Int.tdiv A 64 ≤ A := by
    rw [Int.tdiv_eq_ediv_of_nonneg hA0.1]
    omega
   rw [w_id (x := Int.tdiv A 64) (by omega) (by omega)]
   have hx := xor_nonneg A (Int.tdiv A 64) hA0.1 (by omega) hd.1 (by omega)
   obtain ⟨z0, z1⟩ := tmod_range _ n hx (by omega)
   exact ⟨rfl, z0, fun _ => z1⟩
theorem num_tot (b : List Int) (hb : Drawer b) (p : Int) (l : List Int) (hp : 0 ≤ p) (hp2 : p ≤ 1000000) (hl : 1 ≤ l.length) :
  Tot (fun k => spec_l40Rd_num.f k b p l) (fun r => r.2 = p + 1 ∧ r.1 ∈ l) := by
 unfold spec_l40Rd_num.f
 refine Tot.bind (pick_tot b hb p (l.length : Int) hp hp2) ?_
 rintro ⟨x, q⟩ ⟨h1, h2, h3⟩
 have h4 := h3 (by omega)
 refine Tot.pos h2 (Tot.pos h4 (Tot.val ⟨h1, ?_⟩))
 show rd l x ∈ l
 obtain ⟨m, rfl⟩ := Int.eq_ofNat_of_zero_le h2
 rw [rd_lt (by show m < _; simp only at h4; omega)]
 exact List.getElem_mem _
theorem open_tot (code : List Int) (hc : ∀ x ∈ code, (Lit.int .u8 x).wf = true) : ∃ b, spec_l40Open.f code = some (b, 0) ∧ Drawer b := by
 have byte : ∀ b : List Int, (∀ x ∈ b, x ∈ code) → ∀ j : Nat, j < b.length → 0 ≤ rd b (j : Int) ∧ rd b (j : Int) ≤ 255 := by
  intro b hs j hj
  rw [rd_lt hj]
  have := hc _ (hs _ (List.getElem_mem hj))
  simp [Lit.wf, IntKind.min, IntKind.max, IntKind.signed, IntKind.bits] at this
  omega
 unfold spec_l40Open.f
 by_cases c : (code.length : Int) > 2000
 ·rw [if_pos c, if_pos (by omega)]
  refine ⟨_, rfl, by simp; omega, byte _ (fun x hx => List.mem_of_mem_take hx)⟩
 ·rw [if_neg c]
  exact ⟨_, rfl, by omega, byte _ (fun x hx => hx)⟩
/-! #### diagrams, plainly: forks that are added once -/
/-- A tree of decisions over places. -/
inductive DT where
 | leaf (n : Int)
 | fork (v : Int) (lo hi : DT)
def dfind (L : List S71) (x : S71) : Option Nat := L.findIdx? (fun y => decide (y = x))
def dadd (L : List S71) (v lo hi : Int) : List S71 × Int :=
 if lo < 0 ∨ hi < 0 then (L, -1) else if lo = hi then (L, lo) else
 match dfind L ⟨v, lo, hi⟩ with
 | some i => (L, (i : Int) + 2)
 | none => if 2000 ≤ L.length then (L, -1) else (L ++ [⟨v, lo, hi⟩], (L.length : Int) + 2)
def ins (L : List S71) : DT → List S71 × Int
 | .leaf n => (L, n)
 | .fork v lo hi => if (ins L lo).2 < 0 then (L, -1) else dadd (ins (ins L lo).1 hi).1 v (ins L lo).2 (ins (ins L lo).1 hi).2
theorem dfind_some {L : List S71} {x : S71} {i : Nat} (h : dfind L x = some i) : L[i]? = some x := by
 unfold dfind at h
 rw [List.findIdx?_eq_some_iff_getElem] at h
 obtain ⟨hi, h1, _⟩ := h
 rw [List.getElem?_eq_getElem hi]
 exact congrArg some (of_decide_eq_true h1)
theorem dfind_none {L : List S71} {x : S71} (h : dfind L x = none) : x ∉ L := by
 unfold dfind at h
 rw [List.findIdx?_eq_none_iff] at h
 intro hx
 have := h x hx
 simp at this
theorem dfind_mem {L : List S71} {x : S71} (h : x ∈ L) : ∃ i, dfind L x = some i := by
 cases hd : dfind L x with
 | some i => exact ⟨i, rfl⟩
 | none => exact absurd h (dfind_none hd)
theorem dfind_append {L : List S71} {x : S71} {i : Nat} (h : dfind L x = some i) (t : List S71) : dfind (L ++ t) x = some i := by
 unfold dfind at h ⊢
 rw [List.findIdx?_append, h]
 rfl
theorem dfind_new {L : List S71} {x : S71} (h : dfind L x = none) (t : List S71) : dfind (L ++ x :: t) x = some L.length := by
 unfold dfind at h ⊢
 rw [List.findIdx?_append, h, List.findIdx?_cons]
 simp
def NoDup (L : List S71) : Prop := ∀ (i : Nat) x, L[i]? = some x → x ∉ L.take i
theorem nodup_inj {L : List S71} (hn : NoDup L) {i j : Nat} (hi : i < L.length) (hj : j < L.length) (h : L[i] = L[j]) : i = j := by
 have key : ∀ a b : Nat, ∀ (ha : a < L.length) (hb : b < L.length), L[a] = L[b] → ¬ a < b := by
  intro a b ha hb he hab
  refine hn b _ (List.getElem?_eq_getElem hb) ?_
  rw [← he]
  refine List.mem_iff_getElem?.2 ⟨a, ?_⟩
  rw [List.getElem?_take, if_pos hab, List.getElem?_eq_getElem ha]
 rcases Nat.lt_trichotomy i j with h1 | h1 | h1
 ·exact absurd h1 (key i j hi hj h)
 ·exact h1
 ·exact absurd h1 (key j i hj hi h.symm)
theorem neg1 {a : List S71} (h : 0 ≤ (a, (-1 : Int)).2) : False := absurd (show (0 : Int) ≤ -1 from h) (by decide)
theorem dfind_at {L : List S71} (hn : NoDup L) {x : S71} {i : Nat} (h : L[i]? = some x) : dfind L x = some i := by
 obtain ⟨j, hj⟩ := dfind_mem (List.mem_of_getElem? h)
 have h2 := dfind_some hj
 obtain ⟨h1, e1⟩ := List.getElem?_eq_some_iff.1 h
 obtain ⟨h3, e3⟩ := List.getElem?_eq_some_iff.1 h2
 have : j = i := nodup_inj hn h3 h1 (e3.trans e1.symm)
 rw [hj, this]
theorem dadd_ext (L : List S71) (v lo hi : Int) : L <+: (dadd L v lo hi).1 := by
 unfold dadd
 split
 ·exact List.prefix_refl _
 split
 ·exact List.prefix_refl _
 split
 ·exact List.prefix_refl _
 split
 ·exact List.prefix_refl _
 ·exact List.prefix_append _ _
theorem ins_ext (L : List S71) (t : DT) : L <+: (ins L t).1 := by
 induction t generalizing L with
 | leaf n => exact List.prefix_refl _
 | fork v lo hi ihl ihh =>
  unfold ins
  split
  ·exact List.prefix_refl _
  ·exact (ihl L).trans ((ihh _).trans (dadd_ext _ _ _ _))
theorem dadd_stays {L : List S71} {v lo hi : Int} (h : 0 ≤ (dadd L v lo hi).2) {L2 : List S71} (he : (dadd L v lo hi).1 <+: L2) : dadd L2 v lo hi = (L2, (dadd L v lo hi).2) := by
 unfold dadd at h he ⊢
 by_cases c1 : lo < 0 ∨ hi < 0
 ·rw [if_pos c1] at h
  exact (neg1 h).elim
 rw [if_neg c1] at h he ⊢
 by_cases c2 : lo = hi
 ·rw [if_neg c1, if_pos c2, if_pos c2]
 rw [if_neg c2] at h he ⊢
 rw [if_neg c1, if_neg c2]
 cases hf : dfind L ⟨v, lo, hi⟩ with
 | some i =>
  simp only [hf] at h he ⊢
  obtain ⟨t, rfl⟩ := he
  rw [dfind_append hf t]
 | none =>
  simp only [hf] at h he ⊢
  by_cases c3 : 2000 ≤ L.length
  ·rw [if_pos c3] at h
   exact (neg1 h).elim
  rw [if_neg c3] at h he ⊢
  obtain ⟨t, rfl⟩ := he
  rw [List.append_assoc, List.singleton_append, dfind_new hf t]
theorem dadd_nn {L : List S71} {v lo hi : Int} (h : 0 ≤ (dadd L v lo hi).2) : 0 ≤ lo ∧ 0 ≤ hi := by
 unfold dadd at h
 by_cases c1 : lo < 0 ∨ hi < 0
 ·rw [if_pos c1] at h
  exact (neg1 h).elim
 ·omega
/-- What is there stays: once told, told again of whatever comes behind. -/
theorem ins_stays {L : List S71} {t : DT} (h : 0 ≤ (ins L t).2) {L2 : List S71} (he : (ins L t).1 <+: L2) : ins L2 t = (L2, (ins L t).2) := by
 induction t generalizing L L2 with
 | leaf n => rfl
 | fork v lo hi ihl ihh =>
  unfold ins at h he
  by_cases c : (ins L lo).2 < 0
  ·rw [if_pos c] at h
   exact (neg1 h).elim
  rw [if_neg c] at h he
  have e1 : (ins (ins L lo).1 hi).1 <+: L2 := (dadd_ext _ _ _ _).trans he
  have e0 : (ins L lo).1 <+: L2 := (ins_ext _ _).trans e1
  have h2 := (dadd_nn h).2
  have k1 := ihl (by omega) e0
  have k2 := ihh h2 e1
  have k3 := dadd_stays h he
  unfold ins
  rw [if_neg c, k1]
  simp only
  rw [if_neg c, k2]
  simp only
  rw [k3]
/-- The variable of a place; c at constants. -/
def dvar (c : Int) (L : List S71) (n : Int) : Int := if n < 2 then c else (L.getD (n - 2).toNat ⟨0, 0, 0⟩).f0
def Pl (L : List S71) (n : Int) : Prop := 0 ≤ n ∧ n ≤ (L.length : Int) + 1
structure DV (vars : Int) (L : List S71) : Prop where
 v0 : 0 ≤ vars
 v12 : vars ≤ 12
 len : L.length ≤ 2000
 nd : NoDup L
 ok : ∀ (i : Nat) x, L[i]? = some x → 0 ≤ x.f0 ∧ x.f0 < vars ∧ 0 ≤ x.f1 ∧ x.f1 ≤ (i : Int) + 1 ∧ 0 ≤ x.f2 ∧ x.f2 ≤ (i : Int) + 1 ∧ x.f1 ≠ x.f2 ∧ x.f0 < dvar vars L x.f1 ∧ x.f0 < dvar vars L x.f2
theorem Pl.ext {L L2 : List S71} {n : Int} (h : Pl L n) (he : L <+: L2) : Pl L2 n := ⟨h.1, by have := he.length_le; have := h.2; omega⟩
theorem getD_ext {L L2 : List S71} (he : L <+: L2) {i : Nat} (h : i < L.length) (z : S71) : L2.getD i z = L.getD i z := by
 obtain ⟨t, rfl⟩ := he
 rw [List.getD_eq_getElem?_getD, List.getD_eq_getElem?_getD, List.getElem?_append_left h]
theorem dvar_ext {c : Int} {L L2 : List S71} {n : Int} (h : Pl L n) (he : L <+: L2) : dvar c L2 n = dvar c L n := by
 unfold dvar
 by_cases h2 : n < 2
 ·rw [if_pos h2, if_pos h2]
 ·rw [if_neg h2, if_neg h2, getD_ext he (by have := h.2; omega)]
/-- The fork at a place that is none of the constants. -/
theorem DV.at_ {vars : Int} {L : List S71} (h : DV vars L) {n : Int} (hp : Pl L n) (h2 : ¬ n < 2) : ∃ x, L[(n - 2).toNat]? = some x ∧ L.getD (n - 2).toNat ⟨0, 0, 0⟩ = x ∧ dvar vars L n = x.f0 ∧ 0 ≤ x.f0 ∧ x.f0 < vars ∧ Pl L x.f1 ∧ Pl L x.f2 ∧ x.f1 < n ∧ x.f2 < n ∧ x.f1 ≠ x.f2 ∧ x.f0 < dvar vars L x.f1 ∧ x.f0 < dvar vars L x.f2 := by
 have hl : (n - 2).toNat < L.length := by have := hp.2; omega
 have hx : L[(n - 2).toNat]? = some L[(n - 2).toNat] := List.getElem?_eq_getElem hl
 obtain ⟨a1, a2, a3, a4, a5, a6, a7, a8, a9⟩ := h.ok _ _ hx
 have hd : L.getD (n - 2).toNat ⟨0, 0, 0⟩ = L[(n - 2).toNat] := by rw [List.getD_eq_getElem?_getD, hx]; rfl
 refine ⟨_, hx, hd, ?_, a1, a2, ⟨a3, ?_⟩, ⟨a5, ?_⟩, ?_, ?_, a7, a8, a9⟩
 ·unfold dvar
  rw [if_neg h2, hd]
 all_goals (have := hp.2; omega)
theorem DV.dvar_le {vars : Int} {L : List S71} (h : DV vars L) {n : Int} (hp : Pl L n) : 0 ≤ dvar vars L n ∧ dvar vars L n ≤ vars := by
 by_cases h2 : n < 2
 ·unfold dvar
  rw [if_pos h2]
  exact ⟨h.v0, Int.le_refl _⟩
 ·obtain ⟨x, _, _, e, a, b, _⟩ := h.at_ hp h2
  omega
theorem dv_dadd {vars : Int} {L : List S71} (h : DV vars L) {v lo hi : Int} (hl : Pl L lo) (hh : Pl L hi) (v0 : 0 ≤ v) (v1 : v < vars) (hvl : v < dvar vars L lo) (hvh : v < dvar vars L hi) :
  DV vars (dadd L v lo hi).1 ∧ (0 ≤ (dadd L v lo hi).2 → Pl (dadd L v lo hi).1 (dadd L v lo hi).2 ∧ v ≤ dvar vars (dadd L v lo hi).1 (dadd L v lo hi).2) := by
 unfold dadd
 by_cases c1 : lo < 0 ∨ hi < 0
 ·rw [if_pos c1]
  exact ⟨h, fun hn => (neg1 hn).elim⟩
 rw [if_neg c1]
 by_cases c2 : lo = hi
 ·rw [if_pos c2]
  exact ⟨h, fun _ => ⟨hl, Int.le_of_lt hvl⟩⟩
 rw [if_neg c2]
 cases hf : dfind L ⟨v, lo, hi⟩ with
 | some i =>
  have hx := dfind_some hf
  obtain ⟨hi, _⟩ := List.getElem?_eq_some_iff.1 hx
  have hp : Pl L ((i : Int) + 2) := ⟨by omega, by omega⟩
  refine ⟨h, fun _ => ⟨hp, ?_⟩⟩
  show v ≤ dvar vars L ((i : Int) + 2)
  unfold dvar
  rw [if_neg (by omega), show ((i : Int) + 2 - 2).toNat = i by omega, List.getD_eq_getElem?_getD, hx]
  exact Int.le_refl _
 | none =>
  simp only
  by_cases c3 : 2000 ≤ L.length
  ·rw [if_pos c3]
   exact ⟨h, fun hn => (neg1 hn).elim⟩
  rw [if_neg c3]
  have he : L <+: L ++ [⟨v, lo, hi⟩] := List.prefix_append _ _
  refine ⟨⟨h.v0, h.v12, by simp; omega, ?_, ?_⟩, fun _ => ⟨⟨by simp; omega, by simp; omega⟩, ?_⟩⟩
  ·intro i x hx hm
   by_cases hil : i < L.length
   ·rw [List.getElem?_append_left hil] at hx
    rw [List.take_append_of_le_length (by omega)] at hm
    exact h.nd i x hx hm
   ·have hil : i = L.length := by
     have := (List.getElem?_eq_some_iff.1 hx).1
     simp at this
     omega
    subst hil
    have ex : x = ⟨v, lo, hi⟩ := by simpa using hx.symm
    subst ex
    rw [List.take_append_of_le_length (Nat.le_refl _), List.take_length] at hm
    exact dfind_none hf hm
  ·intro i x hx
   by_cases hil : i < L.length
   ·rw [List.getElem?_append_left hil] at hx
    obtain ⟨a1, a2, a3, a4, a5, a6, a7, a8, a9⟩ := h.ok _ _ hx
    have p1 : Pl L x.f1 := ⟨a3, by omega⟩
    have p2 : Pl L x.f2 := ⟨a5, by omega⟩
    rw [dvar_ext p1 he, dvar_ext p2 he]
    exact ⟨a1, a2, a3, a4, a5, a6, a7, a8, a9⟩
   ·have hil : i = L.length := by
     have := (List.getElem?_eq_some_iff.1 hx).1
     simp at this
     omega
    subst hil
    have ex : x = ⟨v, lo, hi⟩ := by simpa using hx.symm
    subst ex
    refine ⟨v0, v1, hl.1, hl.2, hh.1, hh.2, c2, ?_, ?_⟩
    ·rw [dvar_ext hl he]
     exact hvl
    ·rw [dvar_ext hh he]
     exact hvh
  ·show v ≤ dvar vars _ ((L.length : Int) + 2)
   unfold dvar
   rw [if_neg (by omega), show ((L.length : Int) + 2 - 2).toNat = L.length by omega, List.getD_eq_getElem?_getD]
   simp
/-- A tree whose leaves are places, its variables from m on, ascending. -/
def TOk (vars : Int) (L : List S71) : Int → DT → Prop
 | m, .leaf n => Pl L n ∧ m ≤ dvar vars L n
 | m, .fork v lo hi => m ≤ v ∧ 0 ≤ v ∧ v < vars ∧ TOk vars L (v + 1) lo ∧ TOk vars L (v + 1) hi
theorem TOk.ext {vars : Int} {L L2 : List S71} (he : L <+: L2) {t : DT} : ∀ {m : Int}, TOk vars L m t → TOk vars L2 m t := by
 induction t with
 | leaf n =>
  intro m h
  exact ⟨h.1.ext he, by rw [dvar_ext h.1 he]; exact h.2⟩
 | fork v lo hi ihl ihh =>
  intro m h
  exact ⟨h.1, h.2.1, h.2.2.1, ihl h.2.2.2.1, ihh h.2.2.2.2⟩
theorem dv_ins {vars : Int} {t : DT} : ∀ {L : List S71} {m : Int}, DV vars L → TOk vars L m t → DV vars (ins L t).1 ∧ (0 ≤ (ins L t).2 → Pl (ins L t).1 (ins L t).2 ∧ m ≤ dvar vars (ins L t).1 (ins L t).2) := by
 induction t with
 | leaf n =>
  intro L m h ht
  exact ⟨h, fun _ => ht⟩
 | fork v lo hi ihl ihh =>
  intro L m h ht
  obtain ⟨t1, t2, t3, t4, t5⟩ := ht
  unfold ins
  by_cases c : (ins L lo).2 < 0
  ·rw [if_pos c]
   exact ⟨h, fun hn => (neg1 hn).elim⟩
  rw [if_neg c]
  obtain ⟨d1, p1⟩ := ihl h t4
  obtain ⟨p1, q1⟩ := p1 (by omega)
  obtain ⟨d2, p2⟩ := ihh d1 (t5.ext (ins_ext _ _))
  by_cases c2 : (ins (ins L lo).1 hi).2 < 0
  ·have : dadd (ins (ins L lo).1 hi).1 v (ins L lo).2 (ins (ins L lo).1 hi).2 = ((ins (ins L lo).1 hi).1, -1) := by
    unfold dadd
    rw [if_pos (.inr c2)]
   rw [this]
   exact ⟨d2, fun hn => (neg1 hn).elim⟩
  obtain ⟨p2, q2⟩ := p2 (by omega)
  have he := ins_ext (ins L lo).1 hi
  obtain ⟨r1, r2⟩ := dv_dadd d2 (p1.ext he) p2 t2 t3 (by rw [dvar_ext p1 he]; omega) (by omega)
  exact ⟨r1, fun hn => ⟨(r2 hn).1, Int.le_trans t1 (r2 hn).2⟩⟩
/-! #### the reference's diagrams -/
theorem l1In_val (a b c : Int) : spec_l1In.f a b c = some (decide (b ≤ a ∧ a ≤ c)) := by
 unfold spec_l1In.f
 by_cases h : a ≥ b
 ·rw [if_pos h]
  congr 1
  rw [decide_eq_decide]
  constructor
  ·intro h2; exact ⟨h, h2⟩
  ·intro h2; exact h2.2
 ·rw [if_neg h]
  congr 1
  symm
  rw [decide_eq_false_iff_not]
  intro h2
  exact h h2.1
theorem rdF {L : List S71} {i : Nat} (h : i < L.length) : rd_T71 L (i : Int) = L[i] := by
 unfold rd_T71
 rw [Int.toNat_natCast, List.getD_eq_getElem?_getD, List.getElem?_eq_getElem h]
 rfl
theorem rdP {L : List S71} (n : Int) : rd_T71 L (n - 2) = L.getD (n - 2).toNat ⟨0, 0, 0⟩ := rfl
theorem l8Var_val (c : Int) {L : List S71} {n : Int} (hp : Pl L n) (hl : L.length ≤ 1000000000) : spec_l8Var.f c L n = some (dvar c L n) := by
 unfold spec_l8Var.f dvar
 have h1 := hp.1
 have h2 := hp.2
 by_cases h : n < 2
 ·rw [if_pos h, if_pos h]
 ·rw [if_neg h, if_neg h, w_id (by omega) (by omega), if_pos (by omega), if_pos (by omega), rdP]
/-- What the reference asks of a fork, the places of which are ahead of it. -/
def FOk (vars : Int) (L : List S71) (x : S71) (most : Int) : Prop := (0 ≤ x.f0 ∧ x.f0 ≤ vars - 1) ∧ (0 ≤ x.f1 ∧ x.f1 ≤ most) ∧ (0 ≤ x.f2 ∧ x.f2 ≤ most) ∧ x.f0 < dvar vars L x.f1 ∧ x.f0 < dvar vars L x.f2
theorem l8Fork_dec (vars : Int) (L : List S71) (x : S71) (most : Int) (hv : -9223372036854775807 ≤ vars ∧ vars ≤ 9223372036854775807) (hm : most ≤ (L.length : Int) + 1) (hl : L.length ≤ 1000000000) :
  ∃ b, Ev (fun k => spec_l8Fork.f k vars L x.f0 x.f1 x.f2 most) b ∧ (b = true ↔ FOk vars L x most) := by
 have hj : ∃ b, Ev (fun k => spec_l8Fork.j0 k true vars L x.f0 x.f1 x.f2) b ∧ b = false := ⟨false, Ev.step (Ev.pos rfl (Ev.val _)) (fun k => spec_l8Fork.j0.eq_2 ..), rfl⟩
 obtain ⟨b0, e0, rfl⟩ := hj
 unfold spec_l8Fork.f
 simp only [l1In_val, Option.bind_some, w_id (show -9223372036854775808 ≤ vars - 1 by omega) (by omega)]
 by_cases c1 : 0 ≤ x.f0 ∧ x.f0 ≤ vars - 1
 ·rw [decide_eq_true c1]
  by_cases c2 : 0 ≤ x.f1 ∧ x.f1 ≤ most
  ·rw [decide_eq_true c2]
   by_cases c3 : 0 ≤ x.f2 ∧ x.f2 ≤ most
   ·rw [decide_eq_true c3]
    have p1 : Pl L x.f1 := ⟨c2.1, by omega⟩
    have p2 : Pl L x.f2 := ⟨c3.1, by omega⟩
    by_cases c4 : x.f0 < dvar vars L x.f1
    ·refine ⟨decide (x.f0 < dvar vars L x.f2), Ev.pos rfl (Ev.pos rfl (Ev.step (Ev.neg (by decide) (Ev.bind (Ev.const (l8Var_val vars p1 hl)) (Ev.pos c4 (Ev.bind (Ev.const (l8Var_val vars p2 hl)) (Ev.val (decide (x.f0 < dvar vars L x.f2))))))) (fun k => spec_l8Fork.j0.eq_2 ..))), ?_⟩
     rw [decide_eq_true_eq]
     exact ⟨fun h => ⟨c1, c2, c3, c4, h⟩, fun h => h.2.2.2.2⟩
    ·refine ⟨false, Ev.pos rfl (Ev.pos rfl (Ev.step (Ev.neg (by decide) (Ev.bind (Ev.const (l8Var_val vars p1 hl)) (Ev.neg c4 (Ev.val _)))) (fun k => spec_l8Fork.j0.eq_2 ..))), ?_⟩
     exact ⟨fun h => (by cases h), fun h => absurd h.2.2.2.1 c4⟩
   ·rw [decide_eq_false c3]
    exact ⟨false, Ev.pos rfl (Ev.pos rfl e0), fun h => (by cases h), fun h => absurd h.2.2.1 c3⟩
  ·rw [decide_eq_false c2]
   exact ⟨false, Ev.pos rfl (Ev.neg (by decide) e0), fun h => (by cases h), fun h => absurd h.2.1 c2⟩
 ·rw [decide_eq_false c1]
  exact ⟨false, Ev.neg (by decide) e0, fun h => (by cases h), fun h => absurd h.1 c1⟩
/-- What is asked of the fork at i. -/
def OkAt (vars : Int) (L : List S71) (i : Nat) (h : i < L.length) : Prop := FOk vars L L[i] ((i : Int) + 1) ∧ L[i].f1 ≠ L[i].f2 ∧ L[i] ∉ L.take i
theorem dv_iff (vars : Int) (L : List S71) : DV vars L ↔ (0 ≤ vars ∧ vars ≤ 12) ∧ L.length ≤ 2000 ∧ ∀ i (h : i < L.length), OkAt vars L i h := by
 constructor
 ·intro h
  refine ⟨⟨h.v0, h.v12⟩, h.len, fun i hi => ?_⟩
  obtain ⟨a1, a2, a3, a4, a5, a6, a7, a8, a9⟩ := h.ok i _ (List.getElem?_eq_getElem hi)
  exact ⟨⟨⟨a1, by omega⟩, ⟨a3, a4⟩, ⟨a5, a6⟩, a8, a9⟩, a7, h.nd i _ (List.getElem?_eq_getElem hi)⟩
 ·rintro ⟨⟨h1, h2⟩, h3, h4⟩
  refine ⟨h1, h2, h3, fun i x hx => ?_, fun i x hx => ?_⟩
  ·obtain ⟨hi, rfl⟩ := List.getElem?_eq_some_iff.1 hx
   exact (h4 i hi).2.2
  ·obtain ⟨hi, rfl⟩ := List.getElem?_eq_some_iff.1 hx
   obtain ⟨⟨a1, a2, a3, a4, a5⟩, b, _⟩ := h4 i hi
   exact ⟨a1.1, by omega, a2.1, a2.2, a3.1, a3.2, b, a4, a5⟩
theorem eqF (a : S71) (p q r : Int) : ((a.f0 == p && (a.f1 == q && (a.f2 == r))) = true) ↔ a = ⟨p, q, r⟩ := by
 obtain ⟨x, y, z⟩ := a
 simp
theorem mem_take {L : List S71} {i : Nat} {x : S71} : x ∈ L.take i ↔ ∃ (j : Nat) (_ : j < i) (hl : j < L.length), L[j] = x := by
 rw [List.mem_iff_getElem?]
 constructor
 ·rintro ⟨j, hj⟩
  rw [List.getElem?_take] at hj
  split at hj
  ·next hji =>
   obtain ⟨hl, e⟩ := List.getElem?_eq_some_iff.1 hj
   exact ⟨j, hji, hl, e⟩
  ·cases hj
 ·rintro ⟨j, hji, hl, e⟩
  exact ⟨j, by rw [List.getElem?_take, if_pos hji, List.getElem?_eq_getElem hl, e]⟩
theorem sv_l1 (vars : Int) (L : List S71) (hl : L.length ≤ 2000) (i : Nat) (hi : i < L.length) (rest : Bool) (hrest : Ev (fun k => spec_DiagramValid.l0 k (wrap64 ((i : Int) + 1)) vars L) rest) : ∀ (d j : Nat), j + d = i → (∀ q (hq : q < L.length), q < j → L[q] ≠ L[i]) →
  Ev (fun k => spec_DiagramValid.l1 k (i : Int) (j : Int) vars L L[i].f0 L[i].f1 L[i].f2) (if L[i] ∈ L.take i then false else rest) := by
 intro d
 induction d with
 | zero =>
  intro j hj hn
  have : ¬ L[i] ∈ L.take i := fun h => by
   obtain ⟨q, h1, h2, h3⟩ := mem_take.1 h
   exact hn q h2 (by omega) h3
  rw [if_neg this]
  exact Ev.step (Ev.neg (by omega) hrest) (fun k => spec_DiagramValid.l1.eq_2 ..)
 | succ d ih =>
  intro j hj hn
  have hjl : j < L.length := by omega
  refine Ev.step ?_ (fun k => spec_DiagramValid.l1.eq_2 ..)
  refine Ev.pos (by omega) (Ev.pos (by omega) (Ev.pos (by omega) ?_))
  rw [rdF hjl]
  by_cases e : L[j] = L[i]
  ·rw [if_pos (mem_take.2 ⟨j, by omega, hjl, e⟩)]
   exact Ev.pos ((eqF _ _ _ _).2 e) (Ev.val _)
  ·refine Ev.neg (fun h => e ((eqF _ _ _ _).1 h)) ?_
   rw [w_id (by omega) (by omega), show (j : Int) + 1 = ((j + 1 : Nat) : Int) by omega]
   exact ih (j + 1) (by omega) (fun q hq hqj => by
    by_cases c : q = j
    ·subst c
     exact e
    ·exact hn q hq (by omega))
theorem sv_l0 (vars : Int) (L : List S71) (hv : 0 ≤ vars ∧ vars ≤ 12) (hl : L.length ≤ 2000) : ∀ (d i : Nat), i + d = L.length →
  ∃ b, Ev (fun k => spec_DiagramValid.l0 k (i : Int) vars L) b ∧ (b = true ↔ ∀ q (h : q < L.length), i ≤ q → OkAt vars L q h) := by
 intro d
 induction d with
 | zero =>
  intro i hi
  exact ⟨true, Ev.step (Ev.neg (by omega) (Ev.val _)) (fun k => spec_DiagramValid.l0.eq_2 ..), fun _ q h hq => absurd h (by omega), fun _ => rfl⟩
 | succ d ih =>
  intro i hi
  have hil : i < L.length := by omega
  obtain ⟨rest, er, hr⟩ := ih (i + 1) (by omega)
  have hw : wrap64 ((i : Int) + 1) = ((i + 1 : Nat) : Int) := by rw [w_id (by omega) (by omega)]; omega
  obtain ⟨b1, e1, h1⟩ := l8Fork_dec vars L L[i] ((i : Int) + 1) (by omega) (by omega) (by omega)
  have split_ : (∀ q (h : q < L.length), i ≤ q → OkAt vars L q h) ↔ OkAt vars L i hil ∧ ∀ q (h : q < L.length), i + 1 ≤ q → OkAt vars L q h := by
   constructor
   ·intro h
    exact ⟨h i hil (Nat.le_refl _), fun q hq hq2 => h q hq (by omega)⟩
   ·rintro ⟨ha, hb⟩ q hq hq2
    by_cases c : i = q
    ·subst c
     exact ha
    ·exact hb q hq (by omega)
  have e1' : Ev (fun k => spec_l8Fork.f k vars L (rd_T71 L (i : Int)).f0 (rd_T71 L (i : Int)).f1 (rd_T71 L (i : Int)).f2 (wrap64 ((i : Int) + 1))) b1 := by
   rw [rdF hil, w_id (by omega) (by omega)]
   exact e1
  have jt : ∀ b, Ev (fun k => spec_DiagramValid.j2 k (i : Int) b vars L (rd_T71 L (i : Int)).f0 (rd_T71 L (i : Int)).f1 (rd_T71 L (i : Int)).f2) (if b = true then false else if L[i] ∈ L.take i then false else rest) := by
   intro b
   refine Ev.step ?_ (fun k => spec_DiagramValid.j2.eq_2 ..)
   cases b with
   | true => exact Ev.pos rfl (Ev.val _)
   | false =>
    refine Ev.neg (by decide) ?_
    rw [rdF hil]
    exact sv_l1 vars L hl i hil rest (by rw [hw]; exact er) i 0 (by omega) (fun q _ hq => absurd hq (by omega))
  cases b1 with
  | false =>
   refine ⟨false, Ev.step (Ev.pos (by omega) (Ev.pos (by omega) (Ev.bind e1' (Ev.neg (by decide) (jt true))))) (fun k => spec_DiagramValid.l0.eq_2 ..), fun h => (by cases h), fun h => ?_⟩
   exact absurd (h1.2 (h i hil (Nat.le_refl _)).1) (by decide)
  | true =>
   refine ⟨_, Ev.step (Ev.pos (by omega) (Ev.pos (by omega) (Ev.bind e1' (Ev.pos rfl (jt _))))) (fun k => spec_DiagramValid.l0.eq_2 ..), ?_⟩
   rw [rdF hil, split_]
   by_cases c1 : L[i].f1 = L[i].f2
   ·rw [if_pos (beq_iff_eq.mpr c1)]
    exact ⟨fun h => (by cases h), fun h => absurd c1 h.1.2.1⟩
   ·rw [if_neg (by simpa using c1)]
    by_cases c2 : L[i] ∈ L.take i
    ·rw [if_pos c2]
     exact ⟨fun h => (by cases h), fun h => absurd c2 h.1.2.2⟩
    ·rw [if_neg c2, hr]
     exact ⟨fun h => ⟨⟨h1.1 rfl, c1, c2⟩, h⟩, fun h => h.2⟩
theorem spec_dv (vars : Int) (L : List S71) : ∃ b, Ev (fun k => spec_DiagramValid.f k vars L) b ∧ (b = true ↔ DV vars L) := by
 unfold spec_DiagramValid.f
 simp only [l1In_val, Option.bind_some]
 have e0 : Ev (fun k => spec_DiagramValid.j0 k true vars L) false := Ev.step (Ev.pos rfl (Ev.val _)) (fun k => spec_DiagramValid.j0.eq_2 ..)
 by_cases c1 : 0 ≤ vars ∧ vars ≤ 12
 ·rw [decide_eq_true c1]
  by_cases c2 : (L.length : Int) > 2000
  ·rw [decide_eq_true c2]
   exact ⟨false, Ev.pos rfl e0, fun h => (by cases h), fun h => by have := h.len; omega⟩
  ·rw [decide_eq_false c2]
   obtain ⟨b, hb, h2⟩ := sv_l0 vars L c1 (by omega) L.length 0 (by omega)
   refine ⟨b, Ev.pos rfl (Ev.step (Ev.neg (by decide) hb) (fun k => spec_DiagramValid.j0.eq_2 ..)), ?_⟩
   rw [h2, dv_iff]
   exact ⟨fun h => ⟨c1, by omega, fun i hi => h i hi (Nat.zero_le _)⟩, fun h q hq _ => h.2.2 q hq⟩
 ·rw [decide_eq_false c1]
  exact ⟨false, Ev.neg (by decide) e0, fun h => (by cases h), fun h => absurd ⟨h.v0, h.v12⟩ c1⟩
theorem copy_loop (vars : Int) (L : List S71) (hl : L.length ≤ 2000) : ∀ (d i : Nat), i + d = L.length → Ev (fun k => spec_l8Copy.l0 k (i : Int) vars L vars (L.take i)) (vars, L) := by
 intro d
 induction d with
 | zero =>
  intro i hi
  rw [List.take_of_length_le (by omega)]
  exact Ev.step (Ev.neg (by omega) (Ev.val _)) (fun k => spec_l8Copy.l0.eq_2 ..)
 | succ d ih =>
  intro i hi
  have hil : i < L.length := by omega
  refine Ev.step ?_ (fun k => spec_l8Copy.l0.eq_2 ..)
  rw [rdF hil, w_id (by omega) (by omega), show (i : Int) + 1 = ((i + 1 : Nat) : Int) by omega]
  refine Ev.pos (by omega) (Ev.pos (by omega) (Ev.pos (by rw [List.length_take]; omega) ?_))
  have e : L.take i ++ [(⟨L[i].f0, L[i].f1, L[i].f2⟩ : S71)] = L.take (i + 1) := by
   rw [List.take_add_one, List.getElem?_eq_getElem hil]
   rfl
  rw [e]
  exact ih (i + 1) (by omega)
theorem spec_copy (vars : Int) (L : List S71) (hl : L.length ≤ 2000) : Ev (fun k => spec_l8Copy.f k vars L) (vars, L) := copy_loop vars L hl L.length 0 (by omega)
theorem dfind_no {L : List S71} {x : S71} (hn : ∀ q (hq : q < L.length), L[q] ≠ x) : dfind L x = none := by
 unfold dfind
 rw [List.findIdx?_eq_none_iff]
 intro y hy
 obtain ⟨q, hq, rfl⟩ := List.mem_iff_getElem.1 hy
 simpa using hn q hq
/-! #### the program's diagrams -/
theorem in_val (a b c : Int) : impl_in.f a b c = some (decide (b ≤ a ∧ a ≤ c)) := by
 unfold impl_in.f
 by_cases h : a ≥ b
 ·rw [if_pos h]
  congr 1
  rw [decide_eq_decide]
  constructor
  ·intro h2; exact ⟨h, h2⟩
  ·intro h2; exact h2.2
 ·rw [if_neg h]
  congr 1
  symm
  rw [decide_eq_false_iff_not]
  intro h2
  exact h h2.1
theorem varAt_val (a : Int) {L : List S71} {n : Int} (hp : Pl L n) (hl : L.length ≤ 1000000000) : impl_Diagram_varAt.f a L n = some (dvar 12 L n) := by
 unfold impl_Diagram_varAt.f dvar
 have h1 := hp.1
 have h2 := hp.2
 by_cases h : n < 2
 ·rw [if_pos h, if_pos h]
 ·rw [if_neg h, if_neg h, w_id (by omega) (by omega), if_pos (by omega), if_pos (by omega), rdP]
def decPl (L : List S71) (n : Int) : Decidable (Pl L n) := inferInstanceAs (Decidable (_ ∧ _))
theorem isPlace_val (a : Int) {L : List S71} (n : Int) (hl : L.length ≤ 1000000000) : impl_Diagram_isPlace.f a L n = some (@decide (Pl L n) (decPl L n)) := by
 unfold impl_Diagram_isPlace.f
 rw [in_val, w_id (by omega) (by omega)]
 rfl
/-- Where variables are few, it is the same to what the constants are held. -/
theorem dvar_lt {vars v : Int} (L : List S71) (n : Int) (h : v < vars) (h12 : vars ≤ 12) : v < dvar 12 L n ↔ v < dvar vars L n := by
 unfold dvar
 split
 ·omega
 ·exact Iff.rfl
theorem keyI {n : Int} (h : 0 ≤ n) (h2 : n ≤ 1000000000) : KeyI n := ⟨h, by omega⟩
theorem iv_bad (vars : Int) (L : List S71) (hv : 0 ≤ vars ∧ vars ≤ 12) (hl : L.length ≤ 2000) (i : Nat) (hi : i < L.length) : ∃ b, impl_DiagramValid.bad vars L i L[i] = some b ∧ (b = false ↔ OkAt vars L i hi) := by
 unfold impl_DiagramValid.bad OkAt FOk
 simp only [in_val, Option.bind_some, w_id (show -9223372036854775808 ≤ vars - 1 by omega) (by omega), w_id (show -9223372036854775808 ≤ (i : Int) + 1 by omega) (by omega), decide_eq_false_iff_not]
 by_cases c1 : 0 ≤ L[i].f0 ∧ L[i].f0 ≤ vars - 1
 ·rw [if_neg (by simpa using c1)]
  by_cases c2 : 0 ≤ L[i].f1 ∧ L[i].f1 ≤ (i : Int) + 1
  ·rw [if_neg (by simpa using c2)]
   by_cases c3 : 0 ≤ L[i].f2 ∧ L[i].f2 ≤ (i : Int) + 1
   ·rw [if_neg (by simpa using c3)]
    have p1 : Pl L L[i].f1 := ⟨c2.1, by omega⟩
    have p2 : Pl L L[i].f2 := ⟨c3.1, by omega⟩
    by_cases c4 : L[i].f1 = L[i].f2
    ·rw [if_pos c4]
     exact ⟨true, rfl, fun h => (by cases h), fun h => absurd c4 h.2.1⟩
    ·rw [if_neg c4, varAt_val _ p1 (by omega), Option.bind_some]
     by_cases c5 : dvar 12 L L[i].f1 ≤ L[i].f0
     ·rw [if_pos c5]
      exact ⟨true, rfl, fun h => (by cases h), fun h => absurd ((dvar_lt L _ (by omega) hv.2).2 h.1.2.2.2.1) (by omega)⟩
     ·rw [if_neg c5, varAt_val _ p2 (by omega), Option.bind_some]
      by_cases c6 : dvar 12 L L[i].f2 ≤ L[i].f0
      ·rw [if_pos c6]
       exact ⟨true, rfl, fun h => (by cases h), fun h => absurd ((dvar_lt L _ (by omega) hv.2).2 h.1.2.2.2.2) (by omega)⟩
      ·rw [if_neg c6, if_pos ⟨keyI c1.1 (by omega), keyI c2.1 (by omega), keyI c3.1 (by omega)⟩]
       refine ⟨_, rfl, ?_⟩
       rw [decide_eq_false_iff_not]
       exact ⟨fun h => ⟨⟨c1, c2, c3, (dvar_lt L _ (by omega) hv.2).1 (by omega), (dvar_lt L _ (by omega) hv.2).1 (by omega)⟩, c4, h⟩, fun h => h.2.2⟩
   ·rw [if_pos (by simpa using c3)]
    exact ⟨true, rfl, fun h => (by cases h), fun h => absurd h.1.2.2.1 c3⟩
  ·rw [if_pos (by simpa using c2)]
   exact ⟨true, rfl, fun h => (by cases h), fun h => absurd h.1.2.1 c2⟩
 ·rw [if_pos (by simpa using c1)]
  exact ⟨true, rfl, fun h => (by cases h), fun h => absurd h.1.1 c1⟩
theorem iv_l0 (vars : Int) (L : List S71) (hv : 0 ≤ vars ∧ vars ≤ 12) (hl : L.length ≤ 2000) : ∀ (d i : Nat), i + d = L.length → ∃ b, impl_DiagramValid.l0 vars L d i = some b ∧ (b = true ↔ ∀ q (h : q < L.length), i ≤ q → OkAt vars L q h) := by
 intro d
 induction d with
 | zero =>
  intro i hi
  exact ⟨true, rfl, fun _ q h hq => absurd h (by omega), fun _ => rfl⟩
 | succ d ih =>
  intro i hi
  have hil : i < L.length := by omega
  obtain ⟨rest, er, hr⟩ := ih (i + 1) (by omega)
  obtain ⟨b, eb, hb⟩ := iv_bad vars L hv hl i hil
  unfold impl_DiagramValid.l0
  rw [rdF hil, eb, Option.bind_some]
  cases b with
  | true =>
   refine ⟨false, rfl, fun h => (by cases h), fun h => ?_⟩
   exact absurd (hb.2 (h i hil (Nat.le_refl _))) (by decide)
  | false =>
   refine ⟨rest, er, ?_⟩
   rw [hr]
   constructor
   ·intro h q hq hq2
    by_cases c : i = q
    ·subst c
     exact hb.1 rfl
    ·exact h q hq (by omega)
   ·intro h q hq hq2
    exact h q hq (by omega)
theorem impl_dv (vars : Int) (L : List S71) : ∃ b, impl_DiagramValid.f vars L = some b ∧ (b = true ↔ DV vars L) := by
 unfold impl_DiagramValid.f
 simp only [in_val, Option.bind_some]
 by_cases c1 : 0 ≤ vars ∧ vars ≤ 12
 ·rw [if_neg (by simpa using c1)]
  by_cases c2 : (L.length : Int) > 2000
  ·rw [if_pos c2]
   exact ⟨false, rfl, fun h => (by cases h), fun h => by have := h.len; omega⟩
  ·rw [if_neg c2]
   obtain ⟨b, hb, h2⟩ := iv_l0 vars L c1 (by omega) L.length 0 (by omega)
   refine ⟨b, hb, ?_⟩
   rw [h2, dv_iff]
   exact ⟨fun h => ⟨c1, by omega, fun i hi => h i hi (Nat.zero_le _)⟩, fun h q hq _ => h.2.2 q hq⟩
 ·rw [if_pos (by simpa using c1)]
  exact ⟨false, rfl, fun h => (by cases h), fun h => absurd ⟨h.v0, h.v12⟩ c1⟩
/-- Where each fork stands. -/
def seenP (L : List S71) (x : S71) : Option Int := (dfind L x).map (fun i => (i : Int) + 2)
theorem seen_take {L : List S71} (hn : NoDup L) : ∀ i, i ≤ L.length → impl_forkingOf.seen L i = seenP (L.take i) := by
 intro i
 induction i with
 | zero =>
  intro _
  funext x
  rfl
 | succ i ih =>
  intro hi
  have hil : i < L.length := by omega
  funext x
  show (if x = rd_T71 L (i : Int) then some ((i : Int) + 2) else impl_forkingOf.seen L i x) = _
  rw [rdF hil, ih (by omega)]
  have e : L.take (i + 1) = L.take i ++ [L[i]] := by
   rw [List.take_add_one, List.getElem?_eq_getElem hil]
   rfl
  have hlen : (L.take i).length = i := by rw [List.length_take]; omega
  have hno : dfind (L.take i) L[i] = none := by
   cases hd : dfind (L.take i) L[i] with
   | none => rfl
   | some j =>
    have := dfind_some hd
    exact absurd (List.mem_of_getElem? this) (hn i _ (List.getElem?_eq_getElem hil))
  unfold seenP
  rw [e]
  by_cases c : x = L[i]
  ·rw [if_pos c, c, dfind_new hno []]
   simp [hlen]
  ·rw [if_neg c]
   cases hd : dfind (L.take i) x with
   | some j => rw [dfind_append hd]
   | none =>
    have : dfind (L.take i ++ [L[i]]) x = none := dfind_no (fun q hq e2 => by
     by_cases hqi : q < (L.take i).length
     ·rw [List.getElem_append_left hqi] at e2
      exact dfind_none hd (e2 ▸ List.getElem_mem hqi)
     ·have hq' : q = (L.take i).length := by
       have := hq
       rw [List.length_append, List.length_singleton] at this
       omega
      subst hq'
      rw [List.getElem_append_right (Nat.le_refl _)] at e2
      simp at e2
      exact c e2.symm)
    rw [this]
theorem okF_of {vars : Int} {L : List S71} (h : DV vars L) {x : S71} (hx : x ∈ L) : okF x := by
 obtain ⟨i, hi⟩ := List.mem_iff_getElem?.1 hx
 obtain ⟨a1, a2, a3, a4, a5, a6, _⟩ := h.ok i x hi
 have := h.v12
 have := (List.getElem?_eq_some_iff.1 hi).1
 have := h.len
 exact ⟨keyI a1 (by omega), keyI a3 (by omega), keyI a5 (by omega)⟩
/-- A diagram that grows, as the program holds it: nothing is done with it yet that is not so. -/
def fs0 (vars : Int) (L : List S71) : FS := ⟨vars, L, seenP L, false, fun _ => none⟩
theorem clone_val (L : List S71) (h : L.length ≤ 1000000000) : impl_Fork_97.f L = some L := by
 unfold impl_Fork_97.f
 simp only [Option.bind_some, List.length_nil, List.nil_append]
 rw [if_pos (by omega)]
theorem clone2_val (L : List S71) (h : L.length ≤ 1000000000) : impl_Fork_98.f L = some L := by
 unfold impl_Fork_98.f
 rw [if_pos (by omega)]
theorem forkingOf_val {vars : Int} {L : List S71} (h : DV vars L) : impl_forkingOf.f vars L = some (fs0 vars L) := by
 unfold impl_forkingOf.f
 rw [clone_val L (by have := h.len; omega), Option.bind_some, if_pos (fun x hx => okF_of h hx), seen_take h.nd _ (Nat.le_refl _), List.take_length]
 rfl
theorem fork_val (s : FS) (v lo hi : Int) (hk : okF ⟨v, lo, hi⟩) (hlo : 0 ≤ lo) (hhi : 0 ≤ hi) (hs : s.seen = seenP s.forks) :
  ∃ s' r, impl_forking_fork.f s v lo hi = some (s', r) ∧ s'.vars = s.vars ∧ s'.memo = s.memo ∧ s'.seen = seenP s'.forks ∧ s'.forks = (dadd s.forks v lo hi).1 ∧ (if (dadd s.forks v lo hi).2 < 0 then s'.full = true ∧ r = 0 else s'.full = s.full ∧ r = (dadd s.forks v lo hi).2) := by
 unfold impl_forking_fork.f dadd
 rw [if_neg (show ¬ (lo < 0 ∨ hi < 0) by omega)]
 by_cases c1 : lo = hi
 ·rw [if_pos c1, if_pos c1]
  exact ⟨s, lo, rfl, rfl, rfl, hs, rfl, by rw [if_neg (by omega)]; exact ⟨rfl, rfl⟩⟩
 rw [if_neg c1, if_neg c1, if_pos hk, hs]
 cases hd : dfind s.forks ⟨v, lo, hi⟩ with
 | some i =>
  have e : seenP s.forks ⟨v, lo, hi⟩ = some ((i : Int) + 2) := by unfold seenP; rw [hd]; rfl
  rw [e]
  exact ⟨s, _, rfl, rfl, rfl, hs, rfl, by rw [if_neg (by show ¬ ((_ : Nat) : Int) + 2 < 0; omega)]; exact ⟨rfl, rfl⟩⟩
 | none =>
  have e : seenP s.forks ⟨v, lo, hi⟩ = none := by unfold seenP; rw [hd]; rfl
  rw [e]
  by_cases c2 : 2000 ≤ s.forks.length
  ·simp only
   rw [if_pos (by omega), if_pos c2]
   exact ⟨_, _, rfl, rfl, rfl, rfl, rfl, by rw [if_pos (show (-1 : Int) < 0 by decide)]; exact ⟨rfl, rfl⟩⟩
  ·simp only
   rw [if_neg (by omega), if_neg c2]
   refine ⟨_, _, rfl, rfl, rfl, ?_, rfl, by rw [if_neg (by show ¬ ((_ : Nat) : Int) + 2 < 0; omega)]; exact ⟨rfl, rfl⟩⟩
   funext y
   show (if y = ⟨v, lo, hi⟩ then some ((s.forks.length : Int) + 2) else seenP s.forks y) = seenP (s.forks ++ [⟨v, lo, hi⟩]) y
   unfold seenP
   by_cases c : y = ⟨v, lo, hi⟩
   ·rw [if_pos c, c, dfind_new hd []]
    rfl
   ·rw [if_neg c]
    cases hy : dfind s.forks y with
    | some j => rw [dfind_append hy]
    | none =>
     have : dfind (s.forks ++ [⟨v, lo, hi⟩]) y = none := dfind_no (fun q hq e2 => by
      by_cases hqi : q < s.forks.length
      ·rw [List.getElem_append_left hqi] at e2
       exact dfind_none hy (e2 ▸ List.getElem_mem hqi)
      ·have hq' : q = s.forks.length := by
        have := hq
        rw [List.length_append, List.length_singleton] at this
        omega
       subst hq'
       rw [List.getElem_append_right (Nat.le_refl _)] at e2
       simp at e2
       exact c e2.symm)
     rw [this]
theorem done_val (s : FS) (n : Int) (hl : s.forks.length ≤ 2000) : impl_forking_done.f s n = some (if s.full = true then (0, [], -1) else (s.vars, s.forks, n)) := by
 unfold impl_forking_done.f
 by_cases c : s.full = true
 ·rw [if_pos c, if_pos c]
 ·rw [if_neg c, if_neg c, clone2_val _ (by omega)]
  rfl
/-- A diagram and a place, or nothing and -1. -/
def told (vars : Int) (p : List S71 × Int) : Int × List S71 × Int := if p.2 < 0 then (0, [], -1) else (vars, p.1, p.2)
/-! #### what is done with two places, as a tree of decisions (0 and, 1 or, 2 exactly one) -/
def gat (L : List S71) (n v : Int) (hi : Bool) : Int :=
 if n < 2 then n else if (L.getD (n - 2).toNat ⟨0, 0, 0⟩).f0 = v then (if hi = true then (L.getD (n - 2).toNat ⟨0, 0, 0⟩).f2 else (L.getD (n - 2).toNat ⟨0, 0, 0⟩).f1) else n
def tv (op a b : Int) : Option Int :=
 if a < 2 ∧ b < 2 then some (if op = 0 then a * b else if op = 1 then (if a + b = 0 then 0 else 1) else (if a = b then 0 else 1))
 else if op = 0 ∧ (a = 0 ∨ b = 0) then some 0 else if op = 1 ∧ (a = 1 ∨ b = 1) then some 1 else none
def mn (a b : Int) : Int := if b < a then b else a
def doT (vars : Int) (L : List S71) (op : Int) : Nat → Int → Int → DT
 | 0, _, _ => .leaf 0
 | m + 1, a, b => match tv op a b with
  | some n => .leaf n
  | none => .fork (mn (dvar vars L a) (dvar vars L b)) (doT vars L op m (gat L a (mn (dvar vars L a) (dvar vars L b)) false) (gat L b (mn (dvar vars L a) (dvar vars L b)) false)) (doT vars L op m (gat L a (mn (dvar vars L a) (dvar vars L b)) true) (gat L b (mn (dvar vars L a) (dvar vars L b)) true))
theorem gat_ext {L L2 : List S71} {n : Int} (h : Pl L n) (he : L <+: L2) (v : Int) (hi : Bool) : gat L2 n v hi = gat L n v hi := by
 unfold gat
 by_cases h2 : n < 2
 ·rw [if_pos h2, if_pos h2]
 ·rw [if_neg h2, if_neg h2, getD_ext he (by have := h.2; omega)]
theorem gat_ok {vars : Int} {L : List S71} (h : DV vars L) {n v : Int} (hp : Pl L n) (hv : v ≤ dvar vars L n) (hvv : v < vars) (hi : Bool) : Pl L (gat L n v hi) ∧ v < dvar vars L (gat L n v hi) := by
 unfold gat
 by_cases h2 : n < 2
 ·rw [if_pos h2]
  refine ⟨hp, ?_⟩
  unfold dvar
  rw [if_pos h2]
  exact hvv
 ·rw [if_neg h2]
  obtain ⟨x, hx, hd, e, a0, a1, p1, p2, _, _, _, q1, q2⟩ := h.at_ hp h2
  rw [hd]
  by_cases c : x.f0 = v
  ·rw [if_pos c]
   cases hi with
   | true => rw [if_pos rfl]; exact ⟨p2, by omega⟩
   | false => rw [if_neg (by decide)]; exact ⟨p1, by omega⟩
  ·rw [if_neg c]
   exact ⟨hp, by omega⟩
theorem mn_le (a b : Int) : mn a b ≤ a ∧ mn a b ≤ b := by unfold mn; split <;> omega
theorem mn_or (a b : Int) : mn a b = a ∨ mn a b = b := by unfold mn; split <;> simp
theorem dvar_two {vars : Int} {L : List S71} (h : DV vars L) {n : Int} (hp : Pl L n) : dvar vars L n < vars ↔ ¬ n < 2 := by
 constructor
 ·intro h1 h2
  unfold dvar at h1
  rw [if_pos h2] at h1
  omega
 ·intro h2
  obtain ⟨x, _, _, e, _, a1, _⟩ := h.at_ hp h2
  omega
theorem tv_none {op a b : Int} (h : tv op a b = none) : ¬ (a < 2 ∧ b < 2) := by
 intro c
 unfold tv at h
 rw [if_pos c] at h
 cases h
theorem mn_lt {vars : Int} {L : List S71} (h : DV vars L) {a b : Int} (pa : Pl L a) (pb : Pl L b) (hc : ¬ (a < 2 ∧ b < 2)) : mn (dvar vars L a) (dvar vars L b) < vars ∧ 0 ≤ mn (dvar vars L a) (dvar vars L b) := by
 have h1 := mn_le (dvar vars L a) (dvar vars L b)
 have h2 := h.dvar_le pa
 have h3 := h.dvar_le pb
 refine ⟨?_, by rcases mn_or (dvar vars L a) (dvar vars L b) with e | e <;> rw [e] <;> omega⟩
 by_cases ca : a < 2
 ·have := (dvar_two h pb).2 (fun cb => hc ⟨ca, cb⟩)
  omega
 ·have := (dvar_two h pa).2 ca
  omega
theorem doT_ext {vars : Int} {L L2 : List S71} (h : DV vars L) (he : L <+: L2) (op : Int) : ∀ (m : Nat) (a b : Int), Pl L a → Pl L b → doT vars L2 op m a b = doT vars L op m a b := by
 intro m
 induction m with
 | zero => intro a b _ _; rfl
 | succ m ih =>
  intro a b pa pb
  unfold doT
  cases ht : tv op a b with
  | some n => rfl
  | none =>
   simp only
   rw [dvar_ext pa he, dvar_ext pb he]
   have hm := mn_lt h pa pb (tv_none ht)
   have hle := mn_le (dvar vars L a) (dvar vars L b)
   rw [gat_ext pa he, gat_ext pb he, gat_ext pa he, gat_ext pb he]
   rw [ih _ _ (gat_ok h pa hle.1 hm.1 false).1 (gat_ok h pb hle.2 hm.1 false).1, ih _ _ (gat_ok h pa hle.1 hm.1 true).1 (gat_ok h pb hle.2 hm.1 true).1]
/-- Rounds enough for these places. -/
def Enough (vars : Int) (L : List S71) (m : Nat) (a b : Int) : Prop := vars - mn (dvar vars L a) (dvar vars L b) < m
theorem enough_next {vars : Int} {L : List S71} (h : DV vars L) {m : Nat} {a b : Int} (pa : Pl L a) (pb : Pl L b) (hc : ¬ (a < 2 ∧ b < 2)) (hm : Enough vars L (m + 1) a b) (hi : Bool) : Enough vars L m (gat L a (mn (dvar vars L a) (dvar vars L b)) hi) (gat L b (mn (dvar vars L a) (dvar vars L b)) hi) := by
 have hv := mn_lt h pa pb hc
 have hle := mn_le (dvar vars L a) (dvar vars L b)
 have h1 := (gat_ok h pa hle.1 hv.1 hi).2
 have h2 := (gat_ok h pb hle.2 hv.1 hi).2
 unfold Enough at hm ⊢
 rcases mn_or (dvar vars L (gat L a (mn (dvar vars L a) (dvar vars L b)) hi)) (dvar vars L (gat L b (mn (dvar vars L a) (dvar vars L b)) hi)) with e | e <;> rw [e] <;> omega
theorem doT_same {vars : Int} {L : List S71} (h : DV vars L) (op : Int) : ∀ (m m2 : Nat) (a b : Int), Pl L a → Pl L b → Enough vars L m a b → Enough vars L m2 a b → doT vars L op m a b = doT vars L op m2 a b := by
 intro m
 induction m with
 | zero =>
  intro m2 a b pa pb h1 _
  have := mn_le (dvar vars L a) (dvar vars L b)
  have := (h.dvar_le pa).2
  unfold Enough at h1
  omega
 | succ m ih =>
  intro m2 a b pa pb h1 h2
  cases m2 with
  | zero =>
   have := mn_le (dvar vars L a) (dvar vars L b)
   have := (h.dvar_le pa).2
   unfold Enough at h2
   omega
  | succ m2 =>
   unfold doT
   cases ht : tv op a b with
   | some n => rfl
   | none =>
    simp only
    have hc := tv_none ht
    have hm := mn_lt h pa pb hc
    have hle := mn_le (dvar vars L a) (dvar vars L b)
    rw [ih m2 _ _ (gat_ok h pa hle.1 hm.1 false).1 (gat_ok h pb hle.2 hm.1 false).1 (enough_next h pa pb hc h1 false) (enough_next h pa pb hc h2 false), ih m2 _ _ (gat_ok h pa hle.1 hm.1 true).1 (gat_ok h pb hle.2 hm.1 true).1 (enough_next h pa pb hc h1 true) (enough_next h pa pb hc h2 true)]
theorem enough13 {vars : Int} {L : List S71} (h : DV vars L) {a b : Int} (pa : Pl L a) (pb : Pl L b) : Enough vars L 13 a b := by
 have := h.dvar_le pa
 have := h.dvar_le pb
 have := h.v12
 unfold Enough
 rcases mn_or (dvar vars L a) (dvar vars L b) with e | e <;> rw [e] <;> omega
/-- The tree of two places, whatever the rounds. -/
def doP (vars : Int) (L : List S71) (op a b : Int) : DT := doT vars L op 13 a b
theorem doP_ext {vars : Int} {L L2 : List S71} (h : DV vars L) (he : L <+: L2) (op : Int) {a b : Int} (pa : Pl L a) (pb : Pl L b) : doP vars L2 op a b = doP vars L op a b := doT_ext h he op 13 a b pa pb
theorem doP_leaf {vars : Int} {L : List S71} {op a b n : Int} (h : tv op a b = some n) : doP vars L op a b = .leaf n := by
 unfold doP doT
 rw [h]
theorem doP_fork {vars : Int} {L : List S71} (h : DV vars L) {op a b : Int} (pa : Pl L a) (pb : Pl L b) (ht : tv op a b = none) {v : Int} (hv : mn (dvar vars L a) (dvar vars L b) = v) :
  doP vars L op a b = .fork v (doP vars L op (gat L a v false) (gat L b v false)) (doP vars L op (gat L a v true) (gat L b v true)) := by
 subst hv
 have hc := tv_none ht
 have hm := mn_lt h pa pb hc
 have hle := mn_le (dvar vars L a) (dvar vars L b)
 have p1 := gat_ok h pa hle.1 hm.1
 have p2 := gat_ok h pb hle.2 hm.1
 unfold doP
 rw [doT.eq_2, ht]
 simp only
 rw [doT_same h op 12 13 _ _ (p1 false).1 (p2 false).1 (enough_next h pa pb hc (enough13 h pa pb) false) (enough13 h (p1 false).1 (p2 false).1), doT_same h op 12 13 _ _ (p1 true).1 (p2 true).1 (enough_next h pa pb hc (enough13 h pa pb) true) (enough13 h (p1 true).1 (p2 true).1)]
theorem tv_place {op a b n : Int} {L : List S71} (pa : Pl L a) (pb : Pl L b) (h : tv op a b = some n) : 0 ≤ n ∧ n ≤ 1 := by
 have a0 := pa.1
 have b0 := pb.1
 unfold tv at h
 by_cases c : a < 2 ∧ b < 2
 ·rw [if_pos c] at h
  have ha : a = 0 ∨ a = 1 := by omega
  have hb : b = 0 ∨ b = 1 := by omega
  simp only [Option.some.injEq] at h
  rcases ha with rfl | rfl <;> rcases hb with rfl | rfl <;> simp at h <;> (repeat' split at h) <;> omega
 ·rw [if_neg c] at h
  by_cases c2 : op = 0 ∧ (a = 0 ∨ b = 0)
  ·rw [if_pos c2] at h
   injection h with h
   omega
  ·rw [if_neg c2] at h
   by_cases c3 : op = 1 ∧ (a = 1 ∨ b = 1)
   ·rw [if_pos c3] at h
    injection h with h
    omega
   ·rw [if_neg c3] at h
    cases h
theorem dvar_const {vars : Int} {L : List S71} {n : Int} (h : n < 2) : dvar vars L n = vars := by
 unfold dvar
 rw [if_pos h]
theorem doT_ok {vars : Int} {L : List S71} (h : DV vars L) (op : Int) : ∀ (m : Nat) (a b : Int), Pl L a → Pl L b → TOk vars L (mn (dvar vars L a) (dvar vars L b)) (doT vars L op m a b) := by
 have leaf : ∀ (a b n : Int), Pl L a → 0 ≤ n → n ≤ 1 → TOk vars L (mn (dvar vars L a) (dvar vars L b)) (.leaf n) := fun a b n pa n0 n1 => by
  have := mn_le (dvar vars L a) (dvar vars L b)
  have := (h.dvar_le pa).2
  have hp : Pl L n := ⟨n0, by omega⟩
  have hd : dvar vars L n = vars := dvar_const (by omega)
  exact ⟨hp, by rw [hd]; omega⟩
 intro m
 induction m with
 | zero =>
  intro a b pa pb
  exact leaf a b 0 pa (by omega) (by omega)
 | succ m ih =>
  intro a b pa pb
  unfold doT
  cases ht : tv op a b with
  | some n =>
   have := tv_place pa pb ht
   exact leaf a b n pa this.1 this.2
  | none =>
   have hm := mn_lt h pa pb (tv_none ht)
   have hle := mn_le (dvar vars L a) (dvar vars L b)
   have mono : ∀ (t : DT) (x y : Int), y ≤ x → TOk vars L x t → TOk vars L y t := fun t x y hxy ht => by
    cases t with
    | leaf n => exact ⟨ht.1, by have := ht.2; omega⟩
    | fork v lo hi => exact ⟨by have := ht.1; omega, ht.2⟩
   have key : ∀ hi, TOk vars L (mn (dvar vars L a) (dvar vars L b) + 1) (doT vars L op m (gat L a (mn (dvar vars L a) (dvar vars L b)) hi) (gat L b (mn (dvar vars L a) (dvar vars L b)) hi)) := fun hi => by
    have g1 := gat_ok h pa hle.1 hm.1 hi
    have g2 := gat_ok h pb hle.2 hm.1 hi
    refine mono _ _ _ ?_ (ih _ _ g1.1 g2.1)
    rcases mn_or (dvar vars L (gat L a (mn (dvar vars L a) (dvar vars L b)) hi)) (dvar vars L (gat L b (mn (dvar vars L a) (dvar vars L b)) hi)) with e | e <;> rw [e] <;> omega
   exact ⟨Int.le_refl _, hm.2, hm.1, key false, key true⟩
theorem doP_dv {vars : Int} {L : List S71} (h : DV vars L) (op : Int) {a b : Int} (pa : Pl L a) (pb : Pl L b) : DV vars (ins L (doP vars L op a b)).1 ∧ (0 ≤ (ins L (doP vars L op a b)).2 → Pl (ins L (doP vars L op a b)).1 (ins L (doP vars L op a b)).2 ∧ mn (dvar vars L a) (dvar vars L b) ≤ dvar vars (ins L (doP vars L op a b)).1 (ins L (doP vars L op a b)).2) := dv_ins h (doT_ok h op 13 a b pa pb)
/-! #### what is done with two places: the reference and the program -/
theorem add_val (vars v lo hi : Int) (L : List S71) (hl : L.length ≤ 2000) : spec_l8Add.f vars L v lo hi = some (vars, (dadd L v lo hi).1, (dadd L v lo hi).2) := by
 unfold spec_l8Add.f dadd
 by_cases c1 : lo < 0 ∨ hi < 0
 ·rw [if_pos c1, if_pos c1]
 rw [if_neg c1, if_neg c1]
 by_cases c2 : lo = hi
 ·rw [if_pos c2, if_pos c2]
 rw [if_neg c2, if_neg c2, if_pos (show L.length ≤ 1000000000000 by omega)]
 show (match dfind L ⟨v, lo, hi⟩ with | some i => _ | none => _) = _
 cases dfind L ⟨v, lo, hi⟩ with
 | some i => rfl
 | none =>
  simp only
  by_cases c3 : 2000 ≤ L.length
  ·rw [if_pos c3, if_pos c3]
  ·rw [if_neg c3, if_neg c3]
theorem l8At_val {vars v : Int} {L : List S71} (h : DV vars L) {n : Int} (hp : Pl L n) (hv : v < vars) (bit : Int) : spec_l8At.f vars L n v bit = some (gat L n v (decide (bit = 1))) := by
 have hl := h.len
 have h0 := hp.1
 have h1 := hp.2
 unfold spec_l8At.f gat
 rw [l8Var_val vars hp (by omega), Option.bind_some]
 unfold dvar
 by_cases c : n < 2
 ·rw [if_pos c, if_pos c, if_neg (by omega)]
 ·rw [if_neg c, if_neg c, w_id (by omega) (by omega), rdP]
  by_cases c2 : (L.getD (n - 2).toNat ⟨0, 0, 0⟩).f0 = v
  ·rw [if_pos c2, if_pos c2]
   by_cases c3 : bit = 1
   ·rw [if_pos c3, if_pos (show decide (bit = 1) = true from decide_eq_true c3), if_pos (show 0 ≤ n - 2 by omega), if_pos (show n - 2 < (L.length : Int) by omega)]
   ·rw [if_neg c3, if_neg (show ¬ decide (bit = 1) = true by simpa using c3), if_pos (show 0 ≤ n - 2 by omega), if_pos (show n - 2 < (L.length : Int) by omega)]
  ·rw [if_neg c2, if_neg c2]
theorem val_tv {op a b : Int} (ho : op = 0 ∨ op = 1 ∨ op = 2) (ha : a = 0 ∨ a = 1) (hb : b = 0 ∨ b = 1) : tv op a b = some (spec_l8Do.val op a b) := by
 rcases ho with rfl | rfl | rfl <;> rcases ha with rfl | rfl <;> rcases hb with rfl | rfl <;> first | rfl | simp [tv, spec_l8Do.val, spec_l8Do.row, rd, wrap64]
theorem ins_fork (L : List S71) (v : Int) (lo hi : DT) : ins L (.fork v lo hi) = if (ins L lo).2 < 0 then (L, -1) else dadd (ins (ins L lo).1 hi).1 v (ins L lo).2 (ins (ins L lo).1 hi).2 := by rw [ins]
theorem spec_do {vars op : Int} (ho : op = 0 ∨ op = 1 ∨ op = 2) : ∀ (m : Nat) (L : List S71) (a b : Int), DV vars L → Pl L a → Pl L b → Enough vars L m a b →
  Ev (fun k => spec_l8Do.f k vars L op a b) (vars, (ins L (doP vars L op a b)).1, (ins L (doP vars L op a b)).2) := by
 intro m
 induction m with
 | zero =>
  intro L a b h pa pb h1
  have := mn_le (dvar vars L a) (dvar vars L b)
  have := (h.dvar_le pa).2
  unfold Enough at h1
  omega
 | succ m ih =>
  intro L a b h pa pb hm
  refine Ev.step ?_ (fun k => spec_l8Do.f.eq_2 ..)
  by_cases c1 : a < 2 ∧ b < 2
  ·have hv := val_tv ho (show a = 0 ∨ a = 1 by have := pa.1; omega) (show b = 0 ∨ b = 1 by have := pb.1; omega)
   rw [doP_leaf hv]
   exact Ev.pos c1 (Ev.pos (by omega) (Ev.val _))
  by_cases c2 : op = 0 ∧ (a = 0 ∨ b = 0)
  ·rw [doP_leaf (n := 0) (by unfold tv; rw [if_neg c1, if_pos c2])]
   exact Ev.neg c1 (Ev.pos c2 (Ev.val _))
  by_cases c3 : op = 1 ∧ (a = 1 ∨ b = 1)
  ·rw [doP_leaf (n := 1) (by unfold tv; rw [if_neg c1, if_neg c2, if_pos c3])]
   exact Ev.neg c1 (Ev.neg c2 (Ev.pos c3 (Ev.val _)))
  have ht : tv op a b = none := by unfold tv; rw [if_neg c1, if_neg c2, if_neg c3]
  obtain ⟨v, hv⟩ : ∃ v, mn (dvar vars L a) (dvar vars L b) = v := ⟨_, rfl⟩
  have hvv := mn_lt h pa pb c1
  have hle := mn_le (dvar vars L a) (dvar vars L b)
  have en := enough_next h pa pb c1 hm
  rw [hv] at hvv hle en
  rw [doP_fork h pa pb ht hv]
  have hl := h.len
  have g1 := gat_ok h pa hle.1 hvv.1
  have g2 := gat_ok h pb hle.2 hvv.1
  refine Ev.neg c1 (Ev.neg c2 (Ev.neg c3 (Ev.bind (Ev.const (l8Var_val vars pa (by omega))) (Ev.bind (Ev.const (l8Var_val vars pb (by omega))) ?_))))
  simp only [show (if dvar vars L b < dvar vars L a then dvar vars L b else dvar vars L a) = v from hv]
  refine Ev.bind (Ev.const (show spec_l8At.f vars L a v 0 = some (gat L a v false) from l8At_val h pa hvv.1 0)) (Ev.bind (Ev.const (show spec_l8At.f vars L b v 0 = some (gat L b v false) from l8At_val h pb hvv.1 0)) (Ev.bind (ih L _ _ h (g1 false).1 (g2 false).1 (en false)) ?_))
  obtain ⟨d1, p1⟩ := doP_dv h op (g1 false).1 (g2 false).1
  have e1 := ins_ext L (doP vars L op (gat L a v false) (gat L b v false))
  rw [ins_fork]
  by_cases c4 : (ins L (doP vars L op (gat L a v false) (gat L b v false))).2 < 0
  ·rw [if_pos c4]
   exact Ev.pos c4 (Ev.val _)
  rw [if_neg c4]
  refine Ev.neg c4 (Ev.bind (Ev.const (show spec_l8At.f vars L a v 1 = some (gat L a v true) from l8At_val h pa hvv.1 1)) (Ev.bind (Ev.const (show spec_l8At.f vars L b v 1 = some (gat L b v true) from l8At_val h pb hvv.1 1)) ?_))
  have ih2 := ih (ins L (doP vars L op (gat L a v false) (gat L b v false))).1 (gat L a v true) (gat L b v true) d1 ((g1 true).1.ext e1) ((g2 true).1.ext e1) (by
   have := en true
   unfold Enough at this ⊢
   rw [dvar_ext (g1 true).1 e1, dvar_ext (g2 true).1 e1]
   exact this)
  obtain ⟨d2, _⟩ := doP_dv d1 op ((g1 true).1.ext e1) ((g2 true).1.ext e1)
  rw [doP_ext h e1 op (g1 true).1 (g2 true).1] at ih2 d2
  exact Ev.bind ih2 (Ev.const (add_val vars v _ _ _ d2.len))
theorem place_val {vars : Int} (L : List S71) (n : Int) (hl : L.length ≤ 1000000000) : spec_l8Place.f vars L n = some (@decide (Pl L n) (decPl L n)) := by
 unfold spec_l8Place.f
 rw [l1In_val, w_id (by omega) (by omega)]
 rfl
theorem goes_val {vars v : Int} {s : FS} (hs : s.vars = vars) (h : DV vars s.forks) {n : Int} (hp : Pl s.forks n) (hv : v < vars) (bit : Int) : impl_forking_goes.f s n v bit = some (gat s.forks n v (decide (bit = 1))) := by
 have hl := h.len
 have h0 := hp.1
 have h1 := hp.2
 have h12 := h.v12
 unfold impl_forking_goes.f gat
 rw [varAt_val s.vars hp (by omega), Option.bind_some]
 unfold dvar
 by_cases c : n < 2
 ·rw [if_pos c, if_pos c, if_neg (by omega)]
 ·rw [if_neg c, if_neg c, w_id (by omega) (by omega), rdP]
  by_cases c2 : (s.forks.getD (n - 2).toNat ⟨0, 0, 0⟩).f0 = v
  ·rw [if_pos c2, if_pos c2]
   by_cases c3 : bit = 1
   ·rw [if_pos c3, if_pos (show decide (bit = 1) = true from decide_eq_true c3), if_pos (show 0 ≤ n - 2 by omega), if_pos (show n - 2 < (s.forks.length : Int) by omega)]
   ·rw [if_neg c3, if_neg (show ¬ decide (bit = 1) = true by simpa using c3), if_pos (show 0 ≤ n - 2 by omega), if_pos (show n - 2 < (s.forks.length : Int) by omega)]
  ·rw [if_neg c2, if_neg c2]
/-- The program's number of an operation, as the reference's. -/
def so (op : Int) : Int := if op = 0 then 2 else op - 1
structure Inv (vars : Int) (s : FS) : Prop where
 vs : s.vars = vars
 dv : DV vars s.forks
 seen : s.seen = seenP s.forks
 memo : s.full = false → ∀ op a b n, s.memo (op, a, b) = some n → Pl s.forks a ∧ Pl s.forks b ∧ 0 ≤ n ∧ ins s.forks (doP vars s.forks (so op) a b) = (s.forks, n)
/-- What is asked of the places of an operation. -/
def OpOk (op b : Int) : Prop := op = 0 ∧ b = 1 ∨ op = 1 ∨ op = 2
theorem dvar12 {vars : Int} {L : List S71} {n : Int} (c : ¬ n < 2) : dvar 12 L n = dvar vars L n := by
 unfold dvar
 rw [if_neg c, if_neg c]
theorem mn12 {vars : Int} {L : List S71} (h : DV vars L) {a b : Int} (pa : Pl L a) (pb : Pl L b) (hc : ¬ (a < 2 ∧ b < 2)) : mn (dvar 12 L a) (dvar 12 L b) = mn (dvar vars L a) (dvar vars L b) := by
 have h12 := h.v12
 by_cases ca : a < 2
 ·have cb : ¬ b < 2 := fun cb => hc ⟨ca, cb⟩
  have := (dvar_two h pb).2 cb
  rw [dvar12 (vars := vars) cb, dvar_const (vars := 12) ca, dvar_const (vars := vars) ca]
  unfold mn
  rw [if_pos (by omega), if_pos this]
 ·by_cases cb : b < 2
  ·have := (dvar_two h pa).2 ca
   rw [dvar12 (vars := vars) ca, dvar_const (vars := 12) cb, dvar_const (vars := vars) cb]
   unfold mn
   rw [if_neg (by omega), if_neg (by omega)]
  ·rw [dvar12 (vars := vars) ca, dvar12 (vars := vars) cb]
/-- What the program's terminal cases say. -/
theorem tv_not {a : Int} (ha : a = 0 ∨ a = 1) : tv (so 0) a 1 = some (wrap64 (1 - a)) := by rcases ha with rfl | rfl <;> first | rfl | simp [tv, so, wrap64]
theorem tv_edge {op a b : Int} {L : List S71} (pa : Pl L a) (pb : Pl L b) (h : op = 1 ∧ (a = 0 ∨ b = 0) ∨ op = 2 ∧ (a = 1 ∨ b = 1)) : tv (so op) a b = some (wrap64 (op - 1)) := by
 have a0 := pa.1
 have b0 := pb.1
 rcases h with ⟨rfl, h⟩ | ⟨rfl, h⟩
 ·rw [show so 1 = 0 from rfl, show wrap64 ((1 : Int) - 1) = 0 by simp [wrap64]]
  unfold tv
  by_cases c : a < 2 ∧ b < 2
  ·rw [if_pos c, if_pos rfl]
   rcases h with rfl | rfl <;> simp
  ·rw [if_neg c, if_pos ⟨rfl, h⟩]
 ·rw [show so 2 = 1 from rfl, show wrap64 ((2 : Int) - 1) = 1 by simp [wrap64]]
  unfold tv
  by_cases c : a < 2 ∧ b < 2
  ·rw [if_pos c, if_neg (by decide), if_pos rfl, if_neg (by omega)]
  ·rw [if_neg c, if_neg (by omega), if_pos ⟨rfl, h⟩]
theorem tv_rest {op a b : Int} {L : List S71} (pa : Pl L a) (pb : Pl L b) (ho : op = 1 ∨ op = 2) (h : ¬ (op = 1 ∧ (a = 0 ∨ b = 0) ∨ op = 2 ∧ (a = 1 ∨ b = 1))) (c : a < 2 ∧ b < 2) : tv (so op) a b = some a := by
 have a0 := pa.1
 have b0 := pb.1
 rcases ho with rfl | rfl
 ·have : a = 1 ∧ b = 1 := by omega
  obtain ⟨rfl, rfl⟩ := this
  first | rfl | simp [tv, so]
 ·have : a = 0 ∧ b = 0 := by omega
  obtain ⟨rfl, rfl⟩ := this
  first | rfl | simp [tv, so]
theorem tv_open {op a b : Int} {L : List S71} (pa : Pl L a) (pb : Pl L b) (ho : OpOk op b) (h0 : ¬ (op = 0 ∧ a < 2)) (h : ¬ (op = 1 ∧ (a = 0 ∨ b = 0) ∨ op = 2 ∧ (a = 1 ∨ b = 1))) (c : ¬ (op ≠ 0 ∧ a < 2 ∧ b < 2)) : tv (so op) a b = none := by
 have hn : ¬ (a < 2 ∧ b < 2) := by
  intro hh
  rcases ho with ⟨rfl, _⟩ | rfl | rfl
  ·exact h0 ⟨rfl, hh.1⟩
  ·exact c ⟨by decide, hh⟩
  ·exact c ⟨by decide, hh⟩
 unfold tv
 rw [if_neg hn]
 rcases ho with ⟨rfl, _⟩ | rfl | rfl
 ·rfl
 ·show (if (0 : Int) = 0 ∧ (a = 0 ∨ b = 0) then some 0 else _) = none
  rw [if_neg (fun hh => h (.inl ⟨rfl, hh.2⟩))]
  rfl
 ·show (if (1 : Int) = 0 ∧ (a = 0 ∨ b = 0) then some 0 else if (1 : Int) = 1 ∧ (a = 1 ∨ b = 1) then some 1 else none) = none
  rw [if_neg (by omega), if_neg (fun hh => h (.inr ⟨rfl, hh.2⟩))]
theorem opok_gat {op b : Int} (ho : OpOk op b) (L : List S71) (v : Int) (hi : Bool) : OpOk op (gat L b v hi) := by
 rcases ho with ⟨rfl, rfl⟩ | h | h
 ·exact .inl ⟨rfl, by unfold gat; rw [if_pos (by decide)]⟩
 ·exact .inr (.inl h)
 ·exact .inr (.inr h)
theorem apply_put {vars op a b r : Int} {s : FS} (hi : Inv vars s) (hp : s.full = false → Pl s.forks a ∧ Pl s.forks b ∧ 0 ≤ r ∧ ins s.forks (doP vars s.forks (so op) a b) = (s.forks, r)) : Inv vars (impl_forking_apply.put s (op, a, b) r) := by
 refine ⟨hi.vs, hi.dv, hi.seen, fun hf op2 a2 b2 n hm => ?_⟩
 have hm2 : (if (op2, a2, b2) = (op, a, b) then some r else s.memo (op2, a2, b2)) = some n := hm
 by_cases c : (op2, a2, b2) = (op, a, b)
 ·rw [if_pos c] at hm2
  injection hm2 with hm2
  subst hm2
  simp only [Prod.mk.injEq] at c
  obtain ⟨rfl, rfl, rfl⟩ := c
  exact hp hf
 ·rw [if_neg c] at hm2
  exact hi.memo hf op2 a2 b2 n hm2
theorem apply_val {vars op : Int} : ∀ (m : Nat) (s : FS) (a b : Int), OpOk op b → Inv vars s → Pl s.forks a → Pl s.forks b → Enough vars s.forks m a b →
  ∃ s' r, Ev (fun k => impl_forking_apply.f k s op a b) (s', r) ∧ Inv vars s' ∧ s.forks <+: s'.forks ∧ (s.full = true → s'.full = true) ∧ (s.full = false → (ins s.forks (doP vars s.forks (so op) a b)).2 < 0 → s'.full = true) ∧
   (s.full = false → 0 ≤ (ins s.forks (doP vars s.forks (so op) a b)).2 → s'.full = false ∧ s'.forks = (ins s.forks (doP vars s.forks (so op) a b)).1 ∧ r = (ins s.forks (doP vars s.forks (so op) a b)).2) := by
 intro m
 induction m with
 | zero =>
  intro s a b _ hi pa pb h1
  have := mn_le (dvar vars s.forks a) (dvar vars s.forks b)
  have := (hi.dv.dvar_le pa).2
  unfold Enough at h1
  omega
 | succ m ih =>
  intro s a b ho hi pa pb hm
  have h := hi.dv
  have hl := h.len
  have leaf : ∀ n, tv (so op) a b = some n → Ev (fun k => impl_forking_apply.f k s op a b) (s, n) → ∃ s' r, Ev (fun k => impl_forking_apply.f k s op a b) (s', r) ∧ Inv vars s' ∧ s.forks <+: s'.forks ∧ (s.full = true → s'.full = true) ∧ (s.full = false → (ins s.forks (doP vars s.forks (so op) a b)).2 < 0 → s'.full = true) ∧ (s.full = false → 0 ≤ (ins s.forks (doP vars s.forks (so op) a b)).2 → s'.full = false ∧ s'.forks = (ins s.forks (doP vars s.forks (so op) a b)).1 ∧ r = (ins s.forks (doP vars s.forks (so op) a b)).2) := fun n ht he => by
   have hn := tv_place pa pb ht
   rw [doP_leaf ht]
   exact ⟨s, n, he, hi, List.prefix_refl _, id, fun _ hh => absurd (show n < 0 from hh) (by omega), fun hf _ => ⟨hf, rfl, rfl⟩⟩
  by_cases c0 : op = 0 ∧ a < 2
  ·have hb : b = 1 := by rcases ho with hh | hh | hh <;> omega
   subst hb
   refine leaf (wrap64 (1 - a)) ?_ (Ev.step (Ev.pos c0 (Ev.val _)) (fun k => impl_forking_apply.f.eq_2 ..))
   rw [c0.1]
   exact tv_not (by have := pa.1; omega)
  by_cases c1 : op = 1 ∧ (a = 0 ∨ b = 0) ∨ op = 2 ∧ (a = 1 ∨ b = 1)
  ·exact leaf (wrap64 (op - 1)) (tv_edge pa pb c1) (Ev.step (Ev.neg c0 (Ev.pos c1 (Ev.val _))) (fun k => impl_forking_apply.f.eq_2 ..))
  by_cases c2 : op ≠ 0 ∧ a < 2 ∧ b < 2
  ·exact leaf a (tv_rest pa pb (by rcases ho with hh | hh | hh; exact absurd hh.1 c2.1; exact .inl hh; exact .inr hh) c1 c2.2) (Ev.step (Ev.neg c0 (Ev.neg c1 (Ev.pos c2 (Ev.val _)))) (fun k => impl_forking_apply.f.eq_2 ..))
  have ht := tv_open pa pb ho c0 c1 c2
  have hc := tv_none ht
  have hk : ok3 (op, a, b) := show KeyI op ∧ KeyI a ∧ KeyI b from ⟨keyI (by rcases ho with hh | hh | hh <;> omega) (by rcases ho with hh | hh | hh <;> omega), keyI pa.1 (by have := pa.2; omega), keyI pb.1 (by have := pb.2; omega)⟩
  cases hmem : s.memo (op, a, b) with
  | some n =>
   refine ⟨s, n, Ev.step (Ev.neg c0 (Ev.neg c1 (Ev.neg c2 (Ev.pos hk ?_)))) (fun k => impl_forking_apply.f.eq_2 ..), hi, List.prefix_refl _, id, ?_, ?_⟩
   ·rw [hmem]
    exact Ev.val _
   ·intro hf hh
    obtain ⟨_, _, h3, h4⟩ := hi.memo hf op a b n hmem
    rw [h4] at hh
    exact absurd (show n < 0 from hh) (by omega)
   ·intro hf _
    obtain ⟨_, _, h3, h4⟩ := hi.memo hf op a b n hmem
    rw [h4]
    exact ⟨hf, rfl, rfl⟩
  | none =>
   obtain ⟨v, hv⟩ : ∃ v, mn (dvar vars s.forks a) (dvar vars s.forks b) = v := ⟨_, rfl⟩
   have hvv := mn_lt h pa pb hc
   have hle := mn_le (dvar vars s.forks a) (dvar vars s.forks b)
   have en := enough_next h pa pb hc hm
   rw [hv] at hvv hle en
   have g1 := gat_ok h pa hle.1 hvv.1
   have g2 := gat_ok h pb hle.2 hvv.1
   have hT := doP_fork h pa pb ht hv
   have hvar : (if op = 0 then some (dvar 12 s.forks a) else (impl_Diagram_varAt.f s.vars s.forks b).bind fun vb => some (if vb < dvar 12 s.forks a then vb else dvar 12 s.forks a)) = some v := by
    by_cases co : op = 0
    ·have hb : b = 1 := by rcases ho with hh | hh | hh <;> omega
     rw [if_pos co, ← hv]
     have ca : ¬ a < 2 := fun hh => c0 ⟨co, hh⟩
     have := (dvar_two h pa).2 ca
     rw [dvar12 (vars := vars) ca]
     unfold mn
     rw [hb, dvar_const (vars := vars) (show (1 : Int) < 2 by decide), if_neg (by omega)]
    ·rw [if_neg co, varAt_val s.vars pb (by omega), Option.bind_some]
     rw [← hv, ← mn12 h pa pb hc]
     rfl
   -- the low side
   obtain ⟨s1, r1, ev1, i1, x1, f1, n1, y1⟩ := ih s (gat s.forks a v false) (gat s.forks b v false) (opok_gat ho _ _ _) hi (g1 false).1 (g2 false).1 (en false)
   have en1 : Enough vars s1.forks m (gat s.forks a v true) (gat s.forks b v true) := by
    have := en true
    unfold Enough at this ⊢
    rw [dvar_ext (g1 true).1 x1, dvar_ext (g2 true).1 x1]
    exact this
   obtain ⟨s2, r2, ev2, i2, x2, f2, n2, y2⟩ := ih s1 (gat s.forks a v true) (gat s.forks b v true) (opok_gat ho _ _ _) i1 ((g1 true).1.ext x1) ((g2 true).1.ext x1) en1
   rw [doP_ext h x1 (so op) (g1 true).1 (g2 true).1] at n2 y2
   have e2 := x1.trans x2
   have walk : ∀ s3 r3, Ev (fun _ : Nat => if s2.full = true then some (s2, 0) else (impl_forking_fork.f s2 v r1 r2).bind fun p3 => some (impl_forking_apply.put p3.1 (op, a, b) p3.2, p3.2)) (s3, r3) → Ev (fun k => impl_forking_apply.f k s op a b) (s3, r3) := fun s3 r3 hh => by
    refine Ev.step (Ev.neg c0 (Ev.neg c1 (Ev.neg c2 (Ev.pos hk ?_)))) (fun k => impl_forking_apply.f.eq_2 ..)
    rw [hmem]
    refine Ev.bind (Ev.const (varAt_val s.vars pa (by omega))) ?_
    simp only [hvar, Option.bind_some]
    unfold impl_forking_apply.two
    have ga : impl_forking_goes.f s1 a v 1 = some (gat s.forks a v true) := by rw [goes_val i1.vs i1.dv (pa.ext x1) hvv.1, gat_ext pa x1]; rfl
    have gb : impl_forking_goes.f s1 b v 1 = some (gat s.forks b v true) := by rw [goes_val i1.vs i1.dv (pb.ext x1) hvv.1, gat_ext pb x1]; rfl
    exact Ev.bind (Ev.const (show impl_forking_goes.f s a v 0 = some (gat s.forks a v false) from goes_val hi.vs h pa hvv.1 0)) (Ev.bind (Ev.const (show impl_forking_goes.f s b v 0 = some (gat s.forks b v false) from goes_val hi.vs h pb hvv.1 0)) (Ev.bind ev1 (Ev.bind (Ev.const ga) (Ev.bind (Ev.const gb) (Ev.bind ev2 hh)))))
   have low : ∀ hi_, ins s.forks (.fork v (doP vars s.forks (so op) (gat s.forks a v false) (gat s.forks b v false)) hi_) = if (ins s.forks (doP vars s.forks (so op) (gat s.forks a v false) (gat s.forks b v false))).2 < 0 then (s.forks, -1) else dadd (ins (ins s.forks (doP vars s.forks (so op) (gat s.forks a v false) (gat s.forks b v false))).1 hi_).1 v (ins s.forks (doP vars s.forks (so op) (gat s.forks a v false) (gat s.forks b v false))).2 (ins (ins s.forks (doP vars s.forks (so op) (gat s.forks a v false) (gat s.forks b v false))).1 hi_).2 := fun hi_ => by rw [ins]
   cases hf2 : s2.full with
   | true =>
    refine ⟨s2, 0, walk _ _ (Ev.pos hf2 (Ev.val _)), i2, e2, fun _ => hf2, fun _ _ => hf2, fun hf hh => ?_⟩
    exfalso
    rw [hT, low] at hh
    by_cases cl : (ins s.forks (doP vars s.forks (so op) (gat s.forks a v false) (gat s.forks b v false))).2 < 0
    ·rw [if_pos cl] at hh
     exact neg1 hh
    ·rw [if_neg cl] at hh
     obtain ⟨z1, z2, z3⟩ := y1 hf (by omega)
     have hn := (dadd_nn hh).2
     rw [← z2] at hn
     obtain ⟨z4, _, _⟩ := y2 z1 hn
     rw [hf2] at z4
     cases z4
   | false =>
    have hf1 : s1.full = false := by
     cases hq : s1.full with
     | false => rfl
     | true => have := f2 hq; rw [hf2] at this; cases this
    have hf : s.full = false := by
     cases hq : s.full with
     | false => rfl
     | true => have := f1 hq; rw [hf1] at this; cases this
    have cl : ¬ (ins s.forks (doP vars s.forks (so op) (gat s.forks a v false) (gat s.forks b v false))).2 < 0 := fun hh => by have := n1 hf hh; rw [hf1] at this; cases this
    obtain ⟨_, z2, z3⟩ := y1 hf (by omega)
    have ch : ¬ (ins s1.forks (doP vars s.forks (so op) (gat s.forks a v true) (gat s.forks b v true))).2 < 0 := fun hh => by have := n2 hf1 hh; rw [hf2] at this; cases this
    obtain ⟨_, z5, z6⟩ := y2 hf1 (by omega)
    have hins : ins s.forks (doP vars s.forks (so op) a b) = dadd s2.forks v r1 r2 := by
     rw [hT, low, if_neg cl, ← z2, ← z5, ← z3, ← z6]
    obtain ⟨dd, pp⟩ := doP_dv h (so op) pa pb
    have pl1 : Pl s1.forks r1 := by
     have := (doP_dv h (so op) (g1 false).1 (g2 false).1).2 (by omega)
     rw [z2, z3]
     exact this.1
    have pl2 : Pl s2.forks r2 := by
     have := (doP_dv i1.dv (so op) ((g1 true).1.ext x1) ((g2 true).1.ext x1)).2
     rw [doP_ext h x1 (so op) (g1 true).1 (g2 true).1] at this
     have := this (by omega)
     rw [z5, z6]
     exact this.1
    have hl1 := i1.dv.len
    have hl2 := i2.dv.len
    obtain ⟨s3, r3, ef, q1, q2, q3, q4, q5⟩ := fork_val s2 v r1 r2 (show KeyI v ∧ KeyI r1 ∧ KeyI r2 from ⟨keyI hvv.2 (by have := h.v12; omega), keyI pl1.1 (by have := pl1.2; omega), keyI pl2.1 (by have := pl2.2; omega)⟩) pl1.1 pl2.1 i2.seen
    have x3 : s2.forks <+: s3.forks := by rw [q4]; exact dadd_ext _ _ _ _
    have q4' : s3.forks = (ins s.forks (doP vars s.forks (so op) a b)).1 := by rw [q4, hins]
    have i3 : Inv vars s3 := ⟨by rw [q1]; exact i2.vs, by rw [q4']; exact dd, q3, fun _ op2 a2 b2 n hmm => by
     rw [q2] at hmm
     obtain ⟨k1, k2, k3, k4⟩ := i2.memo hf2 op2 a2 b2 n hmm
     refine ⟨k1.ext x3, k2.ext x3, k3, ?_⟩
     rw [doP_ext i2.dv x3 (so op2) k1 k2]
     have := ins_stays (L := s2.forks) (t := doP vars s2.forks (so op2) a2 b2) (by rw [k4]; exact k3) (L2 := s3.forks) (by rw [k4]; exact x3)
     rw [this, k4]⟩
    have e3 := e2.trans x3
    refine ⟨impl_forking_apply.put s3 (op, a, b) r3, r3, walk _ _ (Ev.neg (by rw [hf2]; decide) (Ev.bind (Ev.const ef) (Ev.val _))), apply_put i3 (fun hf3 => ?_), e3, fun hh => ?_, fun _ hh => ?_, fun _ hh => ?_⟩
    ·have cd : ¬ (dadd s2.forks v r1 r2).2 < 0 := fun hh => by
      rw [if_pos hh, hf3] at q5
      exact absurd q5.1 (by decide)
     rw [if_neg cd] at q5
     refine ⟨pa.ext e3, pb.ext e3, by omega, ?_⟩
     rw [doP_ext h e3 (so op) pa pb]
     have := ins_stays (L := s.forks) (t := doP vars s.forks (so op) a b) (by rw [hins]; omega) (L2 := s3.forks) (by rw [← q4']; exact List.prefix_refl _)
     rw [this, hins, q5.2]
    ·rw [hf] at hh
     cases hh
    ·rw [hins] at hh
     rw [if_pos hh] at q5
     exact q5.1
    ·rw [hins] at hh
     rw [if_neg (by omega)] at q5
     exact ⟨q5.1.trans hf2, q4', by rw [hins]; exact q5.2⟩
/-! #### operations of two places, whole -/
/-- What comes of an operation: told, or nothing where it may not be asked. -/
def TwoIs (vars : Int) (L : List S71) (sop a b : Int) (r : Int × List S71 × Int) : Prop :=
 (DV vars L ∧ Pl L a ∧ Pl L b → r = told vars (ins L (doP vars L sop a b))) ∧ (¬ (DV vars L ∧ Pl L a ∧ Pl L b) → r = (0, [], -1))
theorem spec_two {vars sop a b : Int} {L : List S71} {r : Int × List S71 × Int} (ho : sop = 0 ∨ sop = 1 ∨ sop = 2) (h : TwoIs vars L sop a b r) : Ev (fun k => spec_l8Two.f k vars L sop a b) r := by
 obtain ⟨hy, hn⟩ := h
 unfold spec_l8Two.f
 have e0 : Ev (fun k => spec_l8Two.j0 k sop a b true vars L) (0, [], -1) := Ev.step (Ev.pos rfl (Ev.val _)) (fun k => spec_l8Two.j0.eq_2 ..)
 obtain ⟨q, hb, h1⟩ := spec_dv vars L
 cases q with
 | false =>
  rw [hn (fun h => by have := h1.2 h.1; cases this)]
  exact Ev.bind hb (Ev.neg (by decide) e0)
 | true =>
  have hd := h1.1 rfl
  have hl := hd.len
  refine Ev.bind hb (Ev.pos rfl (Ev.bind (Ev.const (place_val L a (by omega))) ?_))
  by_cases pa : Pl L a
  ·rw [@decide_eq_true _ (decPl L a) pa]
   refine Ev.pos rfl (Ev.bind (Ev.const (place_val L b (by omega))) ?_)
   by_cases pb : Pl L b
   ·rw [@decide_eq_true _ (decPl L b) pb, hy ⟨hd, pa, pb⟩]
    refine Ev.step (Ev.neg (by decide) (Ev.bind (spec_copy vars L hl) (Ev.bind (spec_do ho 13 L a b hd pa pb (enough13 hd pa pb)) (Ev.bind (a := told vars (ins L (doP vars L sop a b))) (Ev.const ?_) (Ev.val _))))) (fun k => spec_l8Two.j0.eq_2 ..)
    unfold spec_l8Told.f told
    by_cases c : (ins L (doP vars L sop a b)).2 < 0
    ·rw [if_pos c, if_pos c]
    ·rw [if_neg c, if_neg c]
   ·rw [@decide_eq_false _ (decPl L b) pb, hn (fun h => pb h.2.2)]
    exact e0
  ·rw [@decide_eq_false _ (decPl L a) pa, hn (fun h => pa h.2.1)]
   exact Ev.neg (by decide) e0
theorem applied_v {vars op a b : Int} {L : List S71} {r : Int × List S71 × Int} (ho : OpOk op b) (h : TwoIs vars L (so op) a b r) : Ev (fun k => impl_applied.f k vars L op a b) r := by
 obtain ⟨hy, hn⟩ := h
 unfold impl_applied.f
 obtain ⟨q, hb, h1⟩ := impl_dv vars L
 refine Ev.bind (Ev.const hb) ?_
 cases q with
 | false =>
  rw [hn (fun h => by have := h1.2 h.1; cases this)]
  exact Ev.pos rfl (Ev.val _)
 | true =>
  have hd := h1.1 rfl
  have hl := hd.len
  refine Ev.neg (by decide) (Ev.bind (Ev.const (isPlace_val vars a (by omega))) ?_)
  by_cases pa : Pl L a
  ·rw [@decide_eq_true _ (decPl L a) pa]
   refine Ev.neg (by decide) (Ev.bind (Ev.const (isPlace_val vars b (by omega))) ?_)
   by_cases pb : Pl L b
   ·rw [@decide_eq_true _ (decPl L b) pb, hy ⟨hd, pa, pb⟩]
    have hi : Inv vars (fs0 vars L) := ⟨rfl, hd, rfl, fun _ op a b n hm => by cases hm⟩
    obtain ⟨s', n, ev, i1, _, _, n1, y1⟩ := apply_val (op := op) 13 (fs0 vars L) a b ho hi pa pb (enough13 hd pa pb)
    have n1' : (ins L (doP vars L (so op) a b)).2 < 0 → s'.full = true := n1 rfl
    have y1' : 0 ≤ (ins L (doP vars L (so op) a b)).2 → s'.full = false ∧ s'.forks = (ins L (doP vars L (so op) a b)).1 ∧ n = (ins L (doP vars L (so op) a b)).2 := y1 rfl
    refine Ev.neg (by decide) (Ev.bind (Ev.const (forkingOf_val hd)) (Ev.bind ev (Ev.const ?_)))
    show impl_forking_done.f s' n = _
    rw [done_val s' n i1.dv.len]
    unfold told
    by_cases c : (ins L (doP vars L (so op) a b)).2 < 0
    ·rw [if_pos c, if_pos (n1' c)]
    ·obtain ⟨z1, z2, z3⟩ := y1' (by omega)
     rw [if_neg c, if_neg (by rw [z1]; decide), i1.vs, z2, z3]
   ·rw [@decide_eq_false _ (decPl L b) pb, hn (fun h => pb h.2.2)]
    exact Ev.pos rfl (Ev.val _)
  ·rw [@decide_eq_false _ (decPl L a) pa, hn (fun h => pa h.2.1)]
   exact Ev.pos rfl (Ev.val _)
/-! #### rows of values as a tree -/
def rowsT : Nat → Int → List Int → DT
 | 0, _, vs => .leaf (rd vs 0)
 | m + 1, v, vs => .fork v (rowsT m (v + 1) (vs.take (vs.length / 2))) (rowsT m (v + 1) (vs.drop (vs.length / 2)))
def BitRow (vs : List Int) : Prop := ∀ x ∈ vs, x = 0 ∨ x = 1
theorem BitRow.take {vs : List Int} (h : BitRow vs) (n : Nat) : BitRow (vs.take n) := fun x hx => h x (List.mem_of_mem_take hx)
theorem BitRow.drop {vs : List Int} (h : BitRow vs) (n : Nat) : BitRow (vs.drop n) := fun x hx => h x (List.mem_of_mem_drop hx)
theorem half_len {vs : List Int} {m : Nat} (h : vs.length = 2 ^ (m + 1)) : (vs.take (vs.length / 2)).length = 2 ^ m ∧ (vs.drop (vs.length / 2)).length = 2 ^ m := by
 rw [List.length_take, List.length_drop, h, Nat.pow_succ]
 omega
theorem rowsT_ok {vars : Int} {L : List S71} (hL : DV vars L) : ∀ (m : Nat) (v : Int) (vs : List Int), 0 ≤ v → v + m = vars → vs.length = 2 ^ m → BitRow vs → TOk vars L v (rowsT m v vs) := by
 intro m
 induction m with
 | zero =>
  intro v vs h0 hv hl hb
  unfold rowsT
  have hm : rd vs 0 ∈ vs := by
   have : 0 < vs.length := by rw [hl]; decide
   rw [show rd vs 0 = vs[0] from rd_lt this]
   exact List.getElem_mem _
  have hx := hb _ hm
  have hd : dvar vars L (rd vs 0) = vars := by
   unfold dvar
   rw [if_pos (by omega)]
  refine ⟨⟨by omega, by omega⟩, ?_⟩
  rw [hd]
  omega
 | succ m ih =>
  intro v vs h0 hv hl hb
  obtain ⟨h1, h2⟩ := half_len hl
  unfold rowsT
  exact ⟨Int.le_refl _, h0, by omega, ih (v + 1) _ (by omega) (by omega) h1 (hb.take _), ih (v + 1) _ (by omega) (by omega) h2 (hb.drop _)⟩
theorem spec_rows {vars : Int} : ∀ (m : Nat) (L : List S71) (v : Int) (vs : List Int), DV vars L → 0 ≤ v → v + m = vars → vs.length = 2 ^ m → BitRow vs →
  Ev (fun k => spec_l8Rows.f k vars L vs v) (vars, (ins L (rowsT m v vs)).1, (ins L (rowsT m v vs)).2) := by
 intro m
 induction m with
 | zero =>
  intro L v vs h h0 hv hl hb
  refine Ev.step (Ev.pos (by omega) (Ev.pos (by rw [hl]; decide) (Ev.val _))) (fun k => spec_l8Rows.f.eq_2 ..)
 | succ m ih =>
  intro L v vs h h0 hv hl hb
  have h12 := h.v12
  obtain ⟨h1, h2⟩ := half_len hl
  have hp : (2 : Nat) ^ (m + 1) ≤ 1000000000000 := Nat.le_trans (Nat.pow_le_pow_right (by decide) (show m + 1 ≤ 12 by omega)) (by decide)
  refine Ev.step (Ev.neg (by omega) (Ev.pos (by omega) ?_)) (fun k => spec_l8Rows.f.eq_2 ..)
  rw [w_id (by omega) (by omega)]
  refine Ev.bind (ih L (v + 1) _ h (by omega) (by omega) h1 (hb.take _)) ?_
  obtain ⟨d1, _⟩ := dv_ins h (rowsT_ok h m (v + 1) _ (by omega) (by omega) h1 (hb.take _))
  rw [show rowsT (m + 1) v vs = .fork v (rowsT m (v + 1) (vs.take (vs.length / 2))) (rowsT m (v + 1) (vs.drop (vs.length / 2))) from rfl]
  rw [ins_fork]
  by_cases c4 : (ins L (rowsT m (v + 1) (vs.take (vs.length / 2)))).2 < 0
  ·rw [if_pos c4]
   exact Ev.pos c4 (Ev.val _)
  rw [if_neg c4]
  obtain ⟨d2, _⟩ := dv_ins d1 (rowsT_ok d1 m (v + 1) _ (by omega) (by omega) h2 (hb.drop _))
  exact Ev.neg c4 (Ev.bind (ih _ (v + 1) _ d1 (by omega) (by omega) h2 (hb.drop _)) (Ev.const (add_val vars v _ _ _ d2.len)))
/-! #### drawn diagrams -/
theorem dv_nil {vars : Int} (h0 : 0 ≤ vars) (h12 : vars ≤ 12) : DV vars [] := ⟨h0, h12, Nat.zero_le _, fun i x hx => by simp at hx, fun i x hx => by simp at hx⟩
theorem ins_place {vars : Int} {L : List S71} {m : Int} {t : DT} (h : DV vars L) (ht : TOk vars L m t) : -1 ≤ (ins L t).2 ∧ (ins L t).2 ≤ ((ins L t).1.length : Int) + 1 := by
 obtain ⟨d, hp⟩ := dv_ins h ht
 by_cases c : 0 ≤ (ins L t).2
 ·have := (hp c).1
  exact ⟨by omega, this.2⟩
 ·refine ⟨?_, by omega⟩
  cases t with
  | leaf n => exact absurd ht.1.1 c
  | fork v lo hi =>
   rw [ins_fork] at c ⊢
   by_cases c1 : (ins L lo).2 < 0
   ·rw [if_pos c1]
    exact Int.le_refl _
   ·rw [if_neg c1] at c ⊢
    unfold dadd at c ⊢
    by_cases c2 : (ins L lo).2 < 0 ∨ (ins (ins L lo).1 hi).2 < 0
    ·rw [if_pos c2]
     exact Int.le_refl _
    rw [if_neg c2] at c ⊢
    by_cases c3 : (ins L lo).2 = (ins (ins L lo).1 hi).2
    ·rw [if_pos c3] at c
     exact absurd (show 0 ≤ (ins L lo).2 by omega) c
    rw [if_neg c3] at c ⊢
    cases hf : dfind (ins (ins L lo).1 hi).1 ⟨v, (ins L lo).2, (ins (ins L lo).1 hi).2⟩ with
    | some i =>
     rw [hf] at c
     exact absurd (show (0 : Int) ≤ (i : Int) + 2 by omega) c
    | none =>
     rw [hf] at c
     simp only at c ⊢
     by_cases c4 : 2000 ≤ (ins (ins L lo).1 hi).1.length
     ·rw [if_pos c4]
      exact Int.le_refl _
     ·rw [if_neg c4] at c
      exact absurd (show (0 : Int) ≤ ((ins (ins L lo).1 hi).1.length : Int) + 2 by omega) c
/-- What is drawn: a diagram of few variables, and its places. -/
structure Drawn (most : Int) (r : Int × List S71 × List Int × Int) : Prop where
 dv : DV r.1 r.2.1
 few : r.1 ≤ most
 some_ : 2 ≤ r.2.2.1.length
 many : r.2.2.1.length ≤ 10
 place : ∀ x ∈ r.2.2.1, -1 ≤ x ∧ x ≤ 2001
theorem shl_few (m : Nat) (h : m ≤ 6) : shl .i64 1 (m : Int) = ((2 ^ m : Nat) : Int) := by
 have : m = 0 ∨ m = 1 ∨ m = 2 ∨ m = 3 ∨ m = 4 ∨ m = 5 ∨ m = 6 := by omega
 rcases this with rfl | rfl | rfl | rfl | rfl | rfl | rfl <;> rfl
theorem draw_l1 (b : List Int) (hb : Drawer b) (m : Nat) (hm : m ≤ 6) (P : Int × List S71 × List Int × Int → Prop) (pl : List Int) (i : Int) (k2 : Int) (L : List S71) (q0 : Int)
  (hrest : ∀ (vs : List Int) (p : Int), vs.length = 2 ^ m → BitRow vs → 0 ≤ p → p ≤ q0 + 64 → Tot (fun k => (spec_l8Rows.f k (m : Int) L vs 0).bind fun r => if pl.length < 17592186044416 then spec_l8Draw.l0 k (pl ++ [r.2.2]) (wrap64 (i - 1)) b p r.1 r.2.1 else none) P) :
  ∀ (d j : Nat) (vs : List Int) (p : Int), j + d = 2 ^ m → vs.length = j → BitRow vs → 0 ≤ p → p ≤ q0 + j → q0 ≤ 900000 → Tot (fun k => spec_l8Draw.l1 k pl i vs k2 (j : Int) b p (m : Int) L) P := by
 have hp : (2 : Nat) ^ m ≤ 64 := Nat.le_trans (Nat.pow_le_pow_right (by decide) hm) (by decide)
 intro d
 induction d with
 | zero =>
  intro j vs p hj hl hbs p0 p1 hq
  refine Tot.step (Tot.pos (by omega) ?_) (fun k => spec_l8Draw.l1.eq_2 ..)
  rw [shl_few m hm]
  exact Tot.neg (by omega) (hrest vs p (by omega) hbs p0 (by omega))
 | succ d ih =>
  intro j vs p hj hl hbs p0 p1 hq
  refine Tot.step (Tot.pos (by omega) ?_) (fun k => spec_l8Draw.l1.eq_2 ..)
  rw [shl_few m hm]
  refine Tot.pos (by omega) (Tot.bind (pick_tot b hb p k2 p0 (by omega)) ?_)
  rintro ⟨y, q⟩ ⟨e1, _, _⟩
  simp only at e1 ⊢
  subst e1
  rw [w_id (by omega) (by omega), show (j : Int) + 1 = ((j + 1 : Nat) : Int) by omega]
  have bit : ∀ c : Int, c = 0 ∨ c = 1 → BitRow (vs ++ [c]) := fun c hc x hx => by
   rcases List.mem_append.mp hx with h | h
   ·exact hbs x h
   ·rw [List.mem_singleton.mp h]
    exact hc
  exact Tot.ite (fun _ => Tot.pos (by omega) (ih (j + 1) _ _ (by omega) (by simp; omega) (bit 1 (.inr rfl)) (by omega) (by omega) hq)) (fun _ => Tot.pos (by omega) (ih (j + 1) _ _ (by omega) (by simp; omega) (bit 0 (.inl rfl)) (by omega) (by omega) hq))
theorem draw_l0 (b : List Int) (hb : Drawer b) (m : Nat) (hm : m ≤ 6) (most : Int) (hmost : (m : Int) ≤ most) : ∀ (d : Nat) (pl : List Int) (L : List S71) (p : Int), d ≤ 3 → pl.length + d ≤ 10 → 2 ≤ pl.length → DV (m : Int) L → (∀ x ∈ pl, -1 ≤ x ∧ x ≤ 2001) → 0 ≤ p → p + 70 * d ≤ 100000 →
  Tot (fun k => spec_l8Draw.l0 k pl (d : Int) b p (m : Int) L) (fun r => Drawn most r ∧ 0 ≤ r.2.2.2 ∧ r.2.2.2 ≤ p + 70 * d) := by
 intro d
 induction d with
 | zero =>
  intro pl L p _ h1 h2 hd hp p0 p1
  refine Tot.step (Tot.neg (by omega) (Tot.val ⟨⟨hd, hmost, h2, by omega, hp⟩, p0, by simp⟩)) (fun k => spec_l8Draw.l0.eq_2 ..)
 | succ d ih =>
  intro pl L p h3 h1 h2 hd hp p0 p1
  refine Tot.step (Tot.pos (by omega) (Tot.bind (num_tot b hb p _ p0 (by omega) (by simp)) ?_)) (fun k => spec_l8Draw.l0.eq_2 ..)
  rintro ⟨k2, q⟩ ⟨e1, _⟩
  simp only at e1 ⊢
  subst e1
  refine draw_l1 b hb m hm _ pl _ k2 L (p + 1) ?_ (2 ^ m) 0 [] (p + 1) (by omega) rfl (fun x hx => by simp at hx) (by omega) (by omega) (by omega)
  intro vs p2 hl hbs q0 q1
  have hok := rowsT_ok hd m 0 vs (Int.le_refl _) (by omega) hl hbs
  obtain ⟨d1, _⟩ := dv_ins hd hok
  have hpl := ins_place hd hok
  have hlen := d1.len
  refine Tot.bind (Tot.of (spec_rows m L 0 vs hd (Int.le_refl _) (by omega) hl hbs) (P := fun r => r = ((m : Int), (ins L (rowsT m 0 vs)).1, (ins L (rowsT m 0 vs)).2)) rfl) ?_
  rintro r rfl
  refine Tot.pos (by omega) ?_
  show Tot (fun k => spec_l8Draw.l0 k (pl ++ [(ins L (rowsT m 0 vs)).2]) (wrap64 (((d + 1 : Nat) : Int) - 1)) b p2 (m : Int) (ins L (rowsT m 0 vs)).1) _
  rw [w_id (by omega) (by omega), show ((d + 1 : Nat) : Int) - 1 = (d : Int) by omega]
  refine (ih (pl ++ [(ins L (rowsT m 0 vs)).2]) (ins L (rowsT m 0 vs)).1 p2 (by omega) (by simp; omega) (by simp; omega) d1 (fun x hx => ?_) q0 (by omega)).mono ?_
  ·rcases List.mem_append.mp hx with h | h
   ·exact hp x h
   ·rw [List.mem_singleton.mp h]
    omega
  ·rintro r ⟨r1, r2, r3⟩
   exact ⟨r1, r2, by omega⟩
theorem draw_tot (b : List Int) (hb : Drawer b) (p most : Int) (p0 : 0 ≤ p) (p1 : p ≤ 50000) (m0 : 0 ≤ most) (m1 : most ≤ 6) : Tot (fun k => spec_l8Draw.f k b p most) (fun r => Drawn most r ∧ 0 ≤ r.2.2.2 ∧ r.2.2.2 ≤ p + 300) := by
 unfold spec_l8Draw.f
 rw [w_id (by omega) (by omega)]
 refine Tot.bind (pick_tot b hb p (most + 1) p0 (by omega)) ?_
 rintro ⟨v, q⟩ ⟨e1, v0, v1⟩
 simp only at e1 v0 v1 ⊢
 subst e1
 have v2 := v1 (by omega)
 refine Tot.bind (num_tot b hb (p + 1) _ (by omega) (by omega) (by simp)) ?_
 rintro ⟨d, q⟩ ⟨e1, hd⟩
 simp only at e1 hd ⊢
 subst e1
 have hd3 : 0 ≤ d ∧ d ≤ 3 := by simp at hd; omega
 obtain ⟨m, rfl⟩ := Int.eq_ofNat_of_zero_le v0
 obtain ⟨n, rfl⟩ := Int.eq_ofNat_of_zero_le hd3.1
 refine (draw_l0 b hb m (by omega) most (by omega) n [0, 1] [] (p + 1 + 1) (by omega) (by simp; omega) (by simp) (dv_nil (by omega) (by omega)) (fun x hx => by simp at hx; omega) (by omega) (by omega)).mono ?_
 rintro r ⟨r1, r2, r3⟩
 exact ⟨r1, r2, by omega⟩
/-- A drawn diagram that may be spoilt, and a place. -/
structure DrawnAny (r : Int × List S71 × Int × Int) : Prop where
 v0 : -1 ≤ r.1
 v1 : r.1 ≤ 13
 len : r.2.1.length ≤ 2001
 n0 : -1 ≤ r.2.2.1
 n1 : r.2.2.1 ≤ 3000
theorem any_tot (b : List Int) (hb : Drawer b) (p most : Int) (p0 : 0 ≤ p) (p1 : p ≤ 40000) (m0 : 0 ≤ most) (m1 : most ≤ 6) : Tot (fun k => spec_l8Any.f k b p most) (fun r => DrawnAny r ∧ 0 ≤ r.2.2.2 ∧ r.2.2.2 ≤ p + 400) := by
 unfold spec_l8Any.f
 refine Tot.bind (draw_tot b hb p most p0 (by omega) m0 m1) ?_
 rintro ⟨vars, L, pl, q⟩ ⟨⟨hd, hf, hs, hm, hp⟩, q0, q1⟩
 simp only at hd hf hs hm hp q0 q1 ⊢
 have hl := hd.len
 have hv := hd.v0
 have place : ∀ z : Int, 0 ≤ z → z < (pl.length : Int) → -1 ≤ rd pl z ∧ rd pl z ≤ 2001 := fun z h0 h1 => by
  obtain ⟨i, rfl⟩ := Int.eq_ofNat_of_zero_le h0
  refine hp _ ?_
  rw [rd_lt (by omega)]
  exact List.getElem_mem _
 have j2 : ∀ (n q : Int) (c : Bool), -1 ≤ n → n ≤ 2001 → (c = true → 0 < (L.length : Int)) → 0 ≤ q → q ≤ p + 350 → Tot (fun k => spec_l8Any.j2 k n c b q vars L) (fun r => DrawnAny r ∧ 0 ≤ r.2.2.2 ∧ r.2.2.2 ≤ p + 400) := by
  intro n q c n0 n1 hc q0 q1
  refine Tot.step ?_ (fun k => spec_l8Any.j2.eq_2 ..)
  refine Tot.ite (fun h => ?_) (fun _ => ?_)
  ·refine Tot.pos (hc h) (Tot.bind (num_tot b hb q _ q0 (by omega) (by simp)) ?_)
   rintro ⟨x, q2⟩ ⟨e1, _⟩
   simp only at e1 ⊢
   subst e1
   exact Tot.val ⟨⟨by show -1 ≤ vars; omega, by show vars ≤ 13; omega, by show (L.set _ _).length ≤ 2001; simp; omega, n0, by show n ≤ 3000; omega⟩, by show 0 ≤ q + 1; omega, by show q + 1 ≤ p + 400; omega⟩
  ·rw [w_id (by omega) (by omega)]
   refine Tot.bind (num_tot b hb q _ q0 (by omega) (by simp)) ?_
   rintro ⟨x, q2⟩ ⟨e1, hx⟩
   simp only at e1 hx ⊢
   subst e1
   have hx2 : -1 ≤ x ∧ x ≤ 3000 := by simp at hx; omega
   exact Tot.val ⟨⟨by show -1 ≤ vars; omega, by show vars ≤ 13; omega, by show L.length ≤ 2001; omega, hx2.1, hx2.2⟩, by show 0 ≤ q + 1; omega, by show q + 1 ≤ p + 400; omega⟩
 have j1 : ∀ (n f q : Int) (c : Bool), -1 ≤ n → n ≤ 2001 → (c = true → 0 < (L.length : Int)) → 0 ≤ q → q ≤ p + 350 → Tot (fun k => spec_l8Any.j1 k n f c b q vars L) (fun r => DrawnAny r ∧ 0 ≤ r.2.2.2 ∧ r.2.2.2 ≤ p + 400) := by
  intro n f q c n0 n1 hc q0 q1
  refine Tot.step ?_ (fun k => spec_l8Any.j1.eq_2 ..)
  refine Tot.ite (fun h => ?_) (fun _ => Tot.ite (fun _ => j2 n q _ n0 n1 (fun h => of_decide_eq_true h) q0 q1) (fun _ => j2 n q _ n0 n1 (fun h => by cases h) q0 q1))
  exact Tot.pos (hc h) (Tot.pos (by omega) (Tot.val ⟨⟨by show -1 ≤ vars; omega, by show vars ≤ 13; omega, by simp; omega, n0, by show n ≤ 3000; omega⟩, q0, by show q ≤ p + 400; omega⟩))
 have j0 : ∀ (n q : Int), -1 ≤ n → n ≤ 2001 → 0 ≤ q → q ≤ p + 310 → Tot (fun k => spec_l8Any.j0 k n b q vars L) (fun r => DrawnAny r ∧ 0 ≤ r.2.2.2 ∧ r.2.2.2 ≤ p + 400) := by
  intro n q n0 n1 q0 q1
  refine Tot.step (Tot.bind (pick_tot b hb q 14 q0 (by omega)) ?_) (fun k => spec_l8Any.j0.eq_2 ..)
  rintro ⟨x, q2⟩ ⟨e1, _, _⟩
  simp only at e1 ⊢
  subst e1
  refine Tot.ite (fun _ => ?_) (fun _ => Tot.val ⟨⟨by show -1 ≤ vars; omega, by show vars ≤ 13; omega, by show L.length ≤ 2001; omega, n0, by show n ≤ 3000; omega⟩, by show 0 ≤ q + 1; omega, by show q + 1 ≤ p + 400; omega⟩)
  refine Tot.bind (pick_tot b hb (q + 1) 4 (by omega) (by omega)) ?_
  rintro ⟨f, q2⟩ ⟨e1, _, _⟩
  simp only at e1 ⊢
  subst e1
  refine Tot.ite (fun _ => ?_) (fun _ => Tot.ite (fun _ => j1 n f _ _ n0 n1 (fun h => of_decide_eq_true h) (by omega) (by omega)) (fun _ => j1 n f _ _ n0 n1 (fun h => by cases h) (by omega) (by omega)))
  refine Tot.bind (num_tot b hb (q + 1 + 1) _ (by omega) (by omega) (by simp)) ?_
  rintro ⟨x, q2⟩ ⟨e1, hx⟩
  simp only at e1 hx ⊢
  subst e1
  have hx2 : -1 ≤ x ∧ x ≤ 13 := by simp at hx; omega
  exact Tot.val ⟨⟨hx2.1, hx2.2, by show L.length ≤ 2001; omega, n0, by show n ≤ 3000; omega⟩, by show 0 ≤ q + 1 + 1 + 1; omega, by show q + 1 + 1 + 1 ≤ p + 400; omega⟩
 rw [w_id (by omega) (by omega)]
 refine Tot.pos (by omega) (Tot.pos (by omega) (Tot.bind (pick_tot b hb q 4 q0 (by omega)) ?_))
 rintro ⟨x, q2⟩ ⟨e1, _, _⟩
 simp only at e1 ⊢
 subst e1
 refine Tot.ite (fun _ => ?_) (fun _ => ?_)
 ·refine Tot.bind (pick_tot b hb (q + 1) (pl.length : Int) (by omega) (by omega)) ?_
  rintro ⟨z, q2⟩ ⟨e1, z0, z1⟩
  simp only at e1 z0 z1 ⊢
  subst e1
  have z2 := z1 (by omega)
  have := place z z0 z2
  exact Tot.pos z0 (Tot.pos z2 (j0 _ _ this.1 this.2 (by omega) (by omega)))
 ·have := place ((pl.length : Int) - 1) (by omega) (by omega)
  exact j0 _ _ this.1 this.2 (by omega) (by omega)
/-! #### the value of a place -/
def dval (vars : Int) (L : List S71) (bits : List Int) : Nat → Int → Int
 | 0, n => n
 | m + 1, n => if n < 2 then n else dval vars L bits m (gat L n (dvar vars L n) (decide (rd bits (dvar vars L n) = 1)))
theorem dval_const {vars : Int} {L : List S71} {bits : List Int} {n : Int} (h : n < 2) : ∀ m, dval vars L bits m n = n := by
 intro m
 cases m with
 | zero => rfl
 | succ m =>
  unfold dval
  rw [if_pos h]
theorem dval_same {vars : Int} {L : List S71} (h : DV vars L) (bits : List Int) : ∀ (m m2 : Nat) (n : Int), Pl L n → vars - dvar vars L n < m → vars - dvar vars L n < m2 → dval vars L bits m n = dval vars L bits m2 n := by
 intro m
 induction m with
 | zero =>
  intro m2 n p h1 _
  have := (h.dvar_le p).2
  omega
 | succ m ih =>
  intro m2 n p h1 h2
  cases m2 with
  | zero =>
   have := (h.dvar_le p).2
   omega
  | succ m2 =>
   unfold dval
   by_cases c : n < 2
   ·rw [if_pos c, if_pos c]
   ·rw [if_neg c, if_neg c]
    have f := gat_ok h p (Int.le_refl _) ((dvar_two h p).2 c) (decide (rd bits (dvar vars L n) = 1))
    exact ih m2 _ f.1 (by omega) (by omega)
theorem dval_ext {vars : Int} {L L2 : List S71} (h : DV vars L) (he : L <+: L2) (bits : List Int) : ∀ (m : Nat) (n : Int), Pl L n → dval vars L2 bits m n = dval vars L bits m n := by
 intro m
 induction m with
 | zero => intro n _; rfl
 | succ m ih =>
  intro n p
  unfold dval
  by_cases c : n < 2
  ·rw [if_pos c, if_pos c]
  ·rw [if_neg c, if_neg c, dvar_ext p he, gat_ext p he]
   exact ih _ (gat_ok h p (Int.le_refl _) ((dvar_two h p).2 c) _).1
/-- The constant to which one comes from a place. -/
def dvP (vars : Int) (L : List S71) (bits : List Int) (n : Int) : Int := dval vars L bits 13 n
theorem dvP_const {vars : Int} {L : List S71} {bits : List Int} {n : Int} (h : n < 2) : dvP vars L bits n = n := dval_const h 13
theorem dvP_ext {vars : Int} {L L2 : List S71} (h : DV vars L) (he : L <+: L2) (bits : List Int) {n : Int} (p : Pl L n) : dvP vars L2 bits n = dvP vars L bits n := dval_ext h he bits 13 n p
theorem dvP_fork {vars : Int} {L : List S71} (h : DV vars L) (bits : List Int) {n : Int} (p : Pl L n) (c : ¬ n < 2) : dvP vars L bits n = dvP vars L bits (gat L n (dvar vars L n) (decide (rd bits (dvar vars L n) = 1))) := by
 have f := gat_ok h p (Int.le_refl _) ((dvar_two h p).2 c) (decide (rd bits (dvar vars L n) = 1))
 have a0 := (h.dvar_le p).1
 have a1 := h.v12
 unfold dvP
 rw [dval.eq_2, if_neg c, dval_same h bits 12 13 _ f.1 (by omega) (by omega)]
theorem dval_01 {vars : Int} {L : List S71} (h : DV vars L) (bits : List Int) : ∀ (m : Nat) (n : Int), Pl L n → vars - dvar vars L n < m → dval vars L bits m n = 0 ∨ dval vars L bits m n = 1 := by
 intro m
 induction m with
 | zero =>
  intro n p h1
  have := (h.dvar_le p).2
  omega
 | succ m ih =>
  intro n p h1
  unfold dval
  by_cases c : n < 2
  ·rw [if_pos c]
   have := p.1
   omega
  ·rw [if_neg c]
   have f := gat_ok h p (Int.le_refl _) ((dvar_two h p).2 c) (decide (rd bits (dvar vars L n) = 1))
   exact ih _ f.1 (by omega)
theorem dvP_01 {vars : Int} {L : List S71} (h : DV vars L) (bits : List Int) {n : Int} (p : Pl L n) : dvP vars L bits n = 0 ∨ dvP vars L bits n = 1 := by
 have a0 := (h.dvar_le p).1
 have a1 := h.v12
 exact dval_01 h bits 13 n p (by omega)
/-- A step toward a variable that stands no later than the place's own. -/
theorem dvP_gat {vars v : Int} {L : List S71} (h : DV vars L) (bits : List Int) {n : Int} (p : Pl L n) : dvP vars L bits (gat L n v (decide (rd bits v = 1))) = dvP vars L bits n := by
 by_cases c : n < 2
 ·unfold gat
  rw [if_pos c]
 ·by_cases e : dvar vars L n = v
  ·subst e
   exact (dvP_fork h bits p c).symm
  ·have e2 : (L.getD (n - 2).toNat ⟨0, 0, 0⟩).f0 ≠ v := by
    unfold dvar at e
    rw [if_neg c] at e
    exact e
   unfold gat
   rw [if_neg c, if_neg e2]
/-- The value of a tree. -/
def tval (vars : Int) (L : List S71) (bits : List Int) : DT → Int
 | .leaf n => dvP vars L bits n
 | .fork v lo hi => if rd bits v = 1 then tval vars L bits hi else tval vars L bits lo
theorem tval_ext {vars : Int} {L L2 : List S71} (h : DV vars L) (he : L <+: L2) (bits : List Int) {t : DT} : ∀ {m : Int}, TOk vars L m t → tval vars L2 bits t = tval vars L bits t := by
 induction t with
 | leaf n =>
  intro m ht
  exact dvP_ext h he bits ht.1
 | fork v lo hi ihl ihh =>
  intro m ht
  unfold tval
  rw [ihl ht.2.2.2.1, ihh ht.2.2.2.2]
/-- Where a fork is that was added. -/
theorem dadd_at {vars v lo hi : Int} {L : List S71} (hne : lo ≠ hi) (h : 0 ≤ (dadd L v lo hi).2) : 2 ≤ (dadd L v lo hi).2 ∧ dvar vars (dadd L v lo hi).1 (dadd L v lo hi).2 = v ∧ gat (dadd L v lo hi).1 (dadd L v lo hi).2 v false = lo ∧ gat (dadd L v lo hi).1 (dadd L v lo hi).2 v true = hi := by
 have key : ∀ (M : List S71) (i : Nat), M[i]? = some ⟨v, lo, hi⟩ → 2 ≤ (i : Int) + 2 ∧ dvar vars M ((i : Int) + 2) = v ∧ gat M ((i : Int) + 2) v false = lo ∧ gat M ((i : Int) + 2) v true = hi := by
  intro M i hx
  have hd : M.getD ((i : Int) + 2 - 2).toNat ⟨0, 0, 0⟩ = ⟨v, lo, hi⟩ := by
   rw [show ((i : Int) + 2 - 2).toNat = i by omega, List.getD_eq_getElem?_getD, hx]
   rfl
  refine ⟨by omega, ?_, ?_, ?_⟩
  ·unfold dvar
   rw [if_neg (by omega), hd]
  ·unfold gat
   rw [if_neg (by omega), hd, if_pos rfl, if_neg (by decide)]
  ·unfold gat
   rw [if_neg (by omega), hd, if_pos rfl, if_pos rfl]
 have hnn := dadd_nn h
 unfold dadd at h ⊢
 rw [if_neg (by omega), if_neg hne] at h ⊢
 cases hf : dfind L ⟨v, lo, hi⟩ with
 | some i => exact key L i (dfind_some hf)
 | none =>
  rw [hf] at h
  simp only at h ⊢
  by_cases c : 2000 ≤ L.length
  ·rw [if_pos c] at h
   exact (neg1 h).elim
  ·rw [if_neg c]
   exact key _ _ (by simp)
theorem dadd_val {vars v lo hi : Int} {L : List S71} (h : DV vars L) (hl : Pl L lo) (hh : Pl L hi) (v0 : 0 ≤ v) (v1 : v < vars) (hvl : v < dvar vars L lo) (hvh : v < dvar vars L hi) (hn : 0 ≤ (dadd L v lo hi).2) (bits : List Int) :
  dvP vars (dadd L v lo hi).1 bits (dadd L v lo hi).2 = if rd bits v = 1 then dvP vars L bits hi else dvP vars L bits lo := by
 by_cases c : lo = hi
 ·subst c
  have e : dadd L v lo lo = (L, lo) := by
   unfold dadd
   rw [if_neg (by have := hl.1; omega), if_pos rfl]
  rw [e, ite_self]
 ·obtain ⟨q1, q2, q3, q4⟩ := dadd_at (vars := vars) c hn
  obtain ⟨dd, hp⟩ := dv_dadd h hl hh v0 v1 hvl hvh
  have he := dadd_ext L v lo hi
  rw [dvP_fork dd bits (hp hn).1 (by omega), q2]
  by_cases cb : rd bits v = 1
  ·rw [decide_eq_true cb, q4, if_pos cb, dvP_ext h he bits hh]
  ·rw [decide_eq_false cb, q3, if_neg cb, dvP_ext h he bits hl]
/-- What was added has the tree's values. -/
theorem ins_val {vars : Int} (bits : List Int) {t : DT} : ∀ {L : List S71} {m : Int}, DV vars L → TOk vars L m t → 0 ≤ (ins L t).2 → dvP vars (ins L t).1 bits (ins L t).2 = tval vars L bits t := by
 induction t with
 | leaf n =>
  intro L m h ht hn
  rfl
 | fork v lo hi ihl ihh =>
  intro L m h ht hn
  obtain ⟨t1, t2, t3, t4, t5⟩ := ht
  rw [ins_fork] at hn ⊢
  by_cases c : (ins L lo).2 < 0
  ·rw [if_pos c] at hn
   exact (neg1 hn).elim
  rw [if_neg c] at hn ⊢
  obtain ⟨d1, p1⟩ := dv_ins h t4
  obtain ⟨p1, q1⟩ := p1 (by omega)
  have e1 := ins_ext L lo
  obtain ⟨d2, p2⟩ := dv_ins d1 (t5.ext e1)
  have hnn := dadd_nn hn
  obtain ⟨p2, q2⟩ := p2 hnn.2
  have e2 := ins_ext (ins L lo).1 hi
  rw [dadd_val d2 (p1.ext e2) p2 t2 t3 (by rw [dvar_ext p1 e2]; omega) (by omega) hn bits]
  unfold tval
  rw [dvP_ext d1 e2 bits p1, ihl h t4 (by omega), ihh d1 (t5.ext e1) hnn.2, tval_ext h e1 bits t5]
/-- What an operation makes of two truths. -/
def opv (op x y : Int) : Int := if op = 0 then x * y else if op = 1 then (if x + y = 0 then 0 else 1) else (if x = y then 0 else 1)
theorem doT_val {vars : Int} {L : List S71} (h : DV vars L) {op : Int} (ho : op = 0 ∨ op = 1 ∨ op = 2) (bits : List Int) : ∀ (m : Nat) (a b : Int), Pl L a → Pl L b → Enough vars L m a b → tval vars L bits (doT vars L op m a b) = opv op (dvP vars L bits a) (dvP vars L bits b) := by
 intro m
 induction m with
 | zero =>
  intro a b pa pb h1
  have := mn_le (dvar vars L a) (dvar vars L b)
  have := (h.dvar_le pa).2
  unfold Enough at h1
  omega
 | succ m ih =>
  intro a b pa pb hm
  have a0 := pa.1
  have b0 := pb.1
  have xa := dvP_01 h bits pa
  have xb := dvP_01 h bits pb
  unfold doT
  cases ht : tv op a b with
  | some n =>
   have hn := tv_place pa pb ht
   show dvP vars L bits n = _
   rw [dvP_const (by omega)]
   unfold tv at ht
   by_cases c1 : a < 2 ∧ b < 2
   ·rw [if_pos c1] at ht
    rw [dvP_const c1.1, dvP_const c1.2]
    injection ht with ht
    exact ht.symm
   rw [if_neg c1] at ht
   by_cases c2 : op = 0 ∧ (a = 0 ∨ b = 0)
   ·rw [if_pos c2] at ht
    injection ht with ht
    unfold opv
    rw [if_pos c2.1, ← ht]
    rcases c2.2 with rfl | rfl
    ·rw [dvP_const (by decide), Int.zero_mul]
    ·rw [dvP_const (n := 0) (by decide), Int.mul_zero]
   rw [if_neg c2] at ht
   by_cases c3 : op = 1 ∧ (a = 1 ∨ b = 1)
   ·rw [if_pos c3] at ht
    injection ht with ht
    unfold opv
    rw [if_neg (by omega), if_pos c3.1, ← ht]
    rcases c3.2 with rfl | rfl
    ·rw [dvP_const (by decide), if_neg (by omega)]
    ·rw [dvP_const (n := 1) (by decide), if_neg (by omega)]
   ·rw [if_neg c3] at ht
    cases ht
  | none =>
   simp only
   obtain ⟨v, hv⟩ : ∃ v, mn (dvar vars L a) (dvar vars L b) = v := ⟨_, rfl⟩
   have hc := tv_none ht
   have hvv := mn_lt h pa pb hc
   have hle := mn_le (dvar vars L a) (dvar vars L b)
   have en := enough_next h pa pb hc hm
   rw [hv] at hvv hle en
   rw [hv]
   have g1 := gat_ok h pa hle.1 hvv.1
   have g2 := gat_ok h pb hle.2 hvv.1
   have key : ∀ hi, decide (rd bits v = 1) = hi → tval vars L bits (doT vars L op m (gat L a v hi) (gat L b v hi)) = opv op (dvP vars L bits a) (dvP vars L bits b) := fun hi hh => by
    rw [ih _ _ (g1 hi).1 (g2 hi).1 (en hi), ← hh, dvP_gat h bits pa, dvP_gat h bits pb]
   unfold tval
   by_cases cb : rd bits v = 1
   ·rw [if_pos cb]
    exact key true (decide_eq_true cb)
   ·rw [if_neg cb]
    exact key false (decide_eq_false cb)
theorem doP_val {vars : Int} {L : List S71} (h : DV vars L) {op : Int} (ho : op = 0 ∨ op = 1 ∨ op = 2) (bits : List Int) {a b : Int} (pa : Pl L a) (pb : Pl L b) (hn : 0 ≤ (ins L (doP vars L op a b)).2) :
  dvP vars (ins L (doP vars L op a b)).1 bits (ins L (doP vars L op a b)).2 = opv op (dvP vars L bits a) (dvP vars L bits b) := by
 rw [show dvP vars (ins L (doP vars L op a b)).1 bits (ins L (doP vars L op a b)).2 = tval vars L bits (doP vars L op a b) from ins_val bits h (doT_ok h op 13 a b pa pb) hn]
 exact doT_val h ho bits 13 a b pa pb (enough13 h pa pb)
theorem gat_self {L : List S71} {vars n : Int} (c : ¬ n < 2) (hi : Bool) : gat L n (dvar vars L n) hi = if hi = true then (rd_T71 L (n - 2)).f2 else (rd_T71 L (n - 2)).f1 := by
 unfold gat dvar
 rw [if_neg c, if_neg c, if_pos rfl, rdP]
/-! #### places of a diagram are the same just if they have the same values -/
theorem rd_set_far {bits : List Int} {w u : Int} (x : Int) (h0 : 0 ≤ w) (h1 : 0 ≤ u) (hne : w ≠ u) : rd (bits.set w.toNat x) u = rd bits u := by
 obtain ⟨a, rfl⟩ := Int.eq_ofNat_of_zero_le h0
 obtain ⟨b, rfl⟩ := Int.eq_ofNat_of_zero_le h1
 rw [Int.toNat_natCast]
 exact rd_set_ne (by omega)
theorem rd_set_at {bits : List Int} {w : Int} (x : Int) (h0 : 0 ≤ w) (h1 : w < (bits.length : Int)) : rd (bits.set w.toNat x) w = x := by
 obtain ⟨a, rfl⟩ := Int.eq_ofNat_of_zero_le h0
 rw [Int.toNat_natCast]
 exact rd_set_eq (by omega)
theorem dval_low {vars : Int} {L : List S71} (h : DV vars L) (bits : List Int) {w : Int} (hw : 0 ≤ w) (x : Int) : ∀ (m : Nat) (n : Int), Pl L n → w < dvar vars L n → dval vars L (bits.set w.toNat x) m n = dval vars L bits m n := by
 intro m
 induction m with
 | zero => intro n _ _; rfl
 | succ m ih =>
  intro n p hd
  unfold dval
  by_cases c : n < 2
  ·rw [if_pos c, if_pos c]
  ·rw [if_neg c, if_neg c, rd_set_far x hw (by omega) (by omega)]
   have f := gat_ok h p (Int.le_refl _) ((dvar_two h p).2 c) (decide (rd bits (dvar vars L n) = 1))
   exact ih _ f.1 (by omega)
theorem dvP_low {vars : Int} {L : List S71} (h : DV vars L) (bits : List Int) {w : Int} (hw : 0 ≤ w) (x : Int) {n : Int} (p : Pl L n) (hd : w < dvar vars L n) : dvP vars L (bits.set w.toNat x) n = dvP vars L bits n := dval_low h bits hw x 13 n p hd
theorem dvP_lo {vars : Int} {L : List S71} (h : DV vars L) (bits : List Int) (hb : bits.length = 12) {n : Int} (p : Pl L n) (c : ¬ n < 2) (hi : Bool) : dvP vars L (bits.set (dvar vars L n).toNat (if hi = true then 1 else 0)) n = dvP vars L bits (gat L n (dvar vars L n) hi) := by
 have hv := (dvar_two h p).2 c
 have hv0 := (h.dvar_le p).1
 have h12 := h.v12
 have f := gat_ok h p (Int.le_refl _) hv hi
 rw [dvP_fork h _ p c, rd_set_at _ hv0 (by omega)]
 cases hi with
 | true =>
  rw [if_pos rfl, decide_eq_true rfl]
  exact dvP_low h bits hv0 _ f.1 f.2
 | false =>
  rw [if_neg (by decide), decide_eq_false (by decide)]
  exact dvP_low h bits hv0 _ f.1 f.2
/-- The same values for all bits. -/
def Same (vars : Int) (L : List S71) (p q : Int) : Prop := ∀ bits : List Int, bits.length = 12 → dvP vars L bits p = dvP vars L bits q
theorem same_gat {vars : Int} {L : List S71} (h : DV vars L) {p q : Int} (pp : Pl L p) (pq : Pl L q) (hs : Same vars L p q) (c : ¬ p < 2) (hle : dvar vars L p ≤ dvar vars L q) (hi : Bool) : Same vars L (gat L p (dvar vars L p) hi) (gat L q (dvar vars L p) hi) := by
 intro bits hb
 have h1 := hs (bits.set (dvar vars L p).toNat (if hi = true then 1 else 0)) (by simpa using hb)
 rw [dvP_lo h bits hb pp c hi] at h1
 rw [h1]
 by_cases e : dvar vars L q = dvar vars L p
 ·have c2 : ¬ q < 2 := (dvar_two h pq).1 (by rw [e]; exact (dvar_two h pp).2 c)
  rw [← e, dvP_lo h bits hb pq c2 hi]
 ·have hv0 := (h.dvar_le pp).1
  rw [dvP_low h bits hv0 _ pq (by omega)]
  congr 1
  unfold gat
  by_cases c2 : q < 2
  ·rw [if_pos c2]
  ·rw [if_neg c2, if_neg (fun e2 => e (by unfold dvar at e2 ⊢; rw [if_neg c2]; exact e2))]
theorem gat_above {vars : Int} {L : List S71} {q v : Int} (h : v < dvar vars L q) (hi : Bool) : gat L q v hi = q := by
 unfold gat
 by_cases c2 : q < 2
 ·rw [if_pos c2]
 ·unfold dvar at h
  rw [if_neg c2] at h
  rw [if_neg c2, if_neg (by omega)]
theorem gat_ne {vars : Int} {L : List S71} (h : DV vars L) {p : Int} (pp : Pl L p) (c : ¬ p < 2) : gat L p (dvar vars L p) false ≠ gat L p (dvar vars L p) true ∧ gat L p (dvar vars L p) false < p ∧ gat L p (dvar vars L p) true < p := by
 obtain ⟨x, hx, hd, e, _, _, _, _, l1, l2, ne, _, _⟩ := h.at_ pp c
 unfold gat
 rw [e, hd, if_neg c, if_pos rfl, if_neg c, if_pos rfl, if_neg (by decide), if_pos rfl]
 exact ⟨ne, l1, l2⟩
theorem place_eq {vars : Int} {L : List S71} (h : DV vars L) {p q : Int} (pp : Pl L p) (pq : Pl L q) (c : ¬ p < 2) (c2 : ¬ q < 2) (hv : dvar vars L p = dvar vars L q) (hl : gat L p (dvar vars L p) false = gat L q (dvar vars L p) false) (hh : gat L p (dvar vars L p) true = gat L q (dvar vars L p) true) : p = q := by
 obtain ⟨x, hx, hd, e, _⟩ := h.at_ pp c
 obtain ⟨y, hy, hd2, e2, _⟩ := h.at_ pq c2
 rw [e, e2] at hv
 rw [e] at hl hh
 unfold gat at hl hh
 rw [hd, hd2, if_neg c, if_neg c2, if_pos rfl, if_pos hv.symm] at hl hh
 rw [if_neg (by decide), if_neg (by decide)] at hl
 rw [if_pos rfl, if_pos rfl] at hh
 have hxy : x = y := by
  obtain ⟨a, b, d⟩ := x
  obtain ⟨a', b', d'⟩ := y
  simp only at hv hl hh
  subst hv hl hh
  rfl
 subst hxy
 obtain ⟨l1, g1⟩ := List.getElem?_eq_some_iff.1 hx
 obtain ⟨l2, g2⟩ := List.getElem?_eq_some_iff.1 hy
 have := nodup_inj h.nd l1 l2 (g1.trans g2.symm)
 have := pp.1
 have := pq.1
 omega
theorem canon {vars : Int} {L : List S71} (h : DV vars L) : ∀ (N : Nat) (p q : Int), p < N → q < N → Pl L p → Pl L q → Same vars L p q → p = q := by
 intro N
 induction N with
 | zero =>
  intro p q h1 _ pp _ _
  have := pp.1
  omega
 | succ N ih =>
  intro p q h1 h2 pp pq hs
  -- a place whose variable stands ahead of the other's has two equal branches: it is none
  have no : ∀ p q : Int, p < (N + 1 : Nat) → q < (N + 1 : Nat) → Pl L p → Pl L q → Same vars L p q → ¬ dvar vars L p < dvar vars L q := by
   intro p q h1 h2 pp pq hs hlt
   have c : ¬ p < 2 := (dvar_two h pp).1 (by have := (h.dvar_le pq).2; omega)
   have f := fun hi => gat_ok h pp (Int.le_refl _) ((dvar_two h pp).2 c) hi
   obtain ⟨ne, l1, l2⟩ := gat_ne h pp c
   have s0 := same_gat h pp pq hs c (by omega) false
   have s1 := same_gat h pp pq hs c (by omega) true
   rw [gat_above hlt] at s0 s1
   exact ne (ih _ _ (by omega) (by omega) (f false).1 (f true).1 (fun bits hb => (s0 bits hb).trans (s1 bits hb).symm))
  have e : dvar vars L p = dvar vars L q := by
   have a := no p q h1 h2 pp pq hs
   have b := no q p h2 h1 pq pp (fun bits hb => (hs bits hb).symm)
   omega
  by_cases c : p < 2
  ·have c2 : q < 2 := by
    refine Decidable.byContradiction (fun c2 => ?_)
    have := (dvar_two h pq).2 c2
    have := dvar_const (vars := vars) (L := L) c
    omega
   have := hs (List.replicate 12 0) (by simp)
   rw [dvP_const c, dvP_const c2] at this
   exact this
  ·have c2 : ¬ q < 2 := (dvar_two h pq).1 (by rw [← e]; exact (dvar_two h pp).2 c)
   have f := fun hi => gat_ok h pp (Int.le_refl _) ((dvar_two h pp).2 c) hi
   have g := fun hi => gat_ok h pq (Int.le_refl _) ((dvar_two h pq).2 c2) hi
   obtain ⟨_, l1, l2⟩ := gat_ne h pp c
   obtain ⟨_, l3, l4⟩ := gat_ne h pq c2
   rw [← e] at g l3 l4
   exact place_eq h pp pq c c2 e (ih _ _ (by omega) (by omega) (f false).1 (g false).1 (same_gat h pp pq hs c (by omega) false)) (ih _ _ (by omega) (by omega) (f true).1 (g true).1 (same_gat h pp pq hs c (by omega) true))
theorem canon_eq {vars : Int} {L : List S71} (h : DV vars L) {p q : Int} (pp : Pl L p) (pq : Pl L q) (hs : Same vars L p q) : p = q := canon h (p.toNat + q.toNat + 1) p q (by have := pp.1; have := pq.1; omega) (by have := pp.1; have := pq.1; omega) pp pq hs
theorem tval_low {vars : Int} {L : List S71} (h : DV vars L) (bits : List Int) {w : Int} (hw : 0 ≤ w) (x : Int) {t : DT} : ∀ {m : Int}, TOk vars L m t → w < m → tval vars L (bits.set w.toNat x) t = tval vars L bits t := by
 induction t with
 | leaf n =>
  intro m ht hm
  exact dvP_low h bits hw x ht.1 (by have := ht.2; omega)
 | fork v lo hi ihl ihh =>
  intro m ht hm
  obtain ⟨t1, t2, t3, t4, t5⟩ := ht
  unfold tval
  rw [rd_set_far x hw t2 (by omega), ihl t4 (by omega), ihh t5 (by omega)]
theorem tval_side {vars : Int} {L : List S71} (h : DV vars L) {bits : List Int} (hb : bits.length = 12) {v : Int} {lo hi : DT} {m : Int} (ht : TOk vars L m (.fork v lo hi)) : tval vars L (bits.set v.toNat 0) (.fork v lo hi) = tval vars L bits lo ∧ tval vars L (bits.set v.toNat 1) (.fork v lo hi) = tval vars L bits hi := by
 obtain ⟨t1, t2, t3, t4, t5⟩ := ht
 have h12 := h.v12
 constructor
 ·show (if rd (bits.set v.toNat 0) v = 1 then _ else _) = _
  rw [rd_set_at _ t2 (by omega), if_neg (by decide), tval_low h bits t2 0 t4 (by omega)]
 ·show (if rd (bits.set v.toNat 1) v = 1 then _ else _) = _
  rw [rd_set_at _ t2 (by omega), if_pos rfl, tval_low h bits t2 1 t5 (by omega)]
/-- A tree that has a place's values comes to that place, and nothing is added. -/
theorem ins_there {vars : Int} {L : List S71} (h : DV vars L) {t : DT} : ∀ {m : Int} (p : Int), TOk vars L m t → Pl L p → (∀ bits : List Int, bits.length = 12 → tval vars L bits t = dvP vars L bits p) → ins L t = (L, p) := by
 induction t with
 | leaf n =>
  intro m p ht pp hs
  rw [show n = p from canon_eq h ht.1 pp hs]
  rfl
 | fork v lo hi ihl ihh =>
  intro m p ht pp hs
  obtain ⟨t1, t2, t3, t4, t5⟩ := ht
  have h12 := h.v12
  have ht' : TOk vars L v (.fork v lo hi) := ⟨Int.le_refl _, t2, t3, t4, t5⟩
  have side := fun bits hb => tval_side h (bits := bits) hb ht'
  have nl : ¬ dvar vars L p < v := fun hlt => by
   have c : ¬ p < 2 := (dvar_two h pp).1 (by omega)
   have hv0 := (h.dvar_le pp).1
   have f := fun hi => gat_ok h pp (Int.le_refl _) ((dvar_two h pp).2 c) hi
   obtain ⟨ne, _, _⟩ := gat_ne h pp c
   refine ne (canon_eq h (f false).1 (f true).1 (fun bits hb => ?_))
   have e0 := dvP_lo h bits hb pp c false
   have e1 := dvP_lo h bits hb pp c true
   rw [← e0, ← e1, ← hs _ (by simpa using hb), ← hs _ (by simpa using hb), tval_low h bits hv0 _ ht' (by omega), tval_low h bits hv0 _ ht' (by omega)]
  rw [ins_fork]
  by_cases e : dvar vars L p = v
  ·have c : ¬ p < 2 := (dvar_two h pp).1 (by omega)
   have f := fun hi => gat_ok h pp (Int.le_refl _) ((dvar_two h pp).2 c) hi
   obtain ⟨ne, _, _⟩ := gat_ne h pp c
   have el := ihl (gat L p v false) t4 (by rw [← e]; exact (f false).1) (fun bits hb => by
    rw [← (side bits hb).1, hs _ (by simpa using hb)]
    have := dvP_lo h bits hb pp c false
    rw [e] at this
    exact this)
   have eh := ihh (gat L p v true) t5 (by rw [← e]; exact (f true).1) (fun bits hb => by
    rw [← (side bits hb).2, hs _ (by simpa using hb)]
    have := dvP_lo h bits hb pp c true
    rw [e] at this
    exact this)
   rw [el]
   simp only
   rw [eh]
   simp only
   rw [e] at f ne
   have g0 := (f false).1.1
   have g1 := (f true).1.1
   rw [if_neg (by omega)]
   unfold dadd
   rw [if_neg (by omega), if_neg ne]
   obtain ⟨x, hx, hd, ev, _⟩ := h.at_ pp c
   have hxe : (⟨v, gat L p v false, gat L p v true⟩ : S71) = x := by
    have exv : x.f0 = v := by omega
    have hg0 : gat L p v false = x.f1 := by unfold gat; rw [if_neg c, hd, if_pos exv, if_neg (by decide)]
    have hg1 : gat L p v true = x.f2 := by unfold gat; rw [if_neg c, hd, if_pos exv, if_pos rfl]
    rw [hg0, hg1]
    obtain ⟨a, b, d⟩ := x
    simp only at exv ⊢
    rw [exv]
   rw [hxe, dfind_at h.nd hx]
   show (L, ((p - 2).toNat : Int) + 2) = (L, p)
   congr 1
   have := pp.1
   omega
  ·have hgt : v < dvar vars L p := by omega
   have el := ihl p t4 pp (fun bits hb => by
    rw [← (side bits hb).1, hs _ (by simpa using hb), dvP_low h bits t2 _ pp hgt])
   have eh := ihh p t5 pp (fun bits hb => by
    rw [← (side bits hb).2, hs _ (by simpa using hb), dvP_low h bits t2 _ pp hgt])
   rw [el]
   simp only
   rw [eh]
   simp only
   have := pp.1
   rw [if_neg (by omega)]
   unfold dadd
   rw [if_neg (by omega), if_pos rfl]
/-! #### for how many rows of bits a place is true -/
def sc (vars : Int) (L : List S71) : Nat → Int → Int → Int
 | 0, _, _ => 0
 | m + 1, n, v => if n < 2 then n * 2 ^ (vars - v).toNat else (sc vars L m (gat L n (dvar vars L n) false) (dvar vars L n + 1) + sc vars L m (gat L n (dvar vars L n) true) (dvar vars L n + 1)) * 2 ^ (dvar vars L n - v).toNat
theorem sc_same {vars : Int} {L : List S71} (h : DV vars L) : ∀ (m m2 : Nat) (n v : Int), Pl L n → vars - dvar vars L n < m → vars - dvar vars L n < m2 → sc vars L m n v = sc vars L m2 n v := by
 intro m
 induction m with
 | zero =>
  intro m2 n v p h1 _
  have := (h.dvar_le p).2
  omega
 | succ m ih =>
  intro m2 n v p h1 h2
  cases m2 with
  | zero =>
   have := (h.dvar_le p).2
   omega
  | succ m2 =>
   unfold sc
   by_cases c : n < 2
   ·rw [if_pos c, if_pos c]
   ·have f := fun hi => gat_ok h p (Int.le_refl _) ((dvar_two h p).2 c) hi
    rw [if_neg c, if_neg c, ih m2 _ _ (f false).1 (by have := (f false).2; omega) (by have := (f false).2; omega), ih m2 _ _ (f true).1 (by have := (f true).2; omega) (by have := (f true).2; omega)]
def scP (vars : Int) (L : List S71) (n v : Int) : Int := sc vars L 13 n v
theorem scP_const {vars : Int} {L : List S71} {n : Int} (c : n < 2) (v : Int) : scP vars L n v = n * 2 ^ (vars - v).toNat := by
 unfold scP sc
 rw [if_pos c]
theorem scP_fork {vars : Int} {L : List S71} (h : DV vars L) {n : Int} (p : Pl L n) (c : ¬ n < 2) (v : Int) : scP vars L n v = (scP vars L (gat L n (dvar vars L n) false) (dvar vars L n + 1) + scP vars L (gat L n (dvar vars L n) true) (dvar vars L n + 1)) * 2 ^ (dvar vars L n - v).toNat := by
 have f := fun hi => gat_ok h p (Int.le_refl _) ((dvar_two h p).2 c) hi
 have a0 := (h.dvar_le p).1
 have a1 := h.v12
 unfold scP
 rw [sc.eq_2, if_neg c, sc_same h 12 13 _ _ (f false).1 (by have := (f false).2; omega) (by have := (f false).2; omega), sc_same h 12 13 _ _ (f true).1 (by have := (f true).2; omega) (by have := (f true).2; omega)]
theorem two_split (a b : Nat) : (2 : Int) ^ (a + b) = 2 ^ a * 2 ^ b := Int.pow_add 2 a b
theorem sc_shift {vars : Int} {L : List S71} (h : DV vars L) {n v w : Int} (p : Pl L n) (h1 : v ≤ w) (h2 : w ≤ dvar vars L n) : scP vars L n v = scP vars L n w * 2 ^ (w - v).toNat := by
 by_cases c : n < 2
 ·have hd := dvar_const (vars := vars) (L := L) c
  rw [scP_const c, scP_const c, show (vars - v).toNat = (vars - w).toNat + (w - v).toNat by omega, two_split, Int.mul_assoc]
 ·rw [scP_fork h p c, scP_fork h p c, show (dvar vars L n - v).toNat = (dvar vars L n - w).toNat + (w - v).toNat by omega, two_split, Int.mul_assoc]
theorem pow_small {m : Nat} (h : m ≤ 12) : 1 ≤ (2 : Int) ^ m ∧ (2 : Int) ^ m ≤ 4096 := by
 have e : (2 : Int) ^ m = ((2 ^ m : Nat) : Int) := by simp
 have h1 : (2 : Nat) ^ m ≤ 2 ^ 12 := Nat.pow_le_pow_right (by decide) h
 have h2 : 0 < (2 : Nat) ^ m := Nat.pow_pos (by decide)
 have e12 : (2 : Nat) ^ 12 = 4096 := by decide
 rw [e]
 omega
theorem sc_bound {vars : Int} {L : List S71} (h : DV vars L) : ∀ (m : Nat) (n v : Int), Pl L n → vars - dvar vars L n < m → 0 ≤ v → v ≤ dvar vars L n → 0 ≤ scP vars L n v ∧ scP vars L n v ≤ 2 ^ (vars - v).toNat := by
 intro m
 induction m with
 | zero =>
  intro n v p h1 _ _
  have := (h.dvar_le p).2
  omega
 | succ m ih =>
  intro n v p h1 v0 v1
  have h12 := h.v12
  have hd2 := (h.dvar_le p).2
  have pw := (pow_small (m := (vars - v).toNat) (by omega)).1
  by_cases c : n < 2
  ·rw [scP_const c]
   have hn : n = 0 ∨ n = 1 := by have := p.1; omega
   rcases hn with rfl | rfl
   ·rw [Int.zero_mul]
    omega
   ·rw [Int.one_mul]
    omega
  ·have hv := (dvar_two h p).2 c
   have f := fun hi => gat_ok h p (Int.le_refl _) hv hi
   obtain ⟨a0, a1⟩ := ih _ (dvar vars L n + 1) (f false).1 (by have := (f false).2; omega) (by omega) (by have := (f false).2; omega)
   obtain ⟨b0, b1⟩ := ih _ (dvar vars L n + 1) (f true).1 (by have := (f true).2; omega) (by omega) (by have := (f true).2; omega)
   rw [scP_fork h p c]
   have e : (2 : Int) ^ (vars - v).toNat = (2 ^ (vars - (dvar vars L n + 1)).toNat + 2 ^ (vars - (dvar vars L n + 1)).toNat) * 2 ^ (dvar vars L n - v).toNat := by
    rw [show (vars - v).toNat = (vars - (dvar vars L n + 1)).toNat + 1 + (dvar vars L n - v).toNat by omega, two_split, Int.pow_succ]
    congr 1
    omega
   rw [e]
   have hp := (pow_small (m := (dvar vars L n - v).toNat) (by omega)).1
   exact ⟨Int.mul_nonneg (by omega) (by omega), Int.mul_le_mul_of_nonneg_right (by omega) (by omega)⟩
theorem scP_bound {vars : Int} {L : List S71} (h : DV vars L) {n : Int} (p : Pl L n) : 0 ≤ scP vars L n 0 ∧ scP vars L n 0 ≤ 4096 := by
 have a0 := (h.dvar_le p).1
 have a1 := h.v12
 have hb := sc_bound h 13 n 0 p (by omega) (Int.le_refl _) a0
 have := (pow_small (m := (vars - 0).toNat) (by omega)).2
 omega
/-- The contrary of a place is true for all other rows. -/
def Contrary (vars : Int) (L : List S71) (p q : Int) : Prop := ∀ bits : List Int, bits.length = 12 → dvP vars L bits p + dvP vars L bits q = 1
theorem contrary_gat {vars : Int} {L : List S71} (h : DV vars L) {p q : Int} (pp : Pl L p) (pq : Pl L q) (hs : Contrary vars L p q) (c : ¬ p < 2) (hle : dvar vars L p ≤ dvar vars L q) (hi : Bool) : Contrary vars L (gat L p (dvar vars L p) hi) (gat L q (dvar vars L p) hi) := by
 intro bits hb
 have h1 := hs (bits.set (dvar vars L p).toNat (if hi = true then 1 else 0)) (by simpa using hb)
 rw [dvP_lo h bits hb pp c hi] at h1
 rw [← h1]
 congr 1
 by_cases e : dvar vars L q = dvar vars L p
 ·have c2 : ¬ q < 2 := (dvar_two h pq).1 (by rw [e]; exact (dvar_two h pp).2 c)
  rw [← e, dvP_lo h bits hb pq c2 hi]
 ·rw [dvP_low h bits (h.dvar_le pp).1 _ pq (by omega), gat_above (vars := vars) (by omega)]
theorem contrary_var {vars : Int} {L : List S71} (h : DV vars L) {p q : Int} (pp : Pl L p) (pq : Pl L q) (hs : Contrary vars L p q) : ¬ dvar vars L p < dvar vars L q := fun hlt => by
 have c : ¬ p < 2 := (dvar_two h pp).1 (by have := (h.dvar_le pq).2; omega)
 have f := fun hi => gat_ok h pp (Int.le_refl _) ((dvar_two h pp).2 c) hi
 obtain ⟨ne, _, _⟩ := gat_ne h pp c
 have s0 := contrary_gat h pp pq hs c (by omega) false
 have s1 := contrary_gat h pp pq hs c (by omega) true
 rw [gat_above hlt] at s0 s1
 exact ne (canon_eq h (f false).1 (f true).1 (fun bits hb => by have := s0 bits hb; have := s1 bits hb; omega))
theorem sc_contrary {vars : Int} {L : List S71} (h : DV vars L) : ∀ (m : Nat) (p q v : Int), Pl L p → Pl L q → vars - dvar vars L p < m → v ≤ dvar vars L p → Contrary vars L p q → scP vars L p v + scP vars L q v = 2 ^ (vars - v).toNat := by
 intro m
 induction m with
 | zero =>
  intro p q v pp _ h1 _ _
  have := (h.dvar_le pp).2
  omega
 | succ m ih =>
  intro p q v pp pq h1 hv hs
  have e : dvar vars L p = dvar vars L q := by
   have a := contrary_var h pp pq hs
   have b := contrary_var h pq pp (fun bits hb => by have := hs bits hb; omega)
   omega
  by_cases c : p < 2
  ·have c2 : q < 2 := by
    refine Decidable.byContradiction (fun c2 => ?_)
    have := (dvar_two h pq).2 c2
    have := dvar_const (vars := vars) (L := L) c
    omega
   have := hs (List.replicate 12 0) (by simp)
   rw [dvP_const c, dvP_const c2] at this
   rw [scP_const c, scP_const c2, ← Int.add_mul, this, Int.one_mul]
  ·have hpv := (dvar_two h pp).2 c
   have c2 : ¬ q < 2 := (dvar_two h pq).1 (by rw [← e]; exact hpv)
   have f := fun hi => gat_ok h pp (Int.le_refl _) hpv hi
   have g := fun hi => gat_ok h pq (Int.le_refl _) ((dvar_two h pq).2 c2) hi
   rw [scP_fork h pp c, scP_fork h pq c2]
   rw [← e] at g ⊢
   have a := ih _ _ (dvar vars L p + 1) (f false).1 (g false).1 (by have := (f false).2; omega) (by have := (f false).2; omega) (contrary_gat h pp pq hs c (by omega) false)
   have b := ih _ _ (dvar vars L p + 1) (f true).1 (g true).1 (by have := (f true).2; omega) (by have := (f true).2; omega) (contrary_gat h pp pq hs c (by omega) true)
   have ee : (2 : Int) ^ (vars - v).toNat = (2 ^ (vars - (dvar vars L p + 1)).toNat + 2 ^ (vars - (dvar vars L p + 1)).toNat) * 2 ^ (dvar vars L p - v).toNat := by
    rw [show (vars - v).toNat = (vars - (dvar vars L p + 1)).toNat + 1 + (dvar vars L p - v).toNat by omega, two_split, Int.pow_succ]
    congr 1
    omega
   rw [ee, ← Int.add_mul]
   congr 1
   omega
theorem shl_bit {n : Int} (hn : n = 0 ∨ n = 1) {vars : Int} (h0 : 0 ≤ vars) (h1 : vars ≤ 12) : shl .i64 n vars = n * 2 ^ vars.toNat := by
 obtain ⟨m, rfl⟩ := Int.eq_ofNat_of_zero_le h0
 have : m = 0 ∨ m = 1 ∨ m = 2 ∨ m = 3 ∨ m = 4 ∨ m = 5 ∨ m = 6 ∨ m = 7 ∨ m = 8 ∨ m = 9 ∨ m = 10 ∨ m = 11 ∨ m = 12 := by omega
 rcases hn with rfl | rfl <;> rcases this with rfl | rfl | rfl | rfl | rfl | rfl | rfl | rfl | rfl | rfl | rfl | rfl | rfl <;> decide +kernel
theorem count_cl {vars : Int} {L : List S71} (h : DV vars L) : ∀ (m : Nat) (n : Int) (mm : Int → Option Int), (∀ q r, mm q = some r → Pl L q ∧ r = scP vars L q 0) → Pl L n → vars - dvar vars L n < m →
  ∃ mm', Ev (fun k => impl_Diagram_count.cl k vars L n mm) (mm', scP vars L n 0) ∧ ∀ q r, mm' q = some r → Pl L q ∧ r = scP vars L q 0 := by
 intro m
 induction m with
 | zero =>
  intro n mm _ p h1
  have := (h.dvar_le p).2
  omega
 | succ m ih =>
  intro n mm hm p h1
  have p0 := p.1
  have p1 := p.2
  have hl := h.len
  have v0 := h.v0
  have v12 := h.v12
  by_cases c : n < 2
  ·refine ⟨mm, Ev.step (Ev.pos c (Ev.pos (by omega) (Ev.valEq ?_))) (fun k => impl_Diagram_count.cl.eq_2 ..), hm⟩
   rw [shl_bit (by omega) v0 v12, scP_const c, show (vars - 0).toNat = vars.toNat by omega]
  ·have hk : KeyI n := keyI p0 (by omega)
   cases hq : mm n with
   | some r =>
    refine ⟨mm, Ev.step (Ev.neg c (Ev.pos hk ?_)) (fun k => impl_Diagram_count.cl.eq_2 ..), hm⟩
    rw [hq, (hm n r hq).2]
    exact Ev.val _
   | none =>
    have hv := (dvar_two h p).2 c
    have hd0 := (h.dvar_le p).1
    have f := fun hi => gat_ok h p (Int.le_refl _) hv hi
    have g1 : (rd_T71 L (n - 2)).f1 = gat L n (dvar vars L n) false := by rw [gat_self c]; rfl
    have g2 : (rd_T71 L (n - 2)).f2 = gat L n (dvar vars L n) true := by rw [gat_self c]; rfl
    obtain ⟨m1, e1, k1⟩ := ih _ mm hm (f false).1 (by have := (f false).2; omega)
    obtain ⟨m2, e2, k2⟩ := ih _ m1 k1 (f true).1 (by have := (f true).2; omega)
    have b1 := scP_bound h (f false).1
    have b2 := scP_bound h (f true).1
    have s1 := sc_shift h (v := 0) (w := dvar vars L n + 1) (f false).1 (by omega) (by have := (f false).2; omega)
    have s2 := sc_shift h (v := 0) (w := dvar vars L n + 1) (f true).1 (by omega) (by have := (f true).2; omega)
    have hr : wrap64 ((wrap64 (scP vars L (gat L n (dvar vars L n) false) 0 + scP vars L (gat L n (dvar vars L n) true) 0)).tdiv 2) = scP vars L n 0 := by
     rw [w_id (x := scP vars L (gat L n (dvar vars L n) false) 0 + scP vars L (gat L n (dvar vars L n) true) 0) (by omega) (by omega), Int.tdiv_eq_ediv_of_nonneg (by omega), w_id (by omega) (by omega), scP_fork h p c, s1, s2, ← Int.add_mul, show (dvar vars L n + 1 - 0).toNat = (dvar vars L n - 0).toNat + 1 by omega, Int.pow_succ, ← Int.mul_assoc, Int.mul_ediv_cancel _ (by decide)]
    refine ⟨fun y => if y = n then some (scP vars L n 0) else m2 y, Ev.step (Ev.neg c (Ev.pos hk ?_)) (fun k => impl_Diagram_count.cl.eq_2 ..), fun q r hq2 => ?_⟩
    ·rw [hq, w_id (by omega) (by omega), g1, g2]
     refine Ev.pos (by omega) (Ev.pos (by omega) (Ev.bind e1 (Ev.bind e2 (Ev.valEq ?_))))
     simp only [hr]
    ·by_cases e : q = n
     ·subst e
      have : scP vars L q 0 = r := by simpa using hq2
      exact ⟨p, this.symm⟩
     ·have : m2 q = some r := by simpa [e] using hq2
      exact k2 q r this
theorem diagramCount_val {vars : Int} {L : List S71} (h : DV vars L) {n : Int} (p : Pl L n) : Ev (fun k => impl_DiagramCount.f k vars L n) (scP vars L n 0) := by
 unfold impl_DiagramCount.f
 have hl := h.len
 have a0 := (h.dvar_le p).1
 have a1 := h.v12
 obtain ⟨q, hq, h1⟩ := impl_dv vars L
 have hq1 : q = true := h1.2 h
 subst hq1
 obtain ⟨mm', e, _⟩ := count_cl h 13 n (fun _ => none) (fun q r hq => by cases hq) p (by omega)
 refine Ev.bind (Ev.const hq) (Ev.pos rfl (Ev.bind (Ev.const (isPlace_val vars n (by omega))) ?_))
 rw [@decide_eq_true _ (decPl L n) p]
 refine Ev.pos rfl (Ev.bind (a := scP vars L n 0) ?_ (Ev.val _))
 unfold impl_Diagram_count.f
 exact Ev.bind e (Ev.val _)

theorem draw_not (code : List Int) (hc : ∀ x ∈ code, (Lit.int .u8 x).wf = true) : Tot (fun k => spec_DrawDiagramNot.f k code) (fun _ => True) := by
 obtain ⟨b, ho, hb⟩ := open_tot code hc
 unfold spec_DrawDiagramNot.f
 refine Tot.bind (Tot.of (Ev.const ho) (P := fun r => r = (b, 0)) rfl) ?_
 rintro r rfl
 exact Tot.bind (any_tot b hb 0 5 (by decide) (by decide) (by decide) (by decide)) (fun _ _ => Tot.val trivial)
theorem not_1 {x : Int} (h : x = 0 ∨ x = 1) : opv 2 x 1 = 1 - x := by
 rcases h with rfl | rfl <;> decide
theorem FnDiagramNot : laws_FnDiagramNot.Pure := by
 intro code _ _ hc
 apply Ev.get
 unfold laws_FnDiagramNot.f
 by_cases c0 : (code.length : Int) > 1048576
 ·exact Ev.pos c0 (Ev.val _)
 refine Ev.neg c0 ?_
 obtain ⟨⟨vars, L, n⟩, hdraw, _⟩ := draw_not code hc
 refine Ev.bind hdraw ?_
 simp only
 have both : ∀ (L : List S71) (a : Int) (r : Int × List S71 × Int), TwoIs vars L 2 a 1 r → Ev (fun k => impl_DiagramNot.f k vars L a) r ∧ Ev (fun k => spec_DiagramNot.f k vars L a) r := fun L a r hr =>
  ⟨by unfold impl_DiagramNot.f; exact Ev.bind (applied_v (op := 0) (.inl ⟨rfl, rfl⟩) hr) (Ev.val _), by unfold spec_DiagramNot.f; exact Ev.bind (spec_two (.inr (.inr rfl)) hr) (Ev.val _)⟩
 have p1 : ∀ L : List S71, Pl L 1 := fun L => ⟨by decide, by omega⟩
 by_cases c : DV vars L ∧ Pl L n
 ·obtain ⟨hd, pn⟩ := c
  obtain ⟨e1, e2⟩ := both L n (told vars (ins L (doP vars L 2 n 1))) ⟨fun _ => rfl, fun h => absurd ⟨hd, pn, p1 L⟩ h⟩
  refine Ev.bind e1 (Ev.bind e2 (Ev.pos rfl (Ev.pos rfl ?_)))
  by_cases cn : (ins L (doP vars L 2 n 1)).2 < 0
  ·have et : told vars (ins L (doP vars L 2 n 1)) = (0, [], -1) := by unfold told; rw [if_pos cn]
   rw [et]
   exact Ev.step (Ev.pos (by decide) (Ev.pos rfl (Ev.pos rfl (Ev.val _)))) (fun k => laws_FnDiagramNot.j0.eq_2 ..)
  ·have hn : 0 ≤ (ins L (doP vars L 2 n 1)).2 := by omega
   have et : told vars (ins L (doP vars L 2 n 1)) = (vars, (ins L (doP vars L 2 n 1)).1, (ins L (doP vars L 2 n 1)).2) := by unfold told; rw [if_neg cn]
   rw [et]
   obtain ⟨dd, hp⟩ := doP_dv hd 2 pn (p1 L)
   have pm := (hp hn).1
   have he := ins_ext L (doP vars L 2 n 1)
   have hval : ∀ bits, dvP vars (ins L (doP vars L 2 n 1)).1 bits (ins L (doP vars L 2 n 1)).2 = 1 - dvP vars L bits n := fun bits => by
    rw [doP_val hd (.inr (.inr rfl)) bits pn (p1 L) hn, dvP_const (n := 1) (by decide)]
    exact not_1 (dvP_01 hd bits pn)
   generalize (ins L (doP vars L 2 n 1)).1 = L2 at dd pm he hval ⊢
   generalize (ins L (doP vars L 2 n 1)).2 = m at cn hn pm hval ⊢
   have pn2 := pn.ext he
   have hcon : Contrary vars L2 n m := fun bits _ => by
    rw [hval bits, dvP_ext hd he bits pn]
    omega
   have x01 := fun bits => dvP_01 dd bits pn2
   have mv := fun (bits : List Int) (hb : bits.length = 12) => hcon bits hb
   -- both, all, back
   have there : ∀ (sop a b p : Int), (sop = 0 ∨ sop = 1 ∨ sop = 2) → Pl L2 a → Pl L2 b → Pl L2 p → (∀ bits : List Int, bits.length = 12 → opv sop (dvP vars L2 bits a) (dvP vars L2 bits b) = dvP vars L2 bits p) → told vars (ins L2 (doP vars L2 sop a b)) = (vars, L2, p) := fun sop a b p ho pa pb pp hv => by
    have hi : ins L2 (doP vars L2 sop a b) = (L2, p) := ins_there dd p (doT_ok dd sop 13 a b pa pb) pp (fun bits hb => by
     rw [← hv bits hb]
     exact doT_val dd ho bits 13 a b pa pb (enough13 dd pa pb))
    rw [hi]
    unfold told
    rw [if_neg (by have := pp.1; omega)]
   have p0 : Pl L2 0 := ⟨Int.le_refl _, by omega⟩
   have hand : Ev (fun k => impl_DiagramAnd.f k vars L2 n m) (vars, L2, 0) := by
    unfold impl_DiagramAnd.f
    refine Ev.bind (applied_v (op := 1) (.inr (.inl rfl)) (r := (vars, L2, 0)) ⟨fun _ => ?_, fun h => absurd ⟨dd, pn2, pm⟩ h⟩) (Ev.val _)
    refine (there 0 n m 0 (.inl rfl) pn2 pm p0 (fun bits hb => ?_)).symm
    have h1 := mv bits hb
    rw [dvP_const (n := 0) (by decide)]
    show dvP vars L2 bits n * dvP vars L2 bits m = 0
    rcases x01 bits with h | h
    ·rw [h, Int.zero_mul]
    ·rw [show dvP vars L2 bits m = 0 by omega, Int.mul_zero]
   have hor : Ev (fun k => impl_DiagramOr.f k vars L2 n m) (vars, L2, 1) := by
    unfold impl_DiagramOr.f
    refine Ev.bind (applied_v (op := 2) (.inr (.inr rfl)) (r := (vars, L2, 1)) ⟨fun _ => ?_, fun h => absurd ⟨dd, pn2, pm⟩ h⟩) (Ev.val _)
    refine (there 1 n m 1 (.inr (.inl rfl)) pn2 pm (p1 L2) (fun bits hb => ?_)).symm
    have h1 := mv bits hb
    rw [dvP_const (n := 1) (by decide)]
    show (if dvP vars L2 bits n + dvP vars L2 bits m = 0 then (0 : Int) else 1) = 1
    rw [if_neg (by omega)]
   obtain ⟨hback, _⟩ := both L2 m (vars, L2, n) ⟨fun _ => (there 2 m 1 n (.inr (.inr rfl)) pm (p1 L2) pn2 (fun bits hb => by
    have h1 := mv bits hb
    rw [dvP_const (n := 1) (by decide), not_1 (dvP_01 dd bits pm)]
    omega)).symm, fun h => absurd ⟨dd, pm, p1 L2⟩ h⟩
   have v0 := dd.v0
   have v12 := dd.v12
   have hsum := sc_contrary dd 13 n m 0 pn2 pm (by have := (dd.dvar_le pn2).1; omega) (dd.dvar_le pn2).1 hcon
   have b1 := scP_bound dd pn2
   have b2 := scP_bound dd pm
   have hsh : shl .i64 1 vars = 2 ^ (vars - 0).toNat := by rw [shl_bit (.inr rfl) v0 v12, Int.one_mul, show (vars - 0).toNat = vars.toNat by omega]
   refine Ev.step (Ev.neg (by simpa using hn) (Ev.bind hand (Ev.bind hor (Ev.bind hback ?_)))) (fun k => laws_FnDiagramNot.j0.eq_2 ..)
   refine Ev.pos rfl (Ev.pos rfl (Ev.pos rfl (Ev.bind (diagramCount_val dd pn2) (Ev.bind (diagramCount_val dd pm) (Ev.pos v0 (Ev.valEq ?_))))))
   rw [w_id (by omega) (by omega), hsum, hsh]
   simp
 ·obtain ⟨e1, e2⟩ := both L n (0, [], -1) ⟨fun h => absurd ⟨h.1, h.2.1⟩ c, fun _ => rfl⟩
  exact Ev.bind e1 (Ev.bind e2 (Ev.pos rfl (Ev.pos rfl (Ev.step (Ev.pos (by decide) (Ev.pos rfl (Ev.pos rfl (Ev.val _)))) (fun k => laws_FnDiagramNot.j0.eq_2 ..)))))

end Go.Proofs.Ytpcompnmadpljaa.Pure
