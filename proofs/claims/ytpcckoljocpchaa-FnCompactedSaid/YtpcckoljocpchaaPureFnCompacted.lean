/- FnCompacted: the compacted diagram has just the forks to which one comes, and they are enough, on both sides, whatever is drawn. -/
import Derived.Test.YtpcckoljocpchaaQFnCompactedx13
namespace Go.Proofs.Ytpcckoljocpchaa.Pure
open Go.RowKit Go.Proofs.Ytpcckoljocpchaa.QFnCompacted Go.Proofs.YtpcckoljocpchaaW.PrintWords Go.Proofs.YtpcckoljocpchaaW.PrintLast Go.Proofs.YtpcckoljocpchaaW.PrintMore
set_option linter.unusedVariables false
set_option linter.unusedSimpArgs false

/-! #### rounds -/
/-- From some number of rounds on, g tells r. -/
def Ev {α : Type} (g : Nat → Option α) (r : α) : Prop := ∃ K, ∀ k, K ≤ k → g k = some r
theorem Ev.val {α : Type} (r : α) : Ev (fun _ => some r) r := ⟨0, fun _ _ => rfl⟩
theorem Ev.valEq {α : Type} {r r' : α} (h : r = r') : Ev (fun _ => some r) r' := ⟨0, fun _ _ => by rw [h]⟩
theorem Ev.const {α : Type} {g : Option α} {r : α} (h : g = some r) : Ev (fun _ => g) r := ⟨0, fun _ _ => h⟩
theorem Ev.bind {α β : Type} {g : Nat → Option α} {f : Nat → α → Option β} {a : α} {b : β} (h : Ev g a) (h2 : Ev (fun k => f k a) b) : Ev (fun k => (g k).bind (f k)) b := by
 obtain ⟨K, hK⟩ := h
 obtain ⟨L, hL⟩ := h2
 exact ⟨max K L, fun k hk => by show (g k).bind (f k) = _; rw [hK k (by omega)]; exact hL k (by omega)⟩
theorem Ev.step {α : Type} {g g' : Nat → Option α} {r : α} (h : Ev g' r) (e : ∀ k, g (k + 1) = g' k) : Ev g r := by
 obtain ⟨K, hK⟩ := h
 exact ⟨K + 1, fun k hk => by
  obtain ⟨m, rfl⟩ : ∃ m, k = m + 1 := ⟨k - 1, by omega⟩
  rw [e]
  exact hK m (by omega)⟩
theorem Ev.pos {α : Type} {c : Prop} [Decidable c] {g g' : Nat → Option α} {r : α} (hc : c) (h : Ev g r) : Ev (fun k => if c then g k else g' k) r := by
 obtain ⟨K, hK⟩ := h
 exact ⟨K, fun k hk => by simp only [if_pos hc]; exact hK k hk⟩
theorem Ev.neg {α : Type} {c : Prop} [Decidable c] {g g' : Nat → Option α} {r : α} (hc : ¬ c) (h : Ev g' r) : Ev (fun k => if c then g k else g' k) r := by
 obtain ⟨K, hK⟩ := h
 exact ⟨K, fun k hk => by simp only [if_neg hc]; exact hK k hk⟩
theorem Ev.get {α : Type} {g : Nat → Option α} {r : α} (h : Ev g r) : ∃ k, g k = some r := by
 obtain ⟨K, hK⟩ := h
 exact ⟨K, hK K (Nat.le_refl _)⟩
/-! #### numbers -/
theorem w_id {x : Int} (h0 : -9223372036854775808 ≤ x) (h1 : x ≤ 9223372036854775807) : wrap64 x = x := by
 unfold wrap64
 omega
/-! #### lists -/
theorem rd_nat (l : List Int) (i : Nat) : rd l (i : Int) = l.getD i 0 := by
 unfold rd
 rw [Int.toNat_natCast]
theorem getD_lt {α : Type} {l : List α} {i : Nat} (h : i < l.length) (d : α) : l.getD i d = l[i] := by
 rw [List.getD_eq_getElem?_getD, List.getElem?_eq_getElem h]
 rfl
theorem rd_lt {l : List Int} {i : Nat} (h : i < l.length) : rd l (i : Int) = l[i] := by rw [rd_nat, getD_lt h]
theorem rd_set_eq {l : List Int} {i : Nat} {v : Int} (h : i < l.length) : rd (l.set i v) (i : Int) = v := by
 rw [rd_lt (by simpa using h)]
 simp
theorem rd_set_ne {l : List Int} {i j : Nat} {v : Int} (h : i ≠ j) : rd (l.set i v) (j : Int) = rd l (j : Int) := by
 rw [rd_nat, rd_nat, List.getD_eq_getElem?_getD, List.getD_eq_getElem?_getD, List.getElem?_set_ne h]
theorem wsucc (i : Nat) (h : i ≤ 4611686018427387904) : wrap64 ((i : Int) + 1) = ((i + 1 : Nat) : Int) := by
 unfold wrap64
 omega
/-! #### it tells something, of which P holds -/
def Tot {α : Type} (g : Nat → Option α) (P : α → Prop) : Prop := ∃ r, Ev g r ∧ P r
theorem Tot.of {α : Type} {g : Nat → Option α} {P : α → Prop} {r : α} (h : Ev g r) (hp : P r) : Tot g P := ⟨r, h, hp⟩
theorem Tot.val {α : Type} {P : α → Prop} {r : α} (h : P r) : Tot (fun _ => some r) P := ⟨r, Ev.val r, h⟩
theorem Tot.mono {α : Type} {g : Nat → Option α} {P Q : α → Prop} (h : Tot g P) (hq : ∀ r, P r → Q r) : Tot g Q := by
 obtain ⟨r, h1, h2⟩ := h
 exact ⟨r, h1, hq r h2⟩
theorem Tot.step {α : Type} {g g' : Nat → Option α} {P : α → Prop} (h : Tot g' P) (e : ∀ k, g (k + 1) = g' k) : Tot g P := by
 obtain ⟨r, h1, h2⟩ := h
 exact ⟨r, Ev.step h1 e, h2⟩
theorem Tot.bind {α β : Type} {g : Nat → Option α} {f : Nat → α → Option β} {Q : α → Prop} {P : β → Prop} (h : Tot g Q) (h2 : ∀ a, Q a → Tot (fun k => f k a) P) : Tot (fun k => (g k).bind (f k)) P := by
 obtain ⟨a, ha, hq⟩ := h
 obtain ⟨r, h1, h3⟩ := h2 a hq
 exact ⟨r, Ev.bind ha h1, h3⟩
theorem Tot.pos {α : Type} {c : Prop} [Decidable c] {g g' : Nat → Option α} {P : α → Prop} (hc : c) (h : Tot g P) : Tot (fun k => if c then g k else g' k) P := by
 obtain ⟨r, h1, h2⟩ := h
 exact ⟨r, Ev.pos hc h1, h2⟩
theorem Tot.neg {α : Type} {c : Prop} [Decidable c] {g g' : Nat → Option α} {P : α → Prop} (hc : ¬ c) (h : Tot g' P) : Tot (fun k => if c then g k else g' k) P := by
 obtain ⟨r, h1, h2⟩ := h
 exact ⟨r, Ev.neg hc h1, h2⟩
theorem Tot.ite {α : Type} {c : Prop} [Decidable c] {g g' : Nat → Option α} {P : α → Prop} (h1 : c → Tot g P) (h2 : ¬ c → Tot g' P) : Tot (fun k => if c then g k else g' k) P := by
 by_cases hc : c
 ·exact Tot.pos hc (h1 hc)
 ·exact Tot.neg hc (h2 hc)
/-! #### the drawer of numbers -/
def Drawer (b : List Int) : Prop := b.length ≤ 2000 ∧ ∀ j : Nat, j < b.length → 0 ≤ rd b (j : Int) ∧ rd b (j : Int) ≤ 255
theorem xor_nonneg (a c : Int) (ha : 0 ≤ a) (ha2 : a < 4611686018427387904) (hc : 0 ≤ c) (hc2 : c < 4611686018427387904) : 0 ≤ Go.bits .xor .i64 a c := by
 obtain ⟨m, rfl⟩ := Int.eq_ofNat_of_zero_le ha
 obtain ⟨n, rfl⟩ := Int.eq_ofNat_of_zero_le hc
 have hm : m < 2 ^ 62 := by omega
 have hn : n < 2 ^ 62 := by omega
 have hx := Nat.xor_lt_two_pow hm hn
 have hm' : m % 2 ^ 64 = m := Nat.mod_eq_of_lt (by omega)
 have hn' : n % 2 ^ 64 = n := Nat.mod_eq_of_lt (by omega)
 have e : (BitVec.ofInt 64 (m : Int) ^^^ BitVec.ofInt 64 (n : Int)).toNat = m ^^^ n := by
  rw [BitVec.ofInt_natCast, BitVec.ofInt_natCast, BitVec.toNat_xor, BitVec.toNat_ofNat, BitVec.toNat_ofNat, hm', hn']
 have e2 : Go.bits .xor .i64 (m : Int) (n : Int) = IntKind.i64.wrap ((BitVec.ofInt 64 (m : Int) ^^^ BitVec.ofInt 64 (n : Int)).toNat : Int) := rfl
 rw [e2, e, IntKind.wrap_i64]
 omega
theorem tmod_range (x n : Int) (h0 : 0 ≤ x) (hn : 1 ≤ n) : 0 ≤ Int.tmod x n ∧ Int.tmod x n < n := by
 rw [Int.tmod_eq_emod_of_nonneg h0]
 exact ⟨Int.emod_nonneg _ (by omega), Int.emod_lt_of_pos _ (by omega)⟩
theorem pick_tot (b : List Int) (hb : Drawer b) (p n : Int) (hp : 0 ≤ p) (hp2 : p ≤ 1000000) :
  Tot (fun k => spec_l40Rd_pick.f k b p n) (fun r => r.2 = p + 1 ∧ 0 ≤ r.1 ∧ (1 ≤ n → r.1 < n)) := by
 obtain ⟨hl, hbb⟩ := hb
 have w1 : wrap64 (p + 1) = p + 1 := w_id (by omega) (by omega)
 have w2 : wrap64 (p + 1 - 1) = p := by rw [w_id (by omega) (by omega)]; omega
 have byte : ∀ z : Int, 0 ≤ z → z < (b.length : Int) → 0 ≤ rd b z ∧ rd b z ≤ 255 := by
  intro z h0 h1
  obtain ⟨m, rfl⟩ := Int.eq_ofNat_of_zero_le h0
  exact hbb m (by omega)
 unfold spec_l40Rd_pick.f
 rw [w1]
 refine Tot.ite (fun hn => ?_) (fun hn => ?_)
 ·refine Tot.step (Tot.pos rfl (Tot.val ?_)) (fun k => spec_l40Rd_pick.j0.eq_2 ..)
  exact ⟨rfl, Int.le_refl _, fun h => by omega⟩
 ·refine Tot.step ?_ (fun k => spec_l40Rd_pick.j0.eq_2 ..)
  refine Tot.ite (fun hz => Tot.val ⟨rfl, Int.le_refl _, fun h => by show (0 : Int) < n; omega⟩) (fun hz => ?_)
  have hlen : (b.length : Int) ≠ 0 := by simpa using hz
  rw [w2]
  refine Tot.ite (fun hpl => ?_) (fun hpl => ?_)
  ·obtain ⟨y0, y1⟩ := byte p hp hpl
   refine Tot.pos hp (Tot.neg (by omega) (Tot.val ?_))
   rw [w_id (by omega) (by omega)]
   obtain ⟨z0, z1⟩ := tmod_range (rd b p) n y0 (by omega)
   exact ⟨rfl, z0, fun _ => z1⟩
  ·obtain ⟨i0, i1⟩ := tmod_range p (b.length : Int) hp (by omega)
   have w3 : wrap64 (p * 7) = p * 7 := w_id (by omega) (by omega)
   have w4 : wrap64 (p * 7 + 3) = p * 7 + 3 := w_id (by omega) (by omega)
   rw [w3, w4]
   obtain ⟨j0, j1⟩ := tmod_range (p * 7 + 3) (b.length : Int) (by omega) (by omega)
   refine Tot.neg (by omega) (Tot.pos i0 (Tot.pos i1 (Tot.pos j0 (Tot.pos j1 (Tot.neg (by omega) (Tot.val ?_))))))
   obtain ⟨u0, u1⟩ := byte _ i0 i1
   obtain ⟨v0, v1⟩ := byte _ j0 j1
   generalize rd b (Int.tmod p (b.length : Int)) = u at u0 u1 ⊢
   generalize rd b (Int.tmod (p * 7 + 3) (b.length : Int)) = v at v0 v1 ⊢
   have q0 : 0 ≤ Int.tdiv p (b.length : Int) ∧ Int.tdiv p (b.length : Int) ≤ p := by
    rw [Int.tdiv_eq_ediv_of_nonneg hp]
    exact ⟨Int.ediv_nonneg hp (by omega), Int.ediv_le_self _ hp⟩
   generalize Int.tdiv p (b.length : Int) = q at q0 ⊢
   rw [w_id (x := u) (by omega) (by omega), w_id (x := v) (by omega) (by omega), w_id (x := q) (by omega) (by omega), w_id (x := u * 131) (by omega) (by omega), w_id (x := v * 1117) (by omega) (by omega),
    w_id (x := p * 29) (by omega) (by omega), w_id (x := q * 53) (by omega) (by omega), w_id (x := u * 131 + v * 1117) (by omega) (by omega), w_id (x := u * 131 + v * 1117 + p * 29) (by omega) (by omega), w_id (x := u * 131 + v * 1117 + p * 29 + q * 53) (by omega) (by omega)]
   generalize hA : u * 131 + v * 1117 + p * 29 + q * 53 = A
   have hA0 : 0 ≤ A ∧ A ≤ 1000000000 := by omega
   have hd : 0 ≤ Int.tdiv A 64 ∧ Int.tdiv A 64 ≤ A := by
    rw [Int.tdiv_eq_ediv_of_nonneg hA0.1]
    omega
   rw [w_id (x := Int.tdiv A 64) (by omega) (by omega)]
   have hx := xor_nonneg A (Int.tdiv A 64) hA0.1 (by omega) hd.1 (by omega)
   obtain ⟨z0, z1⟩ := tmod_range _ n hx (by omega)
   exact ⟨rfl, z0, fun _ => z1⟩
theorem num_tot (b : List Int) (hb : Drawer b) (p : Int) (l : List Int) (hp : 0 ≤ p) (hp2 : p ≤ 1000000) (hl : 1 ≤ l.length) :
  Tot (fun k => spec_l40Rd_num.f k b p l) (fun r => r.2 = p + 1 ∧ r.1 ∈ l) := by
 unfold spec_l40Rd_num.f
 refine Tot.bind (pick_tot b hb p (l.length : Int) hp hp2) ?_
 rintro ⟨x, q⟩ ⟨h1, h2, h3⟩
 have h4 := h3 (by omega)
 refine Tot.pos h2 (Tot.pos h4 (Tot.val ⟨h1, ?_⟩))
 show rd l x ∈ l
 obtain ⟨m, rfl⟩ := Int.eq_ofNat_of_zero_le h2
 rw [rd_lt (by show m < _; simp only at h4; omega)]
 exact List.getElem_mem _
theorem open_tot (code : List Int) (hc : ∀ x ∈ code, (Lit.int .u8 x).wf = true) : ∃ b, spec_l40Open.f code = some (b, 0) ∧ Drawer b := by
 have byte : ∀ b : List Int, (∀ x ∈ b, x ∈ code) → ∀ j : Nat, j < b.length → 0 ≤ rd b (j : Int) ∧ rd b (j : Int) ≤ 255 := by
  intro b hs j hj
  rw [rd_lt hj]
  have := hc _ (hs _ (List.getElem_mem hj))
  simp [Lit.wf, IntKind.min, IntKind.max, IntKind.signed, IntKind.bits] at this
  omega
 unfold spec_l40Open.f
 by_cases c : (code.length : Int) > 2000
 ·rw [if_pos c, if_pos (by omega)]
  refine ⟨_, rfl, by simp; omega, byte _ (fun x hx => List.mem_of_mem_take hx)⟩
 ·rw [if_neg c]
  exact ⟨_, rfl, by omega, byte _ (fun x hx => hx)⟩
/-! #### diagrams, plainly: forks that are added once -/
/-- A tree of decisions over places. -/
inductive DT where
 | leaf (n : Int)
 | fork (v : Int) (lo hi : DT)
def dfind (L : List S56) (x : S56) : Option Nat := L.findIdx? (fun y => decide (y = x))
def dadd (L : List S56) (v lo hi : Int) : List S56 × Int :=
 if lo < 0 ∨ hi < 0 then (L, -1) else if lo = hi then (L, lo) else
 match dfind L ⟨v, lo, hi⟩ with
 | some i => (L, (i : Int) + 2)
 | none => if 2000 ≤ L.length then (L, -1) else (L ++ [⟨v, lo, hi⟩], (L.length : Int) + 2)
def ins (L : List S56) : DT → List S56 × Int
 | .leaf n => (L, n)
 | .fork v lo hi => if (ins L lo).2 < 0 then (L, -1) else dadd (ins (ins L lo).1 hi).1 v (ins L lo).2 (ins (ins L lo).1 hi).2
theorem dfind_some {L : List S56} {x : S56} {i : Nat} (h : dfind L x = some i) : L[i]? = some x := by
 unfold dfind at h
 rw [List.findIdx?_eq_some_iff_getElem] at h
 obtain ⟨hi, h1, _⟩ := h
 rw [List.getElem?_eq_getElem hi]
 exact congrArg some (of_decide_eq_true h1)
theorem dfind_none {L : List S56} {x : S56} (h : dfind L x = none) : x ∉ L := by
 unfold dfind at h
 rw [List.findIdx?_eq_none_iff] at h
 intro hx
 have := h x hx
 simp at this
theorem dfind_mem {L : List S56} {x : S56} (h : x ∈ L) : ∃ i, dfind L x = some i := by
 cases hd : dfind L x with
 | some i => exact ⟨i, rfl⟩
 | none => exact absurd h (dfind_none hd)
theorem dfind_append {L : List S56} {x : S56} {i : Nat} (h : dfind L x = some i) (t : List S56) : dfind (L ++ t) x = some i := by
 unfold dfind at h ⊢
 rw [List.findIdx?_append, h]
 rfl
theorem dfind_new {L : List S56} {x : S56} (h : dfind L x = none) (t : List S56) : dfind (L ++ x :: t) x = some L.length := by
 unfold dfind at h ⊢
 rw [List.findIdx?_append, h, List.findIdx?_cons]
 simp
def NoDup (L : List S56) : Prop := ∀ (i : Nat) x, L[i]? = some x → x ∉ L.take i
theorem nodup_inj {L : List S56} (hn : NoDup L) {i j : Nat} (hi : i < L.length) (hj : j < L.length) (h : L[i] = L[j]) : i = j := by
 have key : ∀ a b : Nat, ∀ (ha : a < L.length) (hb : b < L.length), L[a] = L[b] → ¬ a < b := by
  intro a b ha hb he hab
  refine hn b _ (List.getElem?_eq_getElem hb) ?_
  rw [← he]
  refine List.mem_iff_getElem?.2 ⟨a, ?_⟩
  rw [List.getElem?_take, if_pos hab, List.getElem?_eq_getElem ha]
 rcases Nat.lt_trichotomy i j with h1 | h1 | h1
 ·exact absurd h1 (key i j hi hj h)
 ·exact h1
 ·exact absurd h1 (key j i hj hi h.symm)
theorem neg1 {a : List S56} (h : 0 ≤ (a, (-1 : Int)).2) : False := absurd (show (0 : Int) ≤ -1 from h) (by decide)
theorem dfind_at {L : List S56} (hn : NoDup L) {x : S56} {i : Nat} (h : L[i]? = some x) : dfind L x = some i := by
 obtain ⟨j, hj⟩ := dfind_mem (List.mem_of_getElem? h)
 have h2 := dfind_some hj
 obtain ⟨h1, e1⟩ := List.getElem?_eq_some_iff.1 h
 obtain ⟨h3, e3⟩ := List.getElem?_eq_some_iff.1 h2
 have : j = i := nodup_inj hn h3 h1 (e3.trans e1.symm)
 rw [hj, this]
theorem dadd_ext (L : List S56) (v lo hi : Int) : L <+: (dadd L v lo hi).1 := by
 unfold dadd
 split
 ·exact List.prefix_refl _
 split
 ·exact List.prefix_refl _
 split
 ·exact List.prefix_refl _
 split
 ·exact List.prefix_refl _
 ·exact List.prefix_append _ _
theorem ins_ext (L : List S56) (t : DT) : L <+: (ins L t).1 := by
 induction t generalizing L with
 | leaf n => exact List.prefix_refl _
 | fork v lo hi ihl ihh =>
  unfold ins
  split
  ·exact List.prefix_refl _
  ·exact (ihl L).trans ((ihh _).trans (dadd_ext _ _ _ _))
theorem dadd_stays {L : List S56} {v lo hi : Int} (h : 0 ≤ (dadd L v lo hi).2) {L2 : List S56} (he : (dadd L v lo hi).1 <+: L2) : dadd L2 v lo hi = (L2, (dadd L v lo hi).2) := by
 unfold dadd at h he ⊢
 by_cases c1 : lo < 0 ∨ hi < 0
 ·rw [if_pos c1] at h
  exact (neg1 h).elim
 rw [if_neg c1] at h he ⊢
 by_cases c2 : lo = hi
 ·rw [if_neg c1, if_pos c2, if_pos c2]
 rw [if_neg c2] at h he ⊢
 rw [if_neg c1, if_neg c2]
 cases hf : dfind L ⟨v, lo, hi⟩ with
 | some i =>
  simp only [hf] at h he ⊢
  obtain ⟨t, rfl⟩ := he
  rw [dfind_append hf t]
 | none =>
  simp only [hf] at h he ⊢
  by_cases c3 : 2000 ≤ L.length
  ·rw [if_pos c3] at h
   exact (neg1 h).elim
  rw [if_neg c3] at h he ⊢
  obtain ⟨t, rfl⟩ := he
  rw [List.append_assoc, List.singleton_append, dfind_new hf t]
theorem dadd_nn {L : List S56} {v lo hi : Int} (h : 0 ≤ (dadd L v lo hi).2) : 0 ≤ lo ∧ 0 ≤ hi := by
 unfold dadd at h
 by_cases c1 : lo < 0 ∨ hi < 0
 ·rw [if_pos c1] at h
  exact (neg1 h).elim
 ·omega
/-- What is there stays: once told, told again of whatever comes behind. -/
theorem ins_stays {L : List S56} {t : DT} (h : 0 ≤ (ins L t).2) {L2 : List S56} (he : (ins L t).1 <+: L2) : ins L2 t = (L2, (ins L t).2) := by
 induction t generalizing L L2 with
 | leaf n => rfl
 | fork v lo hi ihl ihh =>
  unfold ins at h he
  by_cases c : (ins L lo).2 < 0
  ·rw [if_pos c] at h
   exact (neg1 h).elim
  rw [if_neg c] at h he
  have e1 : (ins (ins L lo).1 hi).1 <+: L2 := (dadd_ext _ _ _ _).trans he
  have e0 : (ins L lo).1 <+: L2 := (ins_ext _ _).trans e1
  have h2 := (dadd_nn h).2
  have k1 := ihl (by omega) e0
  have k2 := ihh h2 e1
  have k3 := dadd_stays h he
  unfold ins
  rw [if_neg c, k1]
  simp only
  rw [if_neg c, k2]
  simp only
  rw [k3]
/-- The variable of a place; c at constants. -/
def dvar (c : Int) (L : List S56) (n : Int) : Int := if n < 2 then c else (L.getD (n - 2).toNat ⟨0, 0, 0⟩).f0
def Pl (L : List S56) (n : Int) : Prop := 0 ≤ n ∧ n ≤ (L.length : Int) + 1
structure DV (vars : Int) (L : List S56) : Prop where
 v0 : 0 ≤ vars
 v12 : vars ≤ 12
 len : L.length ≤ 2000
 nd : NoDup L
 ok : ∀ (i : Nat) x, L[i]? = some x → 0 ≤ x.f0 ∧ x.f0 < vars ∧ 0 ≤ x.f1 ∧ x.f1 ≤ (i : Int) + 1 ∧ 0 ≤ x.f2 ∧ x.f2 ≤ (i : Int) + 1 ∧ x.f1 ≠ x.f2 ∧ x.f0 < dvar vars L x.f1 ∧ x.f0 < dvar vars L x.f2
theorem Pl.ext {L L2 : List S56} {n : Int} (h : Pl L n) (he : L <+: L2) : Pl L2 n := ⟨h.1, by have := he.length_le; have := h.2; omega⟩
theorem getD_ext {L L2 : List S56} (he : L <+: L2) {i : Nat} (h : i < L.length) (z : S56) : L2.getD i z = L.getD i z := by
 obtain ⟨t, rfl⟩ := he
 rw [List.getD_eq_getElem?_getD, List.getD_eq_getElem?_getD, List.getElem?_append_left h]
theorem dvar_ext {c : Int} {L L2 : List S56} {n : Int} (h : Pl L n) (he : L <+: L2) : dvar c L2 n = dvar c L n := by
 unfold dvar
 by_cases h2 : n < 2
 ·rw [if_pos h2, if_pos h2]
 ·rw [if_neg h2, if_neg h2, getD_ext he (by have := h.2; omega)]
/-- The fork at a place that is none of the constants. -/
theorem DV.at_ {vars : Int} {L : List S56} (h : DV vars L) {n : Int} (hp : Pl L n) (h2 : ¬ n < 2) : ∃ x, L[(n - 2).toNat]? = some x ∧ L.getD (n - 2).toNat ⟨0, 0, 0⟩ = x ∧ dvar vars L n = x.f0 ∧ 0 ≤ x.f0 ∧ x.f0 < vars ∧ Pl L x.f1 ∧ Pl L x.f2 ∧ x.f1 < n ∧ x.f2 < n ∧ x.f1 ≠ x.f2 ∧ x.f0 < dvar vars L x.f1 ∧ x.f0 < dvar vars L x.f2 := by
 have hl : (n - 2).toNat < L.length := by have := hp.2; omega
 have hx : L[(n - 2).toNat]? = some L[(n - 2).toNat] := List.getElem?_eq_getElem hl
 obtain ⟨a1, a2, a3, a4, a5, a6, a7, a8, a9⟩ := h.ok _ _ hx
 have hd : L.getD (n - 2).toNat ⟨0, 0, 0⟩ = L[(n - 2).toNat] := by rw [List.getD_eq_getElem?_getD, hx]; rfl
 refine ⟨_, hx, hd, ?_, a1, a2, ⟨a3, ?_⟩, ⟨a5, ?_⟩, ?_, ?_, a7, a8, a9⟩
 ·unfold dvar
  rw [if_neg h2, hd]
 all_goals (have := hp.2; omega)
theorem DV.dvar_le {vars : Int} {L : List S56} (h : DV vars L) {n : Int} (hp : Pl L n) : 0 ≤ dvar vars L n ∧ dvar vars L n ≤ vars := by
 by_cases h2 : n < 2
 ·unfold dvar
  rw [if_pos h2]
  exact ⟨h.v0, Int.le_refl _⟩
 ·obtain ⟨x, _, _, e, a, b, _⟩ := h.at_ hp h2
  omega
theorem dv_dadd {vars : Int} {L : List S56} (h : DV vars L) {v lo hi : Int} (hl : Pl L lo) (hh : Pl L hi) (v0 : 0 ≤ v) (v1 : v < vars) (hvl : v < dvar vars L lo) (hvh : v < dvar vars L hi) :
  DV vars (dadd L v lo hi).1 ∧ (0 ≤ (dadd L v lo hi).2 → Pl (dadd L v lo hi).1 (dadd L v lo hi).2 ∧ v ≤ dvar vars (dadd L v lo hi).1 (dadd L v lo hi).2) := by
 unfold dadd
 by_cases c1 : lo < 0 ∨ hi < 0
 ·rw [if_pos c1]
  exact ⟨h, fun hn => (neg1 hn).elim⟩
 rw [if_neg c1]
 by_cases c2 : lo = hi
 ·rw [if_pos c2]
  exact ⟨h, fun _ => ⟨hl, Int.le_of_lt hvl⟩⟩
 rw [if_neg c2]
 cases hf : dfind L ⟨v, lo, hi⟩ with
 | some i =>
  have hx := dfind_some hf
  obtain ⟨hi, _⟩ := List.getElem?_eq_some_iff.1 hx
  have hp : Pl L ((i : Int) + 2) := ⟨by omega, by omega⟩
  refine ⟨h, fun _ => ⟨hp, ?_⟩⟩
  show v ≤ dvar vars L ((i : Int) + 2)
  unfold dvar
  rw [if_neg (by omega), show ((i : Int) + 2 - 2).toNat = i by omega, List.getD_eq_getElem?_getD, hx]
  exact Int.le_refl _
 | none =>
  simp only
  by_cases c3 : 2000 ≤ L.length
  ·rw [if_pos c3]
   exact ⟨h, fun hn => (neg1 hn).elim⟩
  rw [if_neg c3]
  have he : L <+: L ++ [⟨v, lo, hi⟩] := List.prefix_append _ _
  refine ⟨⟨h.v0, h.v12, by simp; omega, ?_, ?_⟩, fun _ => ⟨⟨by simp; omega, by simp; omega⟩, ?_⟩⟩
  ·intro i x hx hm
   by_cases hil : i < L.length
   ·rw [List.getElem?_append_left hil] at hx
    rw [List.take_append_of_le_length (by omega)] at hm
    exact h.nd i x hx hm
   ·have hil : i = L.length := by
     have := (List.getElem?_eq_some_iff.1 hx).1
     simp at this
     omega
    subst hil
    have ex : x = ⟨v, lo, hi⟩ := by simpa using hx.symm
    subst ex
    rw [List.take_append_of_le_length (Nat.le_refl _), List.take_length] at hm
    exact dfind_none hf hm
  ·intro i x hx
   by_cases hil : i < L.length
   ·rw [List.getElem?_append_left hil] at hx
    obtain ⟨a1, a2, a3, a4, a5, a6, a7, a8, a9⟩ := h.ok _ _ hx
    have p1 : Pl L x.f1 := ⟨a3, by omega⟩
    have p2 : Pl L x.f2 := ⟨a5, by omega⟩
    rw [dvar_ext p1 he, dvar_ext p2 he]
    exact ⟨a1, a2, a3, a4, a5, a6, a7, a8, a9⟩
   ·have hil : i = L.length := by
     have := (List.getElem?_eq_some_iff.1 hx).1
     simp at this
     omega
    subst hil
    have ex : x = ⟨v, lo, hi⟩ := by simpa using hx.symm
    subst ex
    refine ⟨v0, v1, hl.1, hl.2, hh.1, hh.2, c2, ?_, ?_⟩
    ·rw [dvar_ext hl he]
     exact hvl
    ·rw [dvar_ext hh he]
     exact hvh
  ·show v ≤ dvar vars _ ((L.length : Int) + 2)
   unfold dvar
   rw [if_neg (by omega), show ((L.length : Int) + 2 - 2).toNat = L.length by omega, List.getD_eq_getElem?_getD]
   simp
/-- A tree whose leaves are places, its variables from m on, ascending. -/
def TOk (vars : Int) (L : List S56) : Int → DT → Prop
 | m, .leaf n => Pl L n ∧ m ≤ dvar vars L n
 | m, .fork v lo hi => m ≤ v ∧ 0 ≤ v ∧ v < vars ∧ TOk vars L (v + 1) lo ∧ TOk vars L (v + 1) hi
theorem TOk.ext {vars : Int} {L L2 : List S56} (he : L <+: L2) {t : DT} : ∀ {m : Int}, TOk vars L m t → TOk vars L2 m t := by
 induction t with
 | leaf n =>
  intro m h
  exact ⟨h.1.ext he, by rw [dvar_ext h.1 he]; exact h.2⟩
 | fork v lo hi ihl ihh =>
  intro m h
  exact ⟨h.1, h.2.1, h.2.2.1, ihl h.2.2.2.1, ihh h.2.2.2.2⟩
theorem dv_ins {vars : Int} {t : DT} : ∀ {L : List S56} {m : Int}, DV vars L → TOk vars L m t → DV vars (ins L t).1 ∧ (0 ≤ (ins L t).2 → Pl (ins L t).1 (ins L t).2 ∧ m ≤ dvar vars (ins L t).1 (ins L t).2) := by
 induction t with
 | leaf n =>
  intro L m h ht
  exact ⟨h, fun _ => ht⟩
 | fork v lo hi ihl ihh =>
  intro L m h ht
  obtain ⟨t1, t2, t3, t4, t5⟩ := ht
  unfold ins
  by_cases c : (ins L lo).2 < 0
  ·rw [if_pos c]
   exact ⟨h, fun hn => (neg1 hn).elim⟩
  rw [if_neg c]
  obtain ⟨d1, p1⟩ := ihl h t4
  obtain ⟨p1, q1⟩ := p1 (by omega)
  obtain ⟨d2, p2⟩ := ihh d1 (t5.ext (ins_ext _ _))
  by_cases c2 : (ins (ins L lo).1 hi).2 < 0
  ·have : dadd (ins (ins L lo).1 hi).1 v (ins L lo).2 (ins (ins L lo).1 hi).2 = ((ins (ins L lo).1 hi).1, -1) := by
    unfold dadd
    rw [if_pos (.inr c2)]
   rw [this]
   exact ⟨d2, fun hn => (neg1 hn).elim⟩
  obtain ⟨p2, q2⟩ := p2 (by omega)
  have he := ins_ext (ins L lo).1 hi
  obtain ⟨r1, r2⟩ := dv_dadd d2 (p1.ext he) p2 t2 t3 (by rw [dvar_ext p1 he]; omega) (by omega)
  exact ⟨r1, fun hn => ⟨(r2 hn).1, Int.le_trans t1 (r2 hn).2⟩⟩
/-! #### the reference's diagrams -/
theorem l1In_val (a b c : Int) : spec_l1In.f a b c = some (decide (b ≤ a ∧ a ≤ c)) := by
 unfold spec_l1In.f
 by_cases h : a ≥ b
 ·rw [if_pos h]
  congr 1
  rw [decide_eq_decide]
  constructor
  ·intro h2; exact ⟨h, h2⟩
  ·intro h2; exact h2.2
 ·rw [if_neg h]
  congr 1
  symm
  rw [decide_eq_false_iff_not]
  intro h2
  exact h h2.1
theorem rdF {L : List S56} {i : Nat} (h : i < L.length) : rd_T56 L (i : Int) = L[i] := by
 unfold rd_T56
 rw [Int.toNat_natCast, List.getD_eq_getElem?_getD, List.getElem?_eq_getElem h]
 rfl
theorem rdP {L : List S56} (n : Int) : rd_T56 L (n - 2) = L.getD (n - 2).toNat ⟨0, 0, 0⟩ := rfl
theorem l8Var_val (c : Int) {L : List S56} {n : Int} (hp : Pl L n) (hl : L.length ≤ 1000000000) : spec_l8Var.f c L n = some (dvar c L n) := by
 unfold spec_l8Var.f dvar
 have h1 := hp.1
 have h2 := hp.2
 by_cases h : n < 2
 ·rw [if_pos h, if_pos h]
 ·rw [if_neg h, if_neg h, w_id (by omega) (by omega), if_pos (by omega), if_pos (by omega), rdP]
/-- What the reference asks of a fork, the places of which are ahead of it. -/
def FOk (vars : Int) (L : List S56) (x : S56) (most : Int) : Prop := (0 ≤ x.f0 ∧ x.f0 ≤ vars - 1) ∧ (0 ≤ x.f1 ∧ x.f1 ≤ most) ∧ (0 ≤ x.f2 ∧ x.f2 ≤ most) ∧ x.f0 < dvar vars L x.f1 ∧ x.f0 < dvar vars L x.f2
theorem l8Fork_dec (vars : Int) (L : List S56) (x : S56) (most : Int) (hv : -9223372036854775807 ≤ vars ∧ vars ≤ 9223372036854775807) (hm : most ≤ (L.length : Int) + 1) (hl : L.length ≤ 1000000000) :
  ∃ b, Ev (fun k => spec_l8Fork.f k vars L x.f0 x.f1 x.f2 most) b ∧ (b = true ↔ FOk vars L x most) := by
 have hj : ∃ b, Ev (fun k => spec_l8Fork.j0 k true vars L x.f0 x.f1 x.f2) b ∧ b = false := ⟨false, Ev.step (Ev.pos rfl (Ev.val _)) (fun k => spec_l8Fork.j0.eq_2 ..), rfl⟩
 obtain ⟨b0, e0, rfl⟩ := hj
 unfold spec_l8Fork.f
 simp only [l1In_val, Option.bind_some, w_id (show -9223372036854775808 ≤ vars - 1 by omega) (by omega)]
 by_cases c1 : 0 ≤ x.f0 ∧ x.f0 ≤ vars - 1
 ·rw [decide_eq_true c1]
  by_cases c2 : 0 ≤ x.f1 ∧ x.f1 ≤ most
  ·rw [decide_eq_true c2]
   by_cases c3 : 0 ≤ x.f2 ∧ x.f2 ≤ most
   ·rw [decide_eq_true c3]
    have p1 : Pl L x.f1 := ⟨c2.1, by omega⟩
    have p2 : Pl L x.f2 := ⟨c3.1, by omega⟩
    by_cases c4 : x.f0 < dvar vars L x.f1
    ·refine ⟨decide (x.f0 < dvar vars L x.f2), Ev.pos rfl (Ev.pos rfl (Ev.step (Ev.neg (by decide) (Ev.bind (Ev.const (l8Var_val vars p1 hl)) (Ev.pos c4 (Ev.bind (Ev.const (l8Var_val vars p2 hl)) (Ev.val (decide (x.f0 < dvar vars L x.f2))))))) (fun k => spec_l8Fork.j0.eq_2 ..))), ?_⟩
     rw [decide_eq_true_eq]
     exact ⟨fun h => ⟨c1, c2, c3, c4, h⟩, fun h => h.2.2.2.2⟩
    ·refine ⟨false, Ev.pos rfl (Ev.pos rfl (Ev.step (Ev.neg (by decide) (Ev.bind (Ev.const (l8Var_val vars p1 hl)) (Ev.neg c4 (Ev.val _)))) (fun k => spec_l8Fork.j0.eq_2 ..))), ?_⟩
     exact ⟨fun h => (by cases h), fun h => absurd h.2.2.2.1 c4⟩
   ·rw [decide_eq_false c3]
    exact ⟨false, Ev.pos rfl (Ev.pos rfl e0), fun h => (by cases h), fun h => absurd h.2.2.1 c3⟩
  ·rw [decide_eq_false c2]
   exact ⟨false, Ev.pos rfl (Ev.neg (by decide) e0), fun h => (by cases h), fun h => absurd h.2.1 c2⟩
 ·rw [decide_eq_false c1]
  exact ⟨false, Ev.neg (by decide) e0, fun h => (by cases h), fun h => absurd h.1 c1⟩
/-- What is asked of the fork at i. -/
def OkAt (vars : Int) (L : List S56) (i : Nat) (h : i < L.length) : Prop := FOk vars L L[i] ((i : Int) + 1) ∧ L[i].f1 ≠ L[i].f2 ∧ L[i] ∉ L.take i
theorem dv_iff (vars : Int) (L : List S56) : DV vars L ↔ (0 ≤ vars ∧ vars ≤ 12) ∧ L.length ≤ 2000 ∧ ∀ i (h : i < L.length), OkAt vars L i h := by
 constructor
 ·intro h
  refine ⟨⟨h.v0, h.v12⟩, h.len, fun i hi => ?_⟩
  obtain ⟨a1, a2, a3, a4, a5, a6, a7, a8, a9⟩ := h.ok i _ (List.getElem?_eq_getElem hi)
  exact ⟨⟨⟨a1, by omega⟩, ⟨a3, a4⟩, ⟨a5, a6⟩, a8, a9⟩, a7, h.nd i _ (List.getElem?_eq_getElem hi)⟩
 ·rintro ⟨⟨h1, h2⟩, h3, h4⟩
  refine ⟨h1, h2, h3, fun i x hx => ?_, fun i x hx => ?_⟩
  ·obtain ⟨hi, rfl⟩ := List.getElem?_eq_some_iff.1 hx
   exact (h4 i hi).2.2
  ·obtain ⟨hi, rfl⟩ := List.getElem?_eq_some_iff.1 hx
   obtain ⟨⟨a1, a2, a3, a4, a5⟩, b, _⟩ := h4 i hi
   exact ⟨a1.1, by omega, a2.1, a2.2, a3.1, a3.2, b, a4, a5⟩
theorem eqF (a : S56) (p q r : Int) : ((a.f0 == p && (a.f1 == q && (a.f2 == r))) = true) ↔ a = ⟨p, q, r⟩ := by
 obtain ⟨x, y, z⟩ := a
 simp
theorem mem_take {L : List S56} {i : Nat} {x : S56} : x ∈ L.take i ↔ ∃ (j : Nat) (_ : j < i) (hl : j < L.length), L[j] = x := by
 rw [List.mem_iff_getElem?]
 constructor
 ·rintro ⟨j, hj⟩
  rw [List.getElem?_take] at hj
  split at hj
  ·next hji =>
   obtain ⟨hl, e⟩ := List.getElem?_eq_some_iff.1 hj
   exact ⟨j, hji, hl, e⟩
  ·cases hj
 ·rintro ⟨j, hji, hl, e⟩
  exact ⟨j, by rw [List.getElem?_take, if_pos hji, List.getElem?_eq_getElem hl, e]⟩
theorem sv_l1 (vars : Int) (L : List S56) (hl : L.length ≤ 2000) (i : Nat) (hi : i < L.length) (rest : Bool) (hrest : Ev (fun k => spec_DiagramValid.l0 k (wrap64 ((i : Int) + 1)) vars L) rest) : ∀ (d j : Nat), j + d = i → (∀ q (hq : q < L.length), q < j → L[q] ≠ L[i]) →
  Ev (fun k => spec_DiagramValid.l1 k (i : Int) (j : Int) vars L L[i].f0 L[i].f1 L[i].f2) (if L[i] ∈ L.take i then false else rest) := by
 intro d
 induction d with
 | zero =>
  intro j hj hn
  have : ¬ L[i] ∈ L.take i := fun h => by
   obtain ⟨q, h1, h2, h3⟩ := mem_take.1 h
   exact hn q h2 (by omega) h3
  rw [if_neg this]
  exact Ev.step (Ev.neg (by omega) hrest) (fun k => spec_DiagramValid.l1.eq_2 ..)
 | succ d ih =>
  intro j hj hn
  have hjl : j < L.length := by omega
  refine Ev.step ?_ (fun k => spec_DiagramValid.l1.eq_2 ..)
  refine Ev.pos (by omega) (Ev.pos (by omega) (Ev.pos (by omega) ?_))
  rw [rdF hjl]
  by_cases e : L[j] = L[i]
  ·rw [if_pos (mem_take.2 ⟨j, by omega, hjl, e⟩)]
   exact Ev.pos ((eqF _ _ _ _).2 e) (Ev.val _)
  ·refine Ev.neg (fun h => e ((eqF _ _ _ _).1 h)) ?_
   rw [w_id (by omega) (by omega), show (j : Int) + 1 = ((j + 1 : Nat) : Int) by omega]
   exact ih (j + 1) (by omega) (fun q hq hqj => by
    by_cases c : q = j
    ·subst c
     exact e
    ·exact hn q hq (by omega))
theorem sv_l0 (vars : Int) (L : List S56) (hv : 0 ≤ vars ∧ vars ≤ 12) (hl : L.length ≤ 2000) : ∀ (d i : Nat), i + d = L.length →
  ∃ b, Ev (fun k => spec_DiagramValid.l0 k (i : Int) vars L) b ∧ (b = true ↔ ∀ q (h : q < L.length), i ≤ q → OkAt vars L q h) := by
 intro d
 induction d with
 | zero =>
  intro i hi
  exact ⟨true, Ev.step (Ev.neg (by omega) (Ev.val _)) (fun k => spec_DiagramValid.l0.eq_2 ..), fun _ q h hq => absurd h (by omega), fun _ => rfl⟩
 | succ d ih =>
  intro i hi
  have hil : i < L.length := by omega
  obtain ⟨rest, er, hr⟩ := ih (i + 1) (by omega)
  have hw : wrap64 ((i : Int) + 1) = ((i + 1 : Nat) : Int) := by rw [w_id (by omega) (by omega)]; omega
  obtain ⟨b1, e1, h1⟩ := l8Fork_dec vars L L[i] ((i : Int) + 1) (by omega) (by omega) (by omega)
  have split_ : (∀ q (h : q < L.length), i ≤ q → OkAt vars L q h) ↔ OkAt vars L i hil ∧ ∀ q (h : q < L.length), i + 1 ≤ q → OkAt vars L q h := by
   constructor
   ·intro h
    exact ⟨h i hil (Nat.le_refl _), fun q hq hq2 => h q hq (by omega)⟩
   ·rintro ⟨ha, hb⟩ q hq hq2
    by_cases c : i = q
    ·subst c
     exact ha
    ·exact hb q hq (by omega)
  have e1' : Ev (fun k => spec_l8Fork.f k vars L (rd_T56 L (i : Int)).f0 (rd_T56 L (i : Int)).f1 (rd_T56 L (i : Int)).f2 (wrap64 ((i : Int) + 1))) b1 := by
   rw [rdF hil, w_id (by omega) (by omega)]
   exact e1
  have jt : ∀ b, Ev (fun k => spec_DiagramValid.j2 k (i : Int) b vars L (rd_T56 L (i : Int)).f0 (rd_T56 L (i : Int)).f1 (rd_T56 L (i : Int)).f2) (if b = true then false else if L[i] ∈ L.take i then false else rest) := by
   intro b
   refine Ev.step ?_ (fun k => spec_DiagramValid.j2.eq_2 ..)
   cases b with
   | true => exact Ev.pos rfl (Ev.val _)
   | false =>
    refine Ev.neg (by decide) ?_
    rw [rdF hil]
    exact sv_l1 vars L hl i hil rest (by rw [hw]; exact er) i 0 (by omega) (fun q _ hq => absurd hq (by omega))
  cases b1 with
  | false =>
   refine ⟨false, Ev.step (Ev.pos (by omega) (Ev.pos (by omega) (Ev.bind e1' (Ev.neg (by decide) (jt true))))) (fun k => spec_DiagramValid.l0.eq_2 ..), fun h => (by cases h), fun h => ?_⟩
   exact absurd (h1.2 (h i hil (Nat.le_refl _)).1) (by decide)
  | true =>
   refine ⟨_, Ev.step (Ev.pos (by omega) (Ev.pos (by omega) (Ev.bind e1' (Ev.pos rfl (jt _))))) (fun k => spec_DiagramValid.l0.eq_2 ..), ?_⟩
   rw [rdF hil, split_]
   by_cases c1 : L[i].f1 = L[i].f2
   ·rw [if_pos (beq_iff_eq.mpr c1)]
    exact ⟨fun h => (by cases h), fun h => absurd c1 h.1.2.1⟩
   ·rw [if_neg (by simpa using c1)]
    by_cases c2 : L[i] ∈ L.take i
    ·rw [if_pos c2]
     exact ⟨fun h => (by cases h), fun h => absurd c2 h.1.2.2⟩
    ·rw [if_neg c2, hr]
     exact ⟨fun h => ⟨⟨h1.1 rfl, c1, c2⟩, h⟩, fun h => h.2⟩
theorem spec_dv (vars : Int) (L : List S56) : ∃ b, Ev (fun k => spec_DiagramValid.f k vars L) b ∧ (b = true ↔ DV vars L) := by
 unfold spec_DiagramValid.f
 simp only [l1In_val, Option.bind_some]
 have e0 : Ev (fun k => spec_DiagramValid.j0 k true vars L) false := Ev.step (Ev.pos rfl (Ev.val _)) (fun k => spec_DiagramValid.j0.eq_2 ..)
 by_cases c1 : 0 ≤ vars ∧ vars ≤ 12
 ·rw [decide_eq_true c1]
  by_cases c2 : (L.length : Int) > 2000
  ·rw [decide_eq_true c2]
   exact ⟨false, Ev.pos rfl e0, fun h => (by cases h), fun h => by have := h.len; omega⟩
  ·rw [decide_eq_false c2]
   obtain ⟨b, hb, h2⟩ := sv_l0 vars L c1 (by omega) L.length 0 (by omega)
   refine ⟨b, Ev.pos rfl (Ev.step (Ev.neg (by decide) hb) (fun k => spec_DiagramValid.j0.eq_2 ..)), ?_⟩
   rw [h2, dv_iff]
   exact ⟨fun h => ⟨c1, by omega, fun i hi => h i hi (Nat.zero_le _)⟩, fun h q hq _ => h.2.2 q hq⟩
 ·rw [decide_eq_false c1]
  exact ⟨false, Ev.neg (by decide) e0, fun h => (by cases h), fun h => absurd ⟨h.v0, h.v12⟩ c1⟩
theorem dfind_no {L : List S56} {x : S56} (hn : ∀ q (hq : q < L.length), L[q] ≠ x) : dfind L x = none := by
 unfold dfind
 rw [List.findIdx?_eq_none_iff]
 intro y hy
 obtain ⟨q, hq, rfl⟩ := List.mem_iff_getElem.1 hy
 simpa using hn q hq
/-! #### the program's diagrams -/
theorem in_val (a b c : Int) : impl_in.f a b c = some (decide (b ≤ a ∧ a ≤ c)) := by
 unfold impl_in.f
 by_cases h : a ≥ b
 ·rw [if_pos h]
  congr 1
  rw [decide_eq_decide]
  constructor
  ·intro h2; exact ⟨h, h2⟩
  ·intro h2; exact h2.2
 ·rw [if_neg h]
  congr 1
  symm
  rw [decide_eq_false_iff_not]
  intro h2
  exact h h2.1
theorem varAt_val (a : Int) {L : List S56} {n : Int} (hp : Pl L n) (hl : L.length ≤ 1000000000) : impl_Diagram_varAt.f a L n = some (dvar 12 L n) := by
 unfold impl_Diagram_varAt.f dvar
 have h1 := hp.1
 have h2 := hp.2
 by_cases h : n < 2
 ·rw [if_pos h, if_pos h]
 ·rw [if_neg h, if_neg h, w_id (by omega) (by omega), if_pos (by omega), if_pos (by omega), rdP]
def decPl (L : List S56) (n : Int) : Decidable (Pl L n) := inferInstanceAs (Decidable (_ ∧ _))
theorem isPlace_val (a : Int) {L : List S56} (n : Int) (hl : L.length ≤ 1000000000) : impl_Diagram_isPlace.f a L n = some (@decide (Pl L n) (decPl L n)) := by
 unfold impl_Diagram_isPlace.f
 rw [in_val, w_id (by omega) (by omega)]
 rfl
/-- Where variables are few, it is the same to what the constants are held. -/
theorem dvar_lt {vars v : Int} (L : List S56) (n : Int) (h : v < vars) (h12 : vars ≤ 12) : v < dvar 12 L n ↔ v < dvar vars L n := by
 unfold dvar
 split
 ·omega
 ·exact Iff.rfl
theorem keyI {n : Int} (h : 0 ≤ n) (h2 : n ≤ 1000000000) : KeyI n := ⟨h, by omega⟩
theorem iv_bad (vars : Int) (L : List S56) (hv : 0 ≤ vars ∧ vars ≤ 12) (hl : L.length ≤ 2000) (i : Nat) (hi : i < L.length) : ∃ b, impl_DiagramValid.bad vars L i L[i] = some b ∧ (b = false ↔ OkAt vars L i hi) := by
 unfold impl_DiagramValid.bad OkAt FOk
 simp only [in_val, Option.bind_some, w_id (show -9223372036854775808 ≤ vars - 1 by omega) (by omega), w_id (show -9223372036854775808 ≤ (i : Int) + 1 by omega) (by omega), decide_eq_false_iff_not]
 by_cases c1 : 0 ≤ L[i].f0 ∧ L[i].f0 ≤ vars - 1
 ·rw [if_neg (by simpa using c1)]
  by_cases c2 : 0 ≤ L[i].f1 ∧ L[i].f1 ≤ (i : Int) + 1
  ·rw [if_neg (by simpa using c2)]
   by_cases c3 : 0 ≤ L[i].f2 ∧ L[i].f2 ≤ (i : Int) + 1
   ·rw [if_neg (by simpa using c3)]
    have p1 : Pl L L[i].f1 := ⟨c2.1, by omega⟩
    have p2 : Pl L L[i].f2 := ⟨c3.1, by omega⟩
    by_cases c4 : L[i].f1 = L[i].f2
    ·rw [if_pos c4]
     exact ⟨true, rfl, fun h => (by cases h), fun h => absurd c4 h.2.1⟩
    ·rw [if_neg c4, varAt_val _ p1 (by omega), Option.bind_some]
     by_cases c5 : dvar 12 L L[i].f1 ≤ L[i].f0
     ·rw [if_pos c5]
      exact ⟨true, rfl, fun h => (by cases h), fun h => absurd ((dvar_lt L _ (by omega) hv.2).2 h.1.2.2.2.1) (by omega)⟩
     ·rw [if_neg c5, varAt_val _ p2 (by omega), Option.bind_some]
      by_cases c6 : dvar 12 L L[i].f2 ≤ L[i].f0
      ·rw [if_pos c6]
       exact ⟨true, rfl, fun h => (by cases h), fun h => absurd ((dvar_lt L _ (by omega) hv.2).2 h.1.2.2.2.2) (by omega)⟩
      ·rw [if_neg c6, if_pos ⟨keyI c1.1 (by omega), keyI c2.1 (by omega), keyI c3.1 (by omega)⟩]
       refine ⟨_, rfl, ?_⟩
       rw [decide_eq_false_iff_not]
       exact ⟨fun h => ⟨⟨c1, c2, c3, (dvar_lt L _ (by omega) hv.2).1 (by omega), (dvar_lt L _ (by omega) hv.2).1 (by omega)⟩, c4, h⟩, fun h => h.2.2⟩
   ·rw [if_pos (by simpa using c3)]
    exact ⟨true, rfl, fun h => (by cases h), fun h => absurd h.1.2.2.1 c3⟩
  ·rw [if_pos (by simpa using c2)]
   exact ⟨true, rfl, fun h => (by cases h), fun h => absurd h.1.2.1 c2⟩
 ·rw [if_pos (by simpa using c1)]
  exact ⟨true, rfl, fun h => (by cases h), fun h => absurd h.1.1 c1⟩
theorem iv_l0 (vars : Int) (L : List S56) (hv : 0 ≤ vars ∧ vars ≤ 12) (hl : L.length ≤ 2000) : ∀ (d i : Nat), i + d = L.length → ∃ b, impl_DiagramValid.l0 vars L d i = some b ∧ (b = true ↔ ∀ q (h : q < L.length), i ≤ q → OkAt vars L q h) := by
 intro d
 induction d with
 | zero =>
  intro i hi
  exact ⟨true, rfl, fun _ q h hq => absurd h (by omega), fun _ => rfl⟩
 | succ d ih =>
  intro i hi
  have hil : i < L.length := by omega
  obtain ⟨rest, er, hr⟩ := ih (i + 1) (by omega)
  obtain ⟨b, eb, hb⟩ := iv_bad vars L hv hl i hil
  unfold impl_DiagramValid.l0
  rw [rdF hil, eb, Option.bind_some]
  cases b with
  | true =>
   refine ⟨false, rfl, fun h => (by cases h), fun h => ?_⟩
   exact absurd (hb.2 (h i hil (Nat.le_refl _))) (by decide)
  | false =>
   refine ⟨rest, er, ?_⟩
   rw [hr]
   constructor
   ·intro h q hq hq2
    by_cases c : i = q
    ·subst c
     exact hb.1 rfl
    ·exact h q hq (by omega)
   ·intro h q hq hq2
    exact h q hq (by omega)
theorem impl_dv (vars : Int) (L : List S56) : ∃ b, impl_DiagramValid.f vars L = some b ∧ (b = true ↔ DV vars L) := by
 unfold impl_DiagramValid.f
 simp only [in_val, Option.bind_some]
 by_cases c1 : 0 ≤ vars ∧ vars ≤ 12
 ·rw [if_neg (by simpa using c1)]
  by_cases c2 : (L.length : Int) > 2000
  ·rw [if_pos c2]
   exact ⟨false, rfl, fun h => (by cases h), fun h => by have := h.len; omega⟩
  ·rw [if_neg c2]
   obtain ⟨b, hb, h2⟩ := iv_l0 vars L c1 (by omega) L.length 0 (by omega)
   refine ⟨b, hb, ?_⟩
   rw [h2, dv_iff]
   exact ⟨fun h => ⟨c1, by omega, fun i hi => h i hi (Nat.zero_le _)⟩, fun h q hq _ => h.2.2 q hq⟩
 ·rw [if_pos (by simpa using c1)]
  exact ⟨false, rfl, fun h => (by cases h), fun h => absurd ⟨h.v0, h.v12⟩ c1⟩
/-- Where each fork stands. -/
def seenP (L : List S56) (x : S56) : Option Int := (dfind L x).map (fun i => (i : Int) + 2)
theorem seen_take {L : List S56} (hn : NoDup L) : ∀ i, i ≤ L.length → impl_forkingOf.seen L i = seenP (L.take i) := by
 intro i
 induction i with
 | zero =>
  intro _
  funext x
  rfl
 | succ i ih =>
  intro hi
  have hil : i < L.length := by omega
  funext x
  show (if x = rd_T56 L (i : Int) then some ((i : Int) + 2) else impl_forkingOf.seen L i x) = _
  rw [rdF hil, ih (by omega)]
  have e : L.take (i + 1) = L.take i ++ [L[i]] := by
   rw [List.take_add_one, List.getElem?_eq_getElem hil]
   rfl
  have hlen : (L.take i).length = i := by rw [List.length_take]; omega
  have hno : dfind (L.take i) L[i] = none := by
   cases hd : dfind (L.take i) L[i] with
   | none => rfl
   | some j =>
    have := dfind_some hd
    exact absurd (List.mem_of_getElem? this) (hn i _ (List.getElem?_eq_getElem hil))
  unfold seenP
  rw [e]
  by_cases c : x = L[i]
  ·rw [if_pos c, c, dfind_new hno []]
   simp [hlen]
  ·rw [if_neg c]
   cases hd : dfind (L.take i) x with
   | some j => rw [dfind_append hd]
   | none =>
    have : dfind (L.take i ++ [L[i]]) x = none := dfind_no (fun q hq e2 => by
     by_cases hqi : q < (L.take i).length
     ·rw [List.getElem_append_left hqi] at e2
      exact dfind_none hd (e2 ▸ List.getElem_mem hqi)
     ·have hq' : q = (L.take i).length := by
       have := hq
       rw [List.length_append, List.length_singleton] at this
       omega
      subst hq'
      rw [List.getElem_append_right (Nat.le_refl _)] at e2
      simp at e2
      exact c e2.symm)
    rw [this]
theorem okF_of {vars : Int} {L : List S56} (h : DV vars L) {x : S56} (hx : x ∈ L) : okF x := by
 obtain ⟨i, hi⟩ := List.mem_iff_getElem?.1 hx
 obtain ⟨a1, a2, a3, a4, a5, a6, _⟩ := h.ok i x hi
 have := h.v12
 have := (List.getElem?_eq_some_iff.1 hi).1
 have := h.len
 exact ⟨keyI a1 (by omega), keyI a3 (by omega), keyI a5 (by omega)⟩
/-- A diagram that grows, as the program holds it: nothing is done with it yet that is not so. -/
def fs0 (vars : Int) (L : List S56) : FS := ⟨vars, L, seenP L, false, fun _ => none⟩
theorem clone_val (L : List S56) (h : L.length ≤ 1000000000) : impl_Fork_137.f L = some L := by
 unfold impl_Fork_137.f
 simp only [Option.bind_some, List.length_nil, List.nil_append]
 rw [if_pos (by omega)]
theorem clone2_val (L : List S56) (h : L.length ≤ 1000000000) : impl_Fork_138.f L = some L := by
 unfold impl_Fork_138.f
 rw [if_pos (by omega)]
theorem forkingOf_val {vars : Int} {L : List S56} (h : DV vars L) : impl_forkingOf.f vars L = some (fs0 vars L) := by
 unfold impl_forkingOf.f
 rw [clone_val L (by have := h.len; omega), Option.bind_some, if_pos (fun x hx => okF_of h hx), seen_take h.nd _ (Nat.le_refl _), List.take_length]
 rfl
theorem fork_val (s : FS) (v lo hi : Int) (hk : okF ⟨v, lo, hi⟩) (hlo : 0 ≤ lo) (hhi : 0 ≤ hi) (hs : s.seen = seenP s.forks) :
  ∃ s' r, impl_forking_fork.f s v lo hi = some (s', r) ∧ s'.vars = s.vars ∧ s'.memo = s.memo ∧ s'.seen = seenP s'.forks ∧ s'.forks = (dadd s.forks v lo hi).1 ∧ (if (dadd s.forks v lo hi).2 < 0 then s'.full = true ∧ r = 0 else s'.full = s.full ∧ r = (dadd s.forks v lo hi).2) := by
 unfold impl_forking_fork.f dadd
 rw [if_neg (show ¬ (lo < 0 ∨ hi < 0) by omega)]
 by_cases c1 : lo = hi
 ·rw [if_pos c1, if_pos c1]
  exact ⟨s, lo, rfl, rfl, rfl, hs, rfl, by rw [if_neg (by omega)]; exact ⟨rfl, rfl⟩⟩
 rw [if_neg c1, if_neg c1, if_pos hk, hs]
 cases hd : dfind s.forks ⟨v, lo, hi⟩ with
 | some i =>
  have e : seenP s.forks ⟨v, lo, hi⟩ = some ((i : Int) + 2) := by unfold seenP; rw [hd]; rfl
  rw [e]
  exact ⟨s, _, rfl, rfl, rfl, hs, rfl, by rw [if_neg (by show ¬ ((_ : Nat) : Int) + 2 < 0; omega)]; exact ⟨rfl, rfl⟩⟩
 | none =>
  have e : seenP s.forks ⟨v, lo, hi⟩ = none := by unfold seenP; rw [hd]; rfl
  rw [e]
  by_cases c2 : 2000 ≤ s.forks.length
  ·simp only
   rw [if_pos (by omega), if_pos c2]
   exact ⟨_, _, rfl, rfl, rfl, rfl, rfl, by rw [if_pos (show (-1 : Int) < 0 by decide)]; exact ⟨rfl, rfl⟩⟩
  ·simp only
   rw [if_neg (by omega), if_neg c2]
   refine ⟨_, _, rfl, rfl, rfl, ?_, rfl, by rw [if_neg (by show ¬ ((_ : Nat) : Int) + 2 < 0; omega)]; exact ⟨rfl, rfl⟩⟩
   funext y
   show (if y = ⟨v, lo, hi⟩ then some ((s.forks.length : Int) + 2) else seenP s.forks y) = seenP (s.forks ++ [⟨v, lo, hi⟩]) y
   unfold seenP
   by_cases c : y = ⟨v, lo, hi⟩
   ·rw [if_pos c, c, dfind_new hd []]
    rfl
   ·rw [if_neg c]
    cases hy : dfind s.forks y with
    | some j => rw [dfind_append hy]
    | none =>
     have : dfind (s.forks ++ [⟨v, lo, hi⟩]) y = none := dfind_no (fun q hq e2 => by
      by_cases hqi : q < s.forks.length
      ·rw [List.getElem_append_left hqi] at e2
       exact dfind_none hy (e2 ▸ List.getElem_mem hqi)
      ·have hq' : q = s.forks.length := by
        have := hq
        rw [List.length_append, List.length_singleton] at this
        omega
       subst hq'
       rw [List.getElem_append_right (Nat.le_refl _)] at e2
       simp at e2
       exact c e2.symm)
     rw [this]
theorem done_val (s : FS) (n : Int) (hl : s.forks.length ≤ 2000) : impl_forking_done.f s n = some (if s.full = true then (0, [], -1) else (s.vars, s.forks, n)) := by
 unfold impl_forking_done.f
 by_cases c : s.full = true
 ·rw [if_pos c, if_pos c]
 ·rw [if_neg c, if_neg c, clone2_val _ (by omega)]
  rfl
/-! #### what is done with two places, as a tree of decisions (0 and, 1 or, 2 exactly one) -/
def gat (L : List S56) (n v : Int) (hi : Bool) : Int :=
 if n < 2 then n else if (L.getD (n - 2).toNat ⟨0, 0, 0⟩).f0 = v then (if hi = true then (L.getD (n - 2).toNat ⟨0, 0, 0⟩).f2 else (L.getD (n - 2).toNat ⟨0, 0, 0⟩).f1) else n
theorem gat_ext {L L2 : List S56} {n : Int} (h : Pl L n) (he : L <+: L2) (v : Int) (hi : Bool) : gat L2 n v hi = gat L n v hi := by
 unfold gat
 by_cases h2 : n < 2
 ·rw [if_pos h2, if_pos h2]
 ·rw [if_neg h2, if_neg h2, getD_ext he (by have := h.2; omega)]
theorem gat_ok {vars : Int} {L : List S56} (h : DV vars L) {n v : Int} (hp : Pl L n) (hv : v ≤ dvar vars L n) (hvv : v < vars) (hi : Bool) : Pl L (gat L n v hi) ∧ v < dvar vars L (gat L n v hi) := by
 unfold gat
 by_cases h2 : n < 2
 ·rw [if_pos h2]
  refine ⟨hp, ?_⟩
  unfold dvar
  rw [if_pos h2]
  exact hvv
 ·rw [if_neg h2]
  obtain ⟨x, hx, hd, e, a0, a1, p1, p2, _, _, _, q1, q2⟩ := h.at_ hp h2
  rw [hd]
  by_cases c : x.f0 = v
  ·rw [if_pos c]
   cases hi with
   | true => rw [if_pos rfl]; exact ⟨p2, by omega⟩
   | false => rw [if_neg (by decide)]; exact ⟨p1, by omega⟩
  ·rw [if_neg c]
   exact ⟨hp, by omega⟩
theorem dvar_two {vars : Int} {L : List S56} (h : DV vars L) {n : Int} (hp : Pl L n) : dvar vars L n < vars ↔ ¬ n < 2 := by
 constructor
 ·intro h1 h2
  unfold dvar at h1
  rw [if_pos h2] at h1
  omega
 ·intro h2
  obtain ⟨x, _, _, e, _, a1, _⟩ := h.at_ hp h2
  omega
theorem dvar_const {vars : Int} {L : List S56} {n : Int} (h : n < 2) : dvar vars L n = vars := by
 unfold dvar
 rw [if_pos h]
/-! #### what is done with two places: the reference and the program -/
theorem add_val (vars v lo hi : Int) (L : List S56) (hl : L.length ≤ 2000) : spec_l8Add.f vars L v lo hi = some (vars, (dadd L v lo hi).1, (dadd L v lo hi).2) := by
 unfold spec_l8Add.f dadd
 by_cases c1 : lo < 0 ∨ hi < 0
 ·rw [if_pos c1, if_pos c1]
 rw [if_neg c1, if_neg c1]
 by_cases c2 : lo = hi
 ·rw [if_pos c2, if_pos c2]
 rw [if_neg c2, if_neg c2, if_pos (show L.length ≤ 1000000000000 by omega)]
 show (match dfind L ⟨v, lo, hi⟩ with | some i => _ | none => _) = _
 cases dfind L ⟨v, lo, hi⟩ with
 | some i => rfl
 | none =>
  simp only
  by_cases c3 : 2000 ≤ L.length
  ·rw [if_pos c3, if_pos c3]
  ·rw [if_neg c3, if_neg c3]
theorem ins_fork (L : List S56) (v : Int) (lo hi : DT) : ins L (.fork v lo hi) = if (ins L lo).2 < 0 then (L, -1) else dadd (ins (ins L lo).1 hi).1 v (ins L lo).2 (ins (ins L lo).1 hi).2 := by rw [ins]
theorem place_val {vars : Int} (L : List S56) (n : Int) (hl : L.length ≤ 1000000000) : spec_l8Place.f vars L n = some (@decide (Pl L n) (decPl L n)) := by
 unfold spec_l8Place.f
 rw [l1In_val, w_id (by omega) (by omega)]
 rfl
/-! #### rows of values as a tree -/
def rowsT : Nat → Int → List Int → DT
 | 0, _, vs => .leaf (rd vs 0)
 | m + 1, v, vs => .fork v (rowsT m (v + 1) (vs.take (vs.length / 2))) (rowsT m (v + 1) (vs.drop (vs.length / 2)))
def BitRow (vs : List Int) : Prop := ∀ x ∈ vs, x = 0 ∨ x = 1
theorem BitRow.take {vs : List Int} (h : BitRow vs) (n : Nat) : BitRow (vs.take n) := fun x hx => h x (List.mem_of_mem_take hx)
theorem BitRow.drop {vs : List Int} (h : BitRow vs) (n : Nat) : BitRow (vs.drop n) := fun x hx => h x (List.mem_of_mem_drop hx)
theorem half_len {vs : List Int} {m : Nat} (h : vs.length = 2 ^ (m + 1)) : (vs.take (vs.length / 2)).length = 2 ^ m ∧ (vs.drop (vs.length / 2)).length = 2 ^ m := by
 rw [List.length_take, List.length_drop, h, Nat.pow_succ]
 omega
theorem rowsT_ok {vars : Int} {L : List S56} (hL : DV vars L) : ∀ (m : Nat) (v : Int) (vs : List Int), 0 ≤ v → v + m = vars → vs.length = 2 ^ m → BitRow vs → TOk vars L v (rowsT m v vs) := by
 intro m
 induction m with
 | zero =>
  intro v vs h0 hv hl hb
  unfold rowsT
  have hm : rd vs 0 ∈ vs := by
   have : 0 < vs.length := by rw [hl]; decide
   rw [show rd vs 0 = vs[0] from rd_lt this]
   exact List.getElem_mem _
  have hx := hb _ hm
  have hd : dvar vars L (rd vs 0) = vars := by
   unfold dvar
   rw [if_pos (by omega)]
  refine ⟨⟨by omega, by omega⟩, ?_⟩
  rw [hd]
  omega
 | succ m ih =>
  intro v vs h0 hv hl hb
  obtain ⟨h1, h2⟩ := half_len hl
  unfold rowsT
  exact ⟨Int.le_refl _, h0, by omega, ih (v + 1) _ (by omega) (by omega) h1 (hb.take _), ih (v + 1) _ (by omega) (by omega) h2 (hb.drop _)⟩
theorem spec_rows {vars : Int} : ∀ (m : Nat) (L : List S56) (v : Int) (vs : List Int), DV vars L → 0 ≤ v → v + m = vars → vs.length = 2 ^ m → BitRow vs →
  Ev (fun k => spec_l8Rows.f k vars L vs v) (vars, (ins L (rowsT m v vs)).1, (ins L (rowsT m v vs)).2) := by
 intro m
 induction m with
 | zero =>
  intro L v vs h h0 hv hl hb
  refine Ev.step (Ev.pos (by omega) (Ev.pos (by rw [hl]; decide) (Ev.val _))) (fun k => spec_l8Rows.f.eq_2 ..)
 | succ m ih =>
  intro L v vs h h0 hv hl hb
  have h12 := h.v12
  obtain ⟨h1, h2⟩ := half_len hl
  have hp : (2 : Nat) ^ (m + 1) ≤ 1000000000000 := Nat.le_trans (Nat.pow_le_pow_right (by decide) (show m + 1 ≤ 12 by omega)) (by decide)
  refine Ev.step (Ev.neg (by omega) (Ev.pos (by omega) ?_)) (fun k => spec_l8Rows.f.eq_2 ..)
  rw [w_id (by omega) (by omega)]
  refine Ev.bind (ih L (v + 1) _ h (by omega) (by omega) h1 (hb.take _)) ?_
  obtain ⟨d1, _⟩ := dv_ins h (rowsT_ok h m (v + 1) _ (by omega) (by omega) h1 (hb.take _))
  rw [show rowsT (m + 1) v vs = .fork v (rowsT m (v + 1) (vs.take (vs.length / 2))) (rowsT m (v + 1) (vs.drop (vs.length / 2))) from rfl]
  rw [ins_fork]
  by_cases c4 : (ins L (rowsT m (v + 1) (vs.take (vs.length / 2)))).2 < 0
  ·rw [if_pos c4]
   exact Ev.pos c4 (Ev.val _)
  rw [if_neg c4]
  obtain ⟨d2, _⟩ := dv_ins d1 (rowsT_ok d1 m (v + 1) _ (by omega) (by omega) h2 (hb.drop _))
  exact Ev.neg c4 (Ev.bind (ih _ (v + 1) _ d1 (by omega) (by omega) h2 (hb.drop _)) (Ev.const (add_val vars v _ _ _ d2.len)))
/-! #### drawn diagrams -/
theorem dv_nil {vars : Int} (h0 : 0 ≤ vars) (h12 : vars ≤ 12) : DV vars [] := ⟨h0, h12, Nat.zero_le _, fun i x hx => by simp at hx, fun i x hx => by simp at hx⟩
theorem ins_place {vars : Int} {L : List S56} {m : Int} {t : DT} (h : DV vars L) (ht : TOk vars L m t) : -1 ≤ (ins L t).2 ∧ (ins L t).2 ≤ ((ins L t).1.length : Int) + 1 := by
 obtain ⟨d, hp⟩ := dv_ins h ht
 by_cases c : 0 ≤ (ins L t).2
 ·have := (hp c).1
  exact ⟨by omega, this.2⟩
 ·refine ⟨?_, by omega⟩
  cases t with
  | leaf n => exact absurd ht.1.1 c
  | fork v lo hi =>
   rw [ins_fork] at c ⊢
   by_cases c1 : (ins L lo).2 < 0
   ·rw [if_pos c1]
    exact Int.le_refl _
   ·rw [if_neg c1] at c ⊢
    unfold dadd at c ⊢
    by_cases c2 : (ins L lo).2 < 0 ∨ (ins (ins L lo).1 hi).2 < 0
    ·rw [if_pos c2]
     exact Int.le_refl _
    rw [if_neg c2] at c ⊢
    by_cases c3 : (ins L lo).2 = (ins (ins L lo).1 hi).2
    ·rw [if_pos c3] at c
     exact absurd (show 0 ≤ (ins L lo).2 by omega) c
    rw [if_neg c3] at c ⊢
    cases hf : dfind (ins (ins L lo).1 hi).1 ⟨v, (ins L lo).2, (ins (ins L lo).1 hi).2⟩ with
    | some i =>
     rw [hf] at c
     exact absurd (show (0 : Int) ≤ (i : Int) + 2 by omega) c
    | none =>
     rw [hf] at c
     simp only at c ⊢
     by_cases c4 : 2000 ≤ (ins (ins L lo).1 hi).1.length
     ·rw [if_pos c4]
      exact Int.le_refl _
     ·rw [if_neg c4] at c
      exact absurd (show (0 : Int) ≤ ((ins (ins L lo).1 hi).1.length : Int) + 2 by omega) c
/-- What is drawn: a diagram of few variables, and its places. -/
structure Drawn (most : Int) (r : Int × List S56 × List Int × Int) : Prop where
 dv : DV r.1 r.2.1
 few : r.1 ≤ most
 some_ : 2 ≤ r.2.2.1.length
 many : r.2.2.1.length ≤ 10
 place : ∀ x ∈ r.2.2.1, -1 ≤ x ∧ x ≤ 2001
theorem shl_few (m : Nat) (h : m ≤ 6) : shl .i64 1 (m : Int) = ((2 ^ m : Nat) : Int) := by
 have : m = 0 ∨ m = 1 ∨ m = 2 ∨ m = 3 ∨ m = 4 ∨ m = 5 ∨ m = 6 := by omega
 rcases this with rfl | rfl | rfl | rfl | rfl | rfl | rfl <;> rfl
theorem draw_l1 (b : List Int) (hb : Drawer b) (m : Nat) (hm : m ≤ 6) (P : Int × List S56 × List Int × Int → Prop) (pl : List Int) (i : Int) (k2 : Int) (L : List S56) (q0 : Int)
  (hrest : ∀ (vs : List Int) (p : Int), vs.length = 2 ^ m → BitRow vs → 0 ≤ p → p ≤ q0 + 64 → Tot (fun k => (spec_l8Rows.f k (m : Int) L vs 0).bind fun r => if pl.length < 17592186044416 then spec_l8Draw.l0 k (pl ++ [r.2.2]) (wrap64 (i - 1)) b p r.1 r.2.1 else none) P) :
  ∀ (d j : Nat) (vs : List Int) (p : Int), j + d = 2 ^ m → vs.length = j → BitRow vs → 0 ≤ p → p ≤ q0 + j → q0 ≤ 900000 → Tot (fun k => spec_l8Draw.l1 k pl i vs k2 (j : Int) b p (m : Int) L) P := by
 have hp : (2 : Nat) ^ m ≤ 64 := Nat.le_trans (Nat.pow_le_pow_right (by decide) hm) (by decide)
 intro d
 induction d with
 | zero =>
  intro j vs p hj hl hbs p0 p1 hq
  refine Tot.step (Tot.pos (by omega) ?_) (fun k => spec_l8Draw.l1.eq_2 ..)
  rw [shl_few m hm]
  exact Tot.neg (by omega) (hrest vs p (by omega) hbs p0 (by omega))
 | succ d ih =>
  intro j vs p hj hl hbs p0 p1 hq
  refine Tot.step (Tot.pos (by omega) ?_) (fun k => spec_l8Draw.l1.eq_2 ..)
  rw [shl_few m hm]
  refine Tot.pos (by omega) (Tot.bind (pick_tot b hb p k2 p0 (by omega)) ?_)
  rintro ⟨y, q⟩ ⟨e1, _, _⟩
  simp only at e1 ⊢
  subst e1
  rw [w_id (by omega) (by omega), show (j : Int) + 1 = ((j + 1 : Nat) : Int) by omega]
  have bit : ∀ c : Int, c = 0 ∨ c = 1 → BitRow (vs ++ [c]) := fun c hc x hx => by
   rcases List.mem_append.mp hx with h | h
   ·exact hbs x h
   ·rw [List.mem_singleton.mp h]
    exact hc
  exact Tot.ite (fun _ => Tot.pos (by omega) (ih (j + 1) _ _ (by omega) (by simp; omega) (bit 1 (.inr rfl)) (by omega) (by omega) hq)) (fun _ => Tot.pos (by omega) (ih (j + 1) _ _ (by omega) (by simp; omega) (bit 0 (.inl rfl)) (by omega) (by omega) hq))
theorem draw_l0 (b : List Int) (hb : Drawer b) (m : Nat) (hm : m ≤ 6) (most : Int) (hmost : (m : Int) ≤ most) : ∀ (d : Nat) (pl : List Int) (L : List S56) (p : Int), d ≤ 3 → pl.length + d ≤ 10 → 2 ≤ pl.length → DV (m : Int) L → (∀ x ∈ pl, -1 ≤ x ∧ x ≤ 2001) → 0 ≤ p → p + 70 * d ≤ 100000 →
  Tot (fun k => spec_l8Draw.l0 k pl (d : Int) b p (m : Int) L) (fun r => Drawn most r ∧ 0 ≤ r.2.2.2 ∧ r.2.2.2 ≤ p + 70 * d) := by
 intro d
 induction d with
 | zero =>
  intro pl L p _ h1 h2 hd hp p0 p1
  refine Tot.step (Tot.neg (by omega) (Tot.val ⟨⟨hd, hmost, h2, by omega, hp⟩, p0, by simp⟩)) (fun k => spec_l8Draw.l0.eq_2 ..)
 | succ d ih =>
  intro pl L p h3 h1 h2 hd hp p0 p1
  refine Tot.step (Tot.pos (by omega) (Tot.bind (num_tot b hb p _ p0 (by omega) (by simp)) ?_)) (fun k => spec_l8Draw.l0.eq_2 ..)
  rintro ⟨k2, q⟩ ⟨e1, _⟩
  simp only at e1 ⊢
  subst e1
  refine draw_l1 b hb m hm _ pl _ k2 L (p + 1) ?_ (2 ^ m) 0 [] (p + 1) (by omega) rfl (fun x hx => by simp at hx) (by omega) (by omega) (by omega)
  intro vs p2 hl hbs q0 q1
  have hok := rowsT_ok hd m 0 vs (Int.le_refl _) (by omega) hl hbs
  obtain ⟨d1, _⟩ := dv_ins hd hok
  have hpl := ins_place hd hok
  have hlen := d1.len
  refine Tot.bind (Tot.of (spec_rows m L 0 vs hd (Int.le_refl _) (by omega) hl hbs) (P := fun r => r = ((m : Int), (ins L (rowsT m 0 vs)).1, (ins L (rowsT m 0 vs)).2)) rfl) ?_
  rintro r rfl
  refine Tot.pos (by omega) ?_
  show Tot (fun k => spec_l8Draw.l0 k (pl ++ [(ins L (rowsT m 0 vs)).2]) (wrap64 (((d + 1 : Nat) : Int) - 1)) b p2 (m : Int) (ins L (rowsT m 0 vs)).1) _
  rw [w_id (by omega) (by omega), show ((d + 1 : Nat) : Int) - 1 = (d : Int) by omega]
  refine (ih (pl ++ [(ins L (rowsT m 0 vs)).2]) (ins L (rowsT m 0 vs)).1 p2 (by omega) (by simp; omega) (by simp; omega) d1 (fun x hx => ?_) q0 (by omega)).mono ?_
  ·rcases List.mem_append.mp hx with h | h
   ·exact hp x h
   ·rw [List.mem_singleton.mp h]
    omega
  ·rintro r ⟨r1, r2, r3⟩
   exact ⟨r1, r2, by omega⟩
theorem draw_tot (b : List Int) (hb : Drawer b) (p most : Int) (p0 : 0 ≤ p) (p1 : p ≤ 50000) (m0 : 0 ≤ most) (m1 : most ≤ 6) : Tot (fun k => spec_l8Draw.f k b p most) (fun r => Drawn most r ∧ 0 ≤ r.2.2.2 ∧ r.2.2.2 ≤ p + 300) := by
 unfold spec_l8Draw.f
 rw [w_id (by omega) (by omega)]
 refine Tot.bind (pick_tot b hb p (most + 1) p0 (by omega)) ?_
 rintro ⟨v, q⟩ ⟨e1, v0, v1⟩
 simp only at e1 v0 v1 ⊢
 subst e1
 have v2 := v1 (by omega)
 refine Tot.bind (num_tot b hb (p + 1) _ (by omega) (by omega) (by simp)) ?_
 rintro ⟨d, q⟩ ⟨e1, hd⟩
 simp only at e1 hd ⊢
 subst e1
 have hd3 : 0 ≤ d ∧ d ≤ 3 := by simp at hd; omega
 obtain ⟨m, rfl⟩ := Int.eq_ofNat_of_zero_le v0
 obtain ⟨n, rfl⟩ := Int.eq_ofNat_of_zero_le hd3.1
 refine (draw_l0 b hb m (by omega) most (by omega) n [0, 1] [] (p + 1 + 1) (by omega) (by simp; omega) (by simp) (dv_nil (by omega) (by omega)) (fun x hx => by simp at hx; omega) (by omega) (by omega)).mono ?_
 rintro r ⟨r1, r2, r3⟩
 exact ⟨r1, r2, by omega⟩
/-- A drawn diagram that may be spoilt, and a place. -/
structure DrawnAny (r : Int × List S56 × Int × Int) : Prop where
 v0 : -1 ≤ r.1
 v1 : r.1 ≤ 13
 len : r.2.1.length ≤ 2001
 n0 : -1 ≤ r.2.2.1
 n1 : r.2.2.1 ≤ 3000
theorem any_tot (b : List Int) (hb : Drawer b) (p most : Int) (p0 : 0 ≤ p) (p1 : p ≤ 40000) (m0 : 0 ≤ most) (m1 : most ≤ 6) : Tot (fun k => spec_l8Any.f k b p most) (fun r => DrawnAny r ∧ 0 ≤ r.2.2.2 ∧ r.2.2.2 ≤ p + 400) := by
 unfold spec_l8Any.f
 refine Tot.bind (draw_tot b hb p most p0 (by omega) m0 m1) ?_
 rintro ⟨vars, L, pl, q⟩ ⟨⟨hd, hf, hs, hm, hp⟩, q0, q1⟩
 simp only at hd hf hs hm hp q0 q1 ⊢
 have hl := hd.len
 have hv := hd.v0
 have place : ∀ z : Int, 0 ≤ z → z < (pl.length : Int) → -1 ≤ rd pl z ∧ rd pl z ≤ 2001 := fun z h0 h1 => by
  obtain ⟨i, rfl⟩ := Int.eq_ofNat_of_zero_le h0
  refine hp _ ?_
  rw [rd_lt (by omega)]
  exact List.getElem_mem _
 have j2 : ∀ (n q : Int) (c : Bool), -1 ≤ n → n ≤ 2001 → (c = true → 0 < (L.length : Int)) → 0 ≤ q → q ≤ p + 350 → Tot (fun k => spec_l8Any.j2 k n c b q vars L) (fun r => DrawnAny r ∧ 0 ≤ r.2.2.2 ∧ r.2.2.2 ≤ p + 400) := by
  intro n q c n0 n1 hc q0 q1
  refine Tot.step ?_ (fun k => spec_l8Any.j2.eq_2 ..)
  refine Tot.ite (fun h => ?_) (fun _ => ?_)
  ·refine Tot.pos (hc h) (Tot.bind (num_tot b hb q _ q0 (by omega) (by simp)) ?_)
   rintro ⟨x, q2⟩ ⟨e1, _⟩
   simp only at e1 ⊢
   subst e1
   exact Tot.val ⟨⟨by show -1 ≤ vars; omega, by show vars ≤ 13; omega, by show (L.set _ _).length ≤ 2001; simp; omega, n0, by show n ≤ 3000; omega⟩, by show 0 ≤ q + 1; omega, by show q + 1 ≤ p + 400; omega⟩
  ·rw [w_id (by omega) (by omega)]
   refine Tot.bind (num_tot b hb q _ q0 (by omega) (by simp)) ?_
   rintro ⟨x, q2⟩ ⟨e1, hx⟩
   simp only at e1 hx ⊢
   subst e1
   have hx2 : -1 ≤ x ∧ x ≤ 3000 := by simp at hx; omega
   exact Tot.val ⟨⟨by show -1 ≤ vars; omega, by show vars ≤ 13; omega, by show L.length ≤ 2001; omega, hx2.1, hx2.2⟩, by show 0 ≤ q + 1; omega, by show q + 1 ≤ p + 400; omega⟩
 have j1 : ∀ (n f q : Int) (c : Bool), -1 ≤ n → n ≤ 2001 → (c = true → 0 < (L.length : Int)) → 0 ≤ q → q ≤ p + 350 → Tot (fun k => spec_l8Any.j1 k n f c b q vars L) (fun r => DrawnAny r ∧ 0 ≤ r.2.2.2 ∧ r.2.2.2 ≤ p + 400) := by
  intro n f q c n0 n1 hc q0 q1
  refine Tot.step ?_ (fun k => spec_l8Any.j1.eq_2 ..)
  refine Tot.ite (fun h => ?_) (fun _ => Tot.ite (fun _ => j2 n q _ n0 n1 (fun h => of_decide_eq_true h) q0 q1) (fun _ => j2 n q _ n0 n1 (fun h => by cases h) q0 q1))
  exact Tot.pos (hc h) (Tot.pos (by omega) (Tot.val ⟨⟨by show -1 ≤ vars; omega, by show vars ≤ 13; omega, by simp; omega, n0, by show n ≤ 3000; omega⟩, q0, by show q ≤ p + 400; omega⟩))
 have j0 : ∀ (n q : Int), -1 ≤ n → n ≤ 2001 → 0 ≤ q → q ≤ p + 310 → Tot (fun k => spec_l8Any.j0 k n b q vars L) (fun r => DrawnAny r ∧ 0 ≤ r.2.2.2 ∧ r.2.2.2 ≤ p + 400) := by
  intro n q n0 n1 q0 q1
  refine Tot.step (Tot.bind (pick_tot b hb q 14 q0 (by omega)) ?_) (fun k => spec_l8Any.j0.eq_2 ..)
  rintro ⟨x, q2⟩ ⟨e1, _, _⟩
  simp only at e1 ⊢
  subst e1
  refine Tot.ite (fun _ => ?_) (fun _ => Tot.val ⟨⟨by show -1 ≤ vars; omega, by show vars ≤ 13; omega, by show L.length ≤ 2001; omega, n0, by show n ≤ 3000; omega⟩, by show 0 ≤ q + 1; omega, by show q + 1 ≤ p + 400; omega⟩)
  refine Tot.bind (pick_tot b hb (q + 1) 4 (by omega) (by omega)) ?_
  rintro ⟨f, q2⟩ ⟨e1, _, _⟩
  simp only at e1 ⊢
  subst e1
  refine Tot.ite (fun _ => ?_) (fun _ => Tot.ite (fun _ => j1 n f _ _ n0 n1 (fun h => of_decide_eq_true h) (by omega) (by omega)) (fun _ => j1 n f _ _ n0 n1 (fun h => by cases h) (by omega) (by omega)))
  refine Tot.bind (num_tot b hb (q + 1 + 1) _ (by omega) (by omega) (by simp)) ?_
  rintro ⟨x, q2⟩ ⟨e1, hx⟩
  simp only at e1 hx ⊢
  subst e1
  have hx2 : -1 ≤ x ∧ x ≤ 13 := by simp at hx; omega
  exact Tot.val ⟨⟨hx2.1, hx2.2, by show L.length ≤ 2001; omega, n0, by show n ≤ 3000; omega⟩, by show 0 ≤ q + 1 + 1 + 1; omega, by show q + 1 + 1 + 1 ≤ p + 400; omega⟩
 rw [w_id (by omega) (by omega)]
 refine Tot.pos (by omega) (Tot.pos (by omega) (Tot.bind (pick_tot b hb q 4 q0 (by omega)) ?_))
 rintro ⟨x, q2⟩ ⟨e1, _, _⟩
 simp only at e1 ⊢
 subst e1
 refine Tot.ite (fun _ => ?_) (fun _ => ?_)
 ·refine Tot.bind (pick_tot b hb (q + 1) (pl.length : Int) (by omega) (by omega)) ?_
  rintro ⟨z, q2⟩ ⟨e1, z0, z1⟩
  simp only at e1 z0 z1 ⊢
  subst e1
  have z2 := z1 (by omega)
  have := place z z0 z2
  exact Tot.pos z0 (Tot.pos z2 (j0 _ _ this.1 this.2 (by omega) (by omega)))
 ·have := place ((pl.length : Int) - 1) (by omega) (by omega)
  exact j0 _ _ this.1 this.2 (by omega) (by omega)
/-! #### the value of a place -/
def dval (vars : Int) (L : List S56) (bits : List Int) : Nat → Int → Int
 | 0, n => n
 | m + 1, n => if n < 2 then n else dval vars L bits m (gat L n (dvar vars L n) (decide (rd bits (dvar vars L n) = 1)))
theorem dval_const {vars : Int} {L : List S56} {bits : List Int} {n : Int} (h : n < 2) : ∀ m, dval vars L bits m n = n := by
 intro m
 cases m with
 | zero => rfl
 | succ m =>
  unfold dval
  rw [if_pos h]
theorem dval_same {vars : Int} {L : List S56} (h : DV vars L) (bits : List Int) : ∀ (m m2 : Nat) (n : Int), Pl L n → vars - dvar vars L n < m → vars - dvar vars L n < m2 → dval vars L bits m n = dval vars L bits m2 n := by
 intro m
 induction m with
 | zero =>
  intro m2 n p h1 _
  have := (h.dvar_le p).2
  omega
 | succ m ih =>
  intro m2 n p h1 h2
  cases m2 with
  | zero =>
   have := (h.dvar_le p).2
   omega
  | succ m2 =>
   unfold dval
   by_cases c : n < 2
   ·rw [if_pos c, if_pos c]
   ·rw [if_neg c, if_neg c]
    have f := gat_ok h p (Int.le_refl _) ((dvar_two h p).2 c) (decide (rd bits (dvar vars L n) = 1))
    exact ih m2 _ f.1 (by omega) (by omega)
theorem dval_ext {vars : Int} {L L2 : List S56} (h : DV vars L) (he : L <+: L2) (bits : List Int) : ∀ (m : Nat) (n : Int), Pl L n → dval vars L2 bits m n = dval vars L bits m n := by
 intro m
 induction m with
 | zero => intro n _; rfl
 | succ m ih =>
  intro n p
  unfold dval
  by_cases c : n < 2
  ·rw [if_pos c, if_pos c]
  ·rw [if_neg c, if_neg c, dvar_ext p he, gat_ext p he]
   exact ih _ (gat_ok h p (Int.le_refl _) ((dvar_two h p).2 c) _).1
/-- The constant to which one comes from a place. -/
def dvP (vars : Int) (L : List S56) (bits : List Int) (n : Int) : Int := dval vars L bits 13 n
theorem dvP_const {vars : Int} {L : List S56} {bits : List Int} {n : Int} (h : n < 2) : dvP vars L bits n = n := dval_const h 13
theorem dvP_ext {vars : Int} {L L2 : List S56} (h : DV vars L) (he : L <+: L2) (bits : List Int) {n : Int} (p : Pl L n) : dvP vars L2 bits n = dvP vars L bits n := dval_ext h he bits 13 n p
theorem dvP_fork {vars : Int} {L : List S56} (h : DV vars L) (bits : List Int) {n : Int} (p : Pl L n) (c : ¬ n < 2) : dvP vars L bits n = dvP vars L bits (gat L n (dvar vars L n) (decide (rd bits (dvar vars L n) = 1))) := by
 have f := gat_ok h p (Int.le_refl _) ((dvar_two h p).2 c) (decide (rd bits (dvar vars L n) = 1))
 have a0 := (h.dvar_le p).1
 have a1 := h.v12
 unfold dvP
 rw [dval.eq_2, if_neg c, dval_same h bits 12 13 _ f.1 (by omega) (by omega)]
/-- The value of a tree. -/
def tval (vars : Int) (L : List S56) (bits : List Int) : DT → Int
 | .leaf n => dvP vars L bits n
 | .fork v lo hi => if rd bits v = 1 then tval vars L bits hi else tval vars L bits lo
theorem tval_ext {vars : Int} {L L2 : List S56} (h : DV vars L) (he : L <+: L2) (bits : List Int) {t : DT} : ∀ {m : Int}, TOk vars L m t → tval vars L2 bits t = tval vars L bits t := by
 induction t with
 | leaf n =>
  intro m ht
  exact dvP_ext h he bits ht.1
 | fork v lo hi ihl ihh =>
  intro m ht
  unfold tval
  rw [ihl ht.2.2.2.1, ihh ht.2.2.2.2]
/-- Where a fork is that was added. -/
theorem dadd_at {vars v lo hi : Int} {L : List S56} (hne : lo ≠ hi) (h : 0 ≤ (dadd L v lo hi).2) : 2 ≤ (dadd L v lo hi).2 ∧ dvar vars (dadd L v lo hi).1 (dadd L v lo hi).2 = v ∧ gat (dadd L v lo hi).1 (dadd L v lo hi).2 v false = lo ∧ gat (dadd L v lo hi).1 (dadd L v lo hi).2 v true = hi := by
 have key : ∀ (M : List S56) (i : Nat), M[i]? = some ⟨v, lo, hi⟩ → 2 ≤ (i : Int) + 2 ∧ dvar vars M ((i : Int) + 2) = v ∧ gat M ((i : Int) + 2) v false = lo ∧ gat M ((i : Int) + 2) v true = hi := by
  intro M i hx
  have hd : M.getD ((i : Int) + 2 - 2).toNat ⟨0, 0, 0⟩ = ⟨v, lo, hi⟩ := by
   rw [show ((i : Int) + 2 - 2).toNat = i by omega, List.getD_eq_getElem?_getD, hx]
   rfl
  refine ⟨by omega, ?_, ?_, ?_⟩
  ·unfold dvar
   rw [if_neg (by omega), hd]
  ·unfold gat
   rw [if_neg (by omega), hd, if_pos rfl, if_neg (by decide)]
  ·unfold gat
   rw [if_neg (by omega), hd, if_pos rfl, if_pos rfl]
 have hnn := dadd_nn h
 unfold dadd at h ⊢
 rw [if_neg (by omega), if_neg hne] at h ⊢
 cases hf : dfind L ⟨v, lo, hi⟩ with
 | some i => exact key L i (dfind_some hf)
 | none =>
  rw [hf] at h
  simp only at h ⊢
  by_cases c : 2000 ≤ L.length
  ·rw [if_pos c] at h
   exact (neg1 h).elim
  ·rw [if_neg c]
   exact key _ _ (by simp)
theorem dadd_val {vars v lo hi : Int} {L : List S56} (h : DV vars L) (hl : Pl L lo) (hh : Pl L hi) (v0 : 0 ≤ v) (v1 : v < vars) (hvl : v < dvar vars L lo) (hvh : v < dvar vars L hi) (hn : 0 ≤ (dadd L v lo hi).2) (bits : List Int) :
  dvP vars (dadd L v lo hi).1 bits (dadd L v lo hi).2 = if rd bits v = 1 then dvP vars L bits hi else dvP vars L bits lo := by
 by_cases c : lo = hi
 ·subst c
  have e : dadd L v lo lo = (L, lo) := by
   unfold dadd
   rw [if_neg (by have := hl.1; omega), if_pos rfl]
  rw [e, ite_self]
 ·obtain ⟨q1, q2, q3, q4⟩ := dadd_at (vars := vars) c hn
  obtain ⟨dd, hp⟩ := dv_dadd h hl hh v0 v1 hvl hvh
  have he := dadd_ext L v lo hi
  rw [dvP_fork dd bits (hp hn).1 (by omega), q2]
  by_cases cb : rd bits v = 1
  ·rw [decide_eq_true cb, q4, if_pos cb, dvP_ext h he bits hh]
  ·rw [decide_eq_false cb, q3, if_neg cb, dvP_ext h he bits hl]
/-- What was added has the tree's values. -/
theorem ins_val {vars : Int} (bits : List Int) {t : DT} : ∀ {L : List S56} {m : Int}, DV vars L → TOk vars L m t → 0 ≤ (ins L t).2 → dvP vars (ins L t).1 bits (ins L t).2 = tval vars L bits t := by
 induction t with
 | leaf n =>
  intro L m h ht hn
  rfl
 | fork v lo hi ihl ihh =>
  intro L m h ht hn
  obtain ⟨t1, t2, t3, t4, t5⟩ := ht
  rw [ins_fork] at hn ⊢
  by_cases c : (ins L lo).2 < 0
  ·rw [if_pos c] at hn
   exact (neg1 hn).elim
  rw [if_neg c] at hn ⊢
  obtain ⟨d1, p1⟩ := dv_ins h t4
  obtain ⟨p1, q1⟩ := p1 (by omega)
  have e1 := ins_ext L lo
  obtain ⟨d2, p2⟩ := dv_ins d1 (t5.ext e1)
  have hnn := dadd_nn hn
  obtain ⟨p2, q2⟩ := p2 hnn.2
  have e2 := ins_ext (ins L lo).1 hi
  rw [dadd_val d2 (p1.ext e2) p2 t2 t3 (by rw [dvar_ext p1 e2]; omega) (by omega) hn bits]
  unfold tval
  rw [dvP_ext d1 e2 bits p1, ihl h t4 (by omega), ihh d1 (t5.ext e1) hnn.2, tval_ext h e1 bits t5]
theorem TOk.down {vars : Int} {L : List S56} {t : DT} {x y : Int} (hxy : y ≤ x) (ht : TOk vars L x t) : TOk vars L y t := by
 cases t with
 | leaf n => exact ⟨ht.1, by have := ht.2; omega⟩
 | fork v lo hi => exact ⟨by have := ht.1; omega, ht.2⟩
theorem gat_self {L : List S56} {vars n : Int} (c : ¬ n < 2) (hi : Bool) : gat L n (dvar vars L n) hi = if hi = true then (rd_T56 L (n - 2)).f2 else (rd_T56 L (n - 2)).f1 := by
 unfold gat dvar
 rw [if_neg c, if_neg c, if_pos rfl, rdP]
theorem dvar_self {L : List S56} {vars n : Int} (c : ¬ n < 2) : dvar vars L n = (rd_T56 L (n - 2)).f0 := by
 unfold dvar
 rw [if_neg c, rdP]
/-! #### places of a diagram are the same just if they have the same values -/
theorem rd_set_far {bits : List Int} {w u : Int} (x : Int) (h0 : 0 ≤ w) (h1 : 0 ≤ u) (hne : w ≠ u) : rd (bits.set w.toNat x) u = rd bits u := by
 obtain ⟨a, rfl⟩ := Int.eq_ofNat_of_zero_le h0
 obtain ⟨b, rfl⟩ := Int.eq_ofNat_of_zero_le h1
 rw [Int.toNat_natCast]
 exact rd_set_ne (by omega)
theorem rd_set_at {bits : List Int} {w : Int} (x : Int) (h0 : 0 ≤ w) (h1 : w < (bits.length : Int)) : rd (bits.set w.toNat x) w = x := by
 obtain ⟨a, rfl⟩ := Int.eq_ofNat_of_zero_le h0
 rw [Int.toNat_natCast]
 exact rd_set_eq (by omega)
theorem dval_low {vars : Int} {L : List S56} (h : DV vars L) (bits : List Int) {w : Int} (hw : 0 ≤ w) (x : Int) : ∀ (m : Nat) (n : Int), Pl L n → w < dvar vars L n → dval vars L (bits.set w.toNat x) m n = dval vars L bits m n := by
 intro m
 induction m with
 | zero => intro n _ _; rfl
 | succ m ih =>
  intro n p hd
  unfold dval
  by_cases c : n < 2
  ·rw [if_pos c, if_pos c]
  ·rw [if_neg c, if_neg c, rd_set_far x hw (by omega) (by omega)]
   have f := gat_ok h p (Int.le_refl _) ((dvar_two h p).2 c) (decide (rd bits (dvar vars L n) = 1))
   exact ih _ f.1 (by omega)
theorem dvP_low {vars : Int} {L : List S56} (h : DV vars L) (bits : List Int) {w : Int} (hw : 0 ≤ w) (x : Int) {n : Int} (p : Pl L n) (hd : w < dvar vars L n) : dvP vars L (bits.set w.toNat x) n = dvP vars L bits n := dval_low h bits hw x 13 n p hd
theorem dvP_lo {vars : Int} {L : List S56} (h : DV vars L) (bits : List Int) (hb : bits.length = 12) {n : Int} (p : Pl L n) (c : ¬ n < 2) (hi : Bool) : dvP vars L (bits.set (dvar vars L n).toNat (if hi = true then 1 else 0)) n = dvP vars L bits (gat L n (dvar vars L n) hi) := by
 have hv := (dvar_two h p).2 c
 have hv0 := (h.dvar_le p).1
 have h12 := h.v12
 have f := gat_ok h p (Int.le_refl _) hv hi
 rw [dvP_fork h _ p c, rd_set_at _ hv0 (by omega)]
 cases hi with
 | true =>
  rw [if_pos rfl, decide_eq_true rfl]
  exact dvP_low h bits hv0 _ f.1 f.2
 | false =>
  rw [if_neg (by decide), decide_eq_false (by decide)]
  exact dvP_low h bits hv0 _ f.1 f.2
/-- The same values for all bits. -/
def Same (vars : Int) (L : List S56) (p q : Int) : Prop := ∀ bits : List Int, bits.length = 12 → dvP vars L bits p = dvP vars L bits q
theorem same_gat {vars : Int} {L : List S56} (h : DV vars L) {p q : Int} (pp : Pl L p) (pq : Pl L q) (hs : Same vars L p q) (c : ¬ p < 2) (hle : dvar vars L p ≤ dvar vars L q) (hi : Bool) : Same vars L (gat L p (dvar vars L p) hi) (gat L q (dvar vars L p) hi) := by
 intro bits hb
 have h1 := hs (bits.set (dvar vars L p).toNat (if hi = true then 1 else 0)) (by simpa using hb)
 rw [dvP_lo h bits hb pp c hi] at h1
 rw [h1]
 by_cases e : dvar vars L q = dvar vars L p
 ·have c2 : ¬ q < 2 := (dvar_two h pq).1 (by rw [e]; exact (dvar_two h pp).2 c)
  rw [← e, dvP_lo h bits hb pq c2 hi]
 ·have hv0 := (h.dvar_le pp).1
  rw [dvP_low h bits hv0 _ pq (by omega)]
  congr 1
  unfold gat
  by_cases c2 : q < 2
  ·rw [if_pos c2]
  ·rw [if_neg c2, if_neg (fun e2 => e (by unfold dvar at e2 ⊢; rw [if_neg c2]; exact e2))]
theorem gat_above {vars : Int} {L : List S56} {q v : Int} (h : v < dvar vars L q) (hi : Bool) : gat L q v hi = q := by
 unfold gat
 by_cases c2 : q < 2
 ·rw [if_pos c2]
 ·unfold dvar at h
  rw [if_neg c2] at h
  rw [if_neg c2, if_neg (by omega)]
theorem gat_ne {vars : Int} {L : List S56} (h : DV vars L) {p : Int} (pp : Pl L p) (c : ¬ p < 2) : gat L p (dvar vars L p) false ≠ gat L p (dvar vars L p) true ∧ gat L p (dvar vars L p) false < p ∧ gat L p (dvar vars L p) true < p := by
 obtain ⟨x, hx, hd, e, _, _, _, _, l1, l2, ne, _, _⟩ := h.at_ pp c
 unfold gat
 rw [e, hd, if_neg c, if_pos rfl, if_neg c, if_pos rfl, if_neg (by decide), if_pos rfl]
 exact ⟨ne, l1, l2⟩
theorem place_eq {vars : Int} {L : List S56} (h : DV vars L) {p q : Int} (pp : Pl L p) (pq : Pl L q) (c : ¬ p < 2) (c2 : ¬ q < 2) (hv : dvar vars L p = dvar vars L q) (hl : gat L p (dvar vars L p) false = gat L q (dvar vars L p) false) (hh : gat L p (dvar vars L p) true = gat L q (dvar vars L p) true) : p = q := by
 obtain ⟨x, hx, hd, e, _⟩ := h.at_ pp c
 obtain ⟨y, hy, hd2, e2, _⟩ := h.at_ pq c2
 rw [e, e2] at hv
 rw [e] at hl hh
 unfold gat at hl hh
 rw [hd, hd2, if_neg c, if_neg c2, if_pos rfl, if_pos hv.symm] at hl hh
 rw [if_neg (by decide), if_neg (by decide)] at hl
 rw [if_pos rfl, if_pos rfl] at hh
 have hxy : x = y := by
  obtain ⟨a, b, d⟩ := x
  obtain ⟨a', b', d'⟩ := y
  simp only at hv hl hh
  subst hv hl hh
  rfl
 subst hxy
 obtain ⟨l1, g1⟩ := List.getElem?_eq_some_iff.1 hx
 obtain ⟨l2, g2⟩ := List.getElem?_eq_some_iff.1 hy
 have := nodup_inj h.nd l1 l2 (g1.trans g2.symm)
 have := pp.1
 have := pq.1
 omega
theorem canon {vars : Int} {L : List S56} (h : DV vars L) : ∀ (N : Nat) (p q : Int), p < N → q < N → Pl L p → Pl L q → Same vars L p q → p = q := by
 intro N
 induction N with
 | zero =>
  intro p q h1 _ pp _ _
  have := pp.1
  omega
 | succ N ih =>
  intro p q h1 h2 pp pq hs
  -- a place whose variable stands ahead of the other's has two equal branches: it is none
  have no : ∀ p q : Int, p < (N + 1 : Nat) → q < (N + 1 : Nat) → Pl L p → Pl L q → Same vars L p q → ¬ dvar vars L p < dvar vars L q := by
   intro p q h1 h2 pp pq hs hlt
   have c : ¬ p < 2 := (dvar_two h pp).1 (by have := (h.dvar_le pq).2; omega)
   have f := fun hi => gat_ok h pp (Int.le_refl _) ((dvar_two h pp).2 c) hi
   obtain ⟨ne, l1, l2⟩ := gat_ne h pp c
   have s0 := same_gat h pp pq hs c (by omega) false
   have s1 := same_gat h pp pq hs c (by omega) true
   rw [gat_above hlt] at s0 s1
   exact ne (ih _ _ (by omega) (by omega) (f false).1 (f true).1 (fun bits hb => (s0 bits hb).trans (s1 bits hb).symm))
  have e : dvar vars L p = dvar vars L q := by
   have a := no p q h1 h2 pp pq hs
   have b := no q p h2 h1 pq pp (fun bits hb => (hs bits hb).symm)
   omega
  by_cases c : p < 2
  ·have c2 : q < 2 := by
    refine Decidable.byContradiction (fun c2 => ?_)
    have := (dvar_two h pq).2 c2
    have := dvar_const (vars := vars) (L := L) c
    omega
   have := hs (List.replicate 12 0) (by simp)
   rw [dvP_const c, dvP_const c2] at this
   exact this
  ·have c2 : ¬ q < 2 := (dvar_two h pq).1 (by rw [← e]; exact (dvar_two h pp).2 c)
   have f := fun hi => gat_ok h pp (Int.le_refl _) ((dvar_two h pp).2 c) hi
   have g := fun hi => gat_ok h pq (Int.le_refl _) ((dvar_two h pq).2 c2) hi
   obtain ⟨_, l1, l2⟩ := gat_ne h pp c
   obtain ⟨_, l3, l4⟩ := gat_ne h pq c2
   rw [← e] at g l3 l4
   exact place_eq h pp pq c c2 e (ih _ _ (by omega) (by omega) (f false).1 (g false).1 (same_gat h pp pq hs c (by omega) false)) (ih _ _ (by omega) (by omega) (f true).1 (g true).1 (same_gat h pp pq hs c (by omega) true))
theorem canon_eq {vars : Int} {L : List S56} (h : DV vars L) {p q : Int} (pp : Pl L p) (pq : Pl L q) (hs : Same vars L p q) : p = q := canon h (p.toNat + q.toNat + 1) p q (by have := pp.1; have := pq.1; omega) (by have := pp.1; have := pq.1; omega) pp pq hs
theorem tval_low {vars : Int} {L : List S56} (h : DV vars L) (bits : List Int) {w : Int} (hw : 0 ≤ w) (x : Int) {t : DT} : ∀ {m : Int}, TOk vars L m t → w < m → tval vars L (bits.set w.toNat x) t = tval vars L bits t := by
 induction t with
 | leaf n =>
  intro m ht hm
  exact dvP_low h bits hw x ht.1 (by have := ht.2; omega)
 | fork v lo hi ihl ihh =>
  intro m ht hm
  obtain ⟨t1, t2, t3, t4, t5⟩ := ht
  unfold tval
  rw [rd_set_far x hw t2 (by omega), ihl t4 (by omega), ihh t5 (by omega)]
theorem tval_side {vars : Int} {L : List S56} (h : DV vars L) {bits : List Int} (hb : bits.length = 12) {v : Int} {lo hi : DT} {m : Int} (ht : TOk vars L m (.fork v lo hi)) : tval vars L (bits.set v.toNat 0) (.fork v lo hi) = tval vars L bits lo ∧ tval vars L (bits.set v.toNat 1) (.fork v lo hi) = tval vars L bits hi := by
 obtain ⟨t1, t2, t3, t4, t5⟩ := ht
 have h12 := h.v12
 constructor
 ·show (if rd (bits.set v.toNat 0) v = 1 then _ else _) = _
  rw [rd_set_at _ t2 (by omega), if_neg (by decide), tval_low h bits t2 0 t4 (by omega)]
 ·show (if rd (bits.set v.toNat 1) v = 1 then _ else _) = _
  rw [rd_set_at _ t2 (by omega), if_pos rfl, tval_low h bits t2 1 t5 (by omega)]
/-- A tree that has a place's values comes to that place, and nothing is added. -/
theorem ins_there {vars : Int} {L : List S56} (h : DV vars L) {t : DT} : ∀ {m : Int} (p : Int), TOk vars L m t → Pl L p → (∀ bits : List Int, bits.length = 12 → tval vars L bits t = dvP vars L bits p) → ins L t = (L, p) := by
 induction t with
 | leaf n =>
  intro m p ht pp hs
  rw [show n = p from canon_eq h ht.1 pp hs]
  rfl
 | fork v lo hi ihl ihh =>
  intro m p ht pp hs
  obtain ⟨t1, t2, t3, t4, t5⟩ := ht
  have h12 := h.v12
  have ht' : TOk vars L v (.fork v lo hi) := ⟨Int.le_refl _, t2, t3, t4, t5⟩
  have side := fun bits hb => tval_side h (bits := bits) hb ht'
  have nl : ¬ dvar vars L p < v := fun hlt => by
   have c : ¬ p < 2 := (dvar_two h pp).1 (by omega)
   have hv0 := (h.dvar_le pp).1
   have f := fun hi => gat_ok h pp (Int.le_refl _) ((dvar_two h pp).2 c) hi
   obtain ⟨ne, _, _⟩ := gat_ne h pp c
   refine ne (canon_eq h (f false).1 (f true).1 (fun bits hb => ?_))
   have e0 := dvP_lo h bits hb pp c false
   have e1 := dvP_lo h bits hb pp c true
   rw [← e0, ← e1, ← hs _ (by simpa using hb), ← hs _ (by simpa using hb), tval_low h bits hv0 _ ht' (by omega), tval_low h bits hv0 _ ht' (by omega)]
  rw [ins_fork]
  by_cases e : dvar vars L p = v
  ·have c : ¬ p < 2 := (dvar_two h pp).1 (by omega)
   have f := fun hi => gat_ok h pp (Int.le_refl _) ((dvar_two h pp).2 c) hi
   obtain ⟨ne, _, _⟩ := gat_ne h pp c
   have el := ihl (gat L p v false) t4 (by rw [← e]; exact (f false).1) (fun bits hb => by
    rw [← (side bits hb).1, hs _ (by simpa using hb)]
    have := dvP_lo h bits hb pp c false
    rw [e] at this
    exact this)
   have eh := ihh (gat L p v true) t5 (by rw [← e]; exact (f true).1) (fun bits hb => by
    rw [← (side bits hb).2, hs _ (by simpa using hb)]
    have := dvP_lo h bits hb pp c true
    rw [e] at this
    exact this)
   rw [el]
   simp only
   rw [eh]
   simp only
   rw [e] at f ne
   have g0 := (f false).1.1
   have g1 := (f true).1.1
   rw [if_neg (by omega)]
   unfold dadd
   rw [if_neg (by omega), if_neg ne]
   obtain ⟨x, hx, hd, ev, _⟩ := h.at_ pp c
   have hxe : (⟨v, gat L p v false, gat L p v true⟩ : S56) = x := by
    have exv : x.f0 = v := by omega
    have hg0 : gat L p v false = x.f1 := by unfold gat; rw [if_neg c, hd, if_pos exv, if_neg (by decide)]
    have hg1 : gat L p v true = x.f2 := by unfold gat; rw [if_neg c, hd, if_pos exv, if_pos rfl]
    rw [hg0, hg1]
    obtain ⟨a, b, d⟩ := x
    simp only at exv ⊢
    rw [exv]
   rw [hxe, dfind_at h.nd hx]
   show (L, ((p - 2).toNat : Int) + 2) = (L, p)
   congr 1
   have := pp.1
   omega
  ·have hgt : v < dvar vars L p := by omega
   have el := ihl p t4 pp (fun bits hb => by
    rw [← (side bits hb).1, hs _ (by simpa using hb), dvP_low h bits t2 _ pp hgt])
   have eh := ihh p t5 pp (fun bits hb => by
    rw [← (side bits hb).2, hs _ (by simpa using hb), dvP_low h bits t2 _ pp hgt])
   rw [el]
   simp only
   rw [eh]
   simp only
   have := pp.1
   rw [if_neg (by omega)]
   unfold dadd
   rw [if_neg (by omega), if_pos rfl]
/-! #### for how many rows of bits a place is true -/
def sc (vars : Int) (L : List S56) : Nat → Int → Int → Int
 | 0, _, _ => 0
 | m + 1, n, v => if n < 2 then n * 2 ^ (vars - v).toNat else (sc vars L m (gat L n (dvar vars L n) false) (dvar vars L n + 1) + sc vars L m (gat L n (dvar vars L n) true) (dvar vars L n + 1)) * 2 ^ (dvar vars L n - v).toNat
theorem sc_same {vars : Int} {L : List S56} (h : DV vars L) : ∀ (m m2 : Nat) (n v : Int), Pl L n → vars - dvar vars L n < m → vars - dvar vars L n < m2 → sc vars L m n v = sc vars L m2 n v := by
 intro m
 induction m with
 | zero =>
  intro m2 n v p h1 _
  have := (h.dvar_le p).2
  omega
 | succ m ih =>
  intro m2 n v p h1 h2
  cases m2 with
  | zero =>
   have := (h.dvar_le p).2
   omega
  | succ m2 =>
   unfold sc
   by_cases c : n < 2
   ·rw [if_pos c, if_pos c]
   ·have f := fun hi => gat_ok h p (Int.le_refl _) ((dvar_two h p).2 c) hi
    rw [if_neg c, if_neg c, ih m2 _ _ (f false).1 (by have := (f false).2; omega) (by have := (f false).2; omega), ih m2 _ _ (f true).1 (by have := (f true).2; omega) (by have := (f true).2; omega)]
def scP (vars : Int) (L : List S56) (n v : Int) : Int := sc vars L 13 n v
theorem scP_const {vars : Int} {L : List S56} {n : Int} (c : n < 2) (v : Int) : scP vars L n v = n * 2 ^ (vars - v).toNat := by
 unfold scP sc
 rw [if_pos c]
theorem scP_fork {vars : Int} {L : List S56} (h : DV vars L) {n : Int} (p : Pl L n) (c : ¬ n < 2) (v : Int) : scP vars L n v = (scP vars L (gat L n (dvar vars L n) false) (dvar vars L n + 1) + scP vars L (gat L n (dvar vars L n) true) (dvar vars L n + 1)) * 2 ^ (dvar vars L n - v).toNat := by
 have f := fun hi => gat_ok h p (Int.le_refl _) ((dvar_two h p).2 c) hi
 have a0 := (h.dvar_le p).1
 have a1 := h.v12
 unfold scP
 rw [sc.eq_2, if_neg c, sc_same h 12 13 _ _ (f false).1 (by have := (f false).2; omega) (by have := (f false).2; omega), sc_same h 12 13 _ _ (f true).1 (by have := (f true).2; omega) (by have := (f true).2; omega)]
theorem two_split (a b : Nat) : (2 : Int) ^ (a + b) = 2 ^ a * 2 ^ b := Int.pow_add 2 a b
theorem sc_shift {vars : Int} {L : List S56} (h : DV vars L) {n v w : Int} (p : Pl L n) (h1 : v ≤ w) (h2 : w ≤ dvar vars L n) : scP vars L n v = scP vars L n w * 2 ^ (w - v).toNat := by
 by_cases c : n < 2
 ·have hd := dvar_const (vars := vars) (L := L) c
  rw [scP_const c, scP_const c, show (vars - v).toNat = (vars - w).toNat + (w - v).toNat by omega, two_split, Int.mul_assoc]
 ·rw [scP_fork h p c, scP_fork h p c, show (dvar vars L n - v).toNat = (dvar vars L n - w).toNat + (w - v).toNat by omega, two_split, Int.mul_assoc]
theorem pow_small {m : Nat} (h : m ≤ 12) : 1 ≤ (2 : Int) ^ m ∧ (2 : Int) ^ m ≤ 4096 := by
 have e : (2 : Int) ^ m = ((2 ^ m : Nat) : Int) := by simp
 have h1 : (2 : Nat) ^ m ≤ 2 ^ 12 := Nat.pow_le_pow_right (by decide) h
 have h2 : 0 < (2 : Nat) ^ m := Nat.pow_pos (by decide)
 have e12 : (2 : Nat) ^ 12 = 4096 := by decide
 rw [e]
 omega
theorem sc_bound {vars : Int} {L : List S56} (h : DV vars L) : ∀ (m : Nat) (n v : Int), Pl L n → vars - dvar vars L n < m → 0 ≤ v → v ≤ dvar vars L n → 0 ≤ scP vars L n v ∧ scP vars L n v ≤ 2 ^ (vars - v).toNat := by
 intro m
 induction m with
 | zero =>
  intro n v p h1 _ _
  have := (h.dvar_le p).2
  omega
 | succ m ih =>
  intro n v p h1 v0 v1
  have h12 := h.v12
  have hd2 := (h.dvar_le p).2
  have pw := (pow_small (m := (vars - v).toNat) (by omega)).1
  by_cases c : n < 2
  ·rw [scP_const c]
   have hn : n = 0 ∨ n = 1 := by have := p.1; omega
   rcases hn with rfl | rfl
   ·rw [Int.zero_mul]
    omega
   ·rw [Int.one_mul]
    omega
  ·have hv := (dvar_two h p).2 c
   have f := fun hi => gat_ok h p (Int.le_refl _) hv hi
   obtain ⟨a0, a1⟩ := ih _ (dvar vars L n + 1) (f false).1 (by have := (f false).2; omega) (by omega) (by have := (f false).2; omega)
   obtain ⟨b0, b1⟩ := ih _ (dvar vars L n + 1) (f true).1 (by have := (f true).2; omega) (by omega) (by have := (f true).2; omega)
   rw [scP_fork h p c]
   have e : (2 : Int) ^ (vars - v).toNat = (2 ^ (vars - (dvar vars L n + 1)).toNat + 2 ^ (vars - (dvar vars L n + 1)).toNat) * 2 ^ (dvar vars L n - v).toNat := by
    rw [show (vars - v).toNat = (vars - (dvar vars L n + 1)).toNat + 1 + (dvar vars L n - v).toNat by omega, two_split, Int.pow_succ]
    congr 1
    omega
   rw [e]
   have hp := (pow_small (m := (dvar vars L n - v).toNat) (by omega)).1
   exact ⟨Int.mul_nonneg (by omega) (by omega), Int.mul_le_mul_of_nonneg_right (by omega) (by omega)⟩
theorem scP_bound {vars : Int} {L : List S56} (h : DV vars L) {n : Int} (p : Pl L n) : 0 ≤ scP vars L n 0 ∧ scP vars L n 0 ≤ 4096 := by
 have a0 := (h.dvar_le p).1
 have a1 := h.v12
 have hb := sc_bound h 13 n 0 p (by omega) (Int.le_refl _) a0
 have := (pow_small (m := (vars - 0).toNat) (by omega)).2
 omega
theorem shl_bit {n : Int} (hn : n = 0 ∨ n = 1) {vars : Int} (h0 : 0 ≤ vars) (h1 : vars ≤ 12) : shl .i64 n vars = n * 2 ^ vars.toNat := by
 obtain ⟨m, rfl⟩ := Int.eq_ofNat_of_zero_le h0
 have : m = 0 ∨ m = 1 ∨ m = 2 ∨ m = 3 ∨ m = 4 ∨ m = 5 ∨ m = 6 ∨ m = 7 ∨ m = 8 ∨ m = 9 ∨ m = 10 ∨ m = 11 ∨ m = 12 := by omega
 rcases hn with rfl | rfl <;> rcases this with rfl | rfl | rfl | rfl | rfl | rfl | rfl | rfl | rfl | rfl | rfl | rfl | rfl <;> decide +kernel
theorem count_cl {vars : Int} {L : List S56} (h : DV vars L) : ∀ (m : Nat) (n : Int) (mm : Int → Option Int), (∀ q r, mm q = some r → Pl L q ∧ r = scP vars L q 0) → Pl L n → vars - dvar vars L n < m →
  ∃ mm', Ev (fun k => impl_Diagram_count.cl k vars L n mm) (mm', scP vars L n 0) ∧ ∀ q r, mm' q = some r → Pl L q ∧ r = scP vars L q 0 := by
 intro m
 induction m with
 | zero =>
  intro n mm _ p h1
  have := (h.dvar_le p).2
  omega
 | succ m ih =>
  intro n mm hm p h1
  have p0 := p.1
  have p1 := p.2
  have hl := h.len
  have v0 := h.v0
  have v12 := h.v12
  by_cases c : n < 2
  ·refine ⟨mm, Ev.step (Ev.pos c (Ev.pos (by omega) (Ev.valEq ?_))) (fun k => impl_Diagram_count.cl.eq_2 ..), hm⟩
   rw [shl_bit (by omega) v0 v12, scP_const c, show (vars - 0).toNat = vars.toNat by omega]
  ·have hk : KeyI n := keyI p0 (by omega)
   cases hq : mm n with
   | some r =>
    refine ⟨mm, Ev.step (Ev.neg c (Ev.pos hk ?_)) (fun k => impl_Diagram_count.cl.eq_2 ..), hm⟩
    rw [hq, (hm n r hq).2]
    exact Ev.val _
   | none =>
    have hv := (dvar_two h p).2 c
    have hd0 := (h.dvar_le p).1
    have f := fun hi => gat_ok h p (Int.le_refl _) hv hi
    have g1 : (rd_T56 L (n - 2)).f1 = gat L n (dvar vars L n) false := by rw [gat_self c]; rfl
    have g2 : (rd_T56 L (n - 2)).f2 = gat L n (dvar vars L n) true := by rw [gat_self c]; rfl
    obtain ⟨m1, e1, k1⟩ := ih _ mm hm (f false).1 (by have := (f false).2; omega)
    obtain ⟨m2, e2, k2⟩ := ih _ m1 k1 (f true).1 (by have := (f true).2; omega)
    have b1 := scP_bound h (f false).1
    have b2 := scP_bound h (f true).1
    have s1 := sc_shift h (v := 0) (w := dvar vars L n + 1) (f false).1 (by omega) (by have := (f false).2; omega)
    have s2 := sc_shift h (v := 0) (w := dvar vars L n + 1) (f true).1 (by omega) (by have := (f true).2; omega)
    have hr : wrap64 ((wrap64 (scP vars L (gat L n (dvar vars L n) false) 0 + scP vars L (gat L n (dvar vars L n) true) 0)).tdiv 2) = scP vars L n 0 := by
     rw [w_id (x := scP vars L (gat L n (dvar vars L n) false) 0 + scP vars L (gat L n (dvar vars L n) true) 0) (by omega) (by omega), Int.tdiv_eq_ediv_of_nonneg (by omega), w_id (by omega) (by omega), scP_fork h p c, s1, s2, ← Int.add_mul, show (dvar vars L n + 1 - 0).toNat = (dvar vars L n - 0).toNat + 1 by omega, Int.pow_succ, ← Int.mul_assoc, Int.mul_ediv_cancel _ (by decide)]
    refine ⟨fun y => if y = n then some (scP vars L n 0) else m2 y, Ev.step (Ev.neg c (Ev.pos hk ?_)) (fun k => impl_Diagram_count.cl.eq_2 ..), fun q r hq2 => ?_⟩
    ·rw [hq, w_id (by omega) (by omega), g1, g2]
     refine Ev.pos (by omega) (Ev.pos (by omega) (Ev.bind e1 (Ev.bind e2 (Ev.valEq ?_))))
     simp only [hr]
    ·by_cases e : q = n
     ·subst e
      have : scP vars L q 0 = r := by simpa using hq2
      exact ⟨p, this.symm⟩
     ·have : m2 q = some r := by simpa [e] using hq2
      exact k2 q r this
theorem diagramCount_val {vars : Int} {L : List S56} (h : DV vars L) {n : Int} (p : Pl L n) : Ev (fun k => impl_DiagramCount.f k vars L n) (scP vars L n 0) := by
 unfold impl_DiagramCount.f
 have hl := h.len
 have a0 := (h.dvar_le p).1
 have a1 := h.v12
 obtain ⟨q, hq, h1⟩ := impl_dv vars L
 have hq1 : q = true := h1.2 h
 subst hq1
 obtain ⟨mm', e, _⟩ := count_cl h 13 n (fun _ => none) (fun q r hq => by cases hq) p (by omega)
 refine Ev.bind (Ev.const hq) (Ev.pos rfl (Ev.bind (Ev.const (isPlace_val vars n (by omega))) ?_))
 rw [@decide_eq_true _ (decPl L n) p]
 refine Ev.pos rfl (Ev.bind (a := scP vars L n 0) ?_ (Ev.val _))
 unfold impl_Diagram_count.f
 exact Ev.bind e (Ev.val _)
/-! #### the least row of a diagram -/
def rwF (L : List S56) : Nat → Int → Int → List Int
 | 0, _, _ => []
 | d + 1, v, c => (if gat L c v false = 0 then 1 else 0) :: rwF L d (v + 1) (gat L c v (decide (gat L c v false = 0)))
theorem rwF_len (L : List S56) : ∀ (d : Nat) (v c : Int), (rwF L d v c).length = d
 | 0, _, _ => rfl
 | d + 1, v, c => by
  unfold rwF
  rw [List.length_cons, rwF_len L d]
theorem gat_const {L : List S56} {n v : Int} (c : n < 2) (hi : Bool) : gat L n v hi = n := by
 unfold gat
 rw [if_pos c]
/-- A place that is not the empty one, read at the least of its variables' side. -/
theorem rw_next {vars : Int} {L : List S56} (h : DV vars L) {c v : Int} (p : Pl L c) (c0 : c ≠ 0) (hv : v ≤ dvar vars L c) (hvv : v < vars) :
  Pl L (gat L c v (decide (gat L c v false = 0))) ∧ v + 1 ≤ dvar vars L (gat L c v (decide (gat L c v false = 0))) ∧ gat L c v (decide (gat L c v false = 0)) ≠ 0 := by
 have g := gat_ok h p hv hvv (decide (gat L c v false = 0))
 refine ⟨g.1, by have := g.2; omega, ?_⟩
 by_cases e : gat L c v false = 0
 ·rw [decide_eq_true e]
  by_cases c2 : c < 2
  ·rw [gat_const c2] at e
   exact absurd e c0
  ·by_cases hd : v = dvar vars L c
   ·have := (gat_ne h p c2).1
    rw [← hd, e] at this
    exact fun e2 => this e2.symm
   ·rw [gat_above (vars := vars) (by omega)] at e
    exact absurd e c0
 ·rw [decide_eq_false e]
  exact e
theorem impl_row_loop {vars : Int} {L : List S56} (h : DV vars L) : ∀ (d v : Nat) (c : Int) (pre : List Int), (v : Int) + d = vars → pre.length = v → Pl L c → c ≠ 0 → (v : Int) ≤ dvar vars L c → Ev (fun k => impl_DiagramRow.l0 k c (pre ++ List.replicate d 0) vars L) (pre ++ rwF L d (v : Int) c) := by
 have h12 := h.v12
 have hl := h.len
 intro d
 induction d with
 | zero =>
  intro v c pre hv hp p c0 hd
  unfold rwF
  have c2 : c < 2 := by
   refine Classical.byContradiction (fun c2 => ?_)
   have := (dvar_two h p).2 c2
   omega
  rw [List.replicate_zero, List.append_nil]
  refine Ev.step (Ev.neg (by omega) (Ev.bind (a := pre) (Ev.const ?_) (Ev.val _))) (fun k => impl_DiagramRow.l0.eq_2 ..)
  unfold impl_clone_int.f
  rw [if_pos (by omega)]
 | succ d ih =>
  intro v c pre hv hp p c0 hd
  obtain ⟨n1, n2, n3⟩ := rw_next h p c0 hd (by omega)
  unfold rwF
  by_cases hlt : (v : Int) < dvar vars L c
  ·have g0 : ∀ hi, gat L c (v : Int) hi = c := fun hi => gat_above (vars := vars) hlt hi
   rw [g0, decide_eq_false c0, g0, if_neg c0]
   have := ih (v + 1) c (pre ++ [0]) (by omega) (by simp; omega) p c0 (by omega)
   rw [List.append_assoc, List.append_assoc] at this
   exact this
  ·have hd2 : dvar vars L c = (v : Int) := by omega
   have c2 : ¬ c < 2 := (dvar_two h p).1 (by omega)
   have p1 := p.2
   have gs0 : (rd_T56 L (c - 2)).f0 = (v : Int) := by rw [← dvar_self (vars := vars) c2]; exact hd2
   have gs1 : (rd_T56 L (c - 2)).f1 = gat L c (v : Int) false := by rw [← hd2, gat_self c2]; rfl
   have gs2 : (rd_T56 L (c - 2)).f2 = gat L c (v : Int) true := by rw [← hd2, gat_self c2]; rfl
   refine Ev.step ?_ (fun k => impl_DiagramRow.l0.eq_2 ..)
   rw [w_id (show -9223372036854775808 ≤ c - 2 by omega) (by omega), gs0, gs1, gs2]
   refine Ev.pos (by omega) (Ev.pos (by omega) (Ev.pos (by omega) ?_))
   by_cases e : gat L c (v : Int) false = 0
   ·rw [decide_eq_true e] at n1 n2 n3 ⊢
    have := ih (v + 1) _ (pre ++ [1]) (by omega) (by simp; omega) n1 n3 (by omega)
    refine Ev.pos e (Ev.pos (by omega) (Ev.pos (by rw [List.length_append, List.length_replicate]; omega) ?_))
    have es : (pre ++ List.replicate (d + 1) (0 : Int)).set ((v : Int)).toNat 1 = pre ++ [1] ++ List.replicate d 0 := by
     rw [Int.toNat_natCast, List.set_append_right _ _ (by omega), hp, Nat.sub_self, List.replicate_succ, List.set_cons_zero, List.append_assoc]
     rfl
    rw [es, if_pos e, show pre ++ 1 :: rwF L d ((v : Int) + 1) (gat L c (v : Int) true) = pre ++ [1] ++ rwF L d (((v + 1 : Nat)) : Int) (gat L c (v : Int) true) by rw [List.append_assoc]; rfl]
    exact this
   ·rw [decide_eq_false e] at n1 n2 n3 ⊢
    have := ih (v + 1) _ (pre ++ [0]) (by omega) (by simp; omega) n1 n3 (by omega)
    refine Ev.neg e ?_
    rw [show pre ++ List.replicate (d + 1) (0 : Int) = pre ++ [0] ++ List.replicate d 0 by rw [List.append_assoc, List.replicate_succ]; rfl, if_neg e, show pre ++ 0 :: rwF L d ((v : Int) + 1) (gat L c (v : Int) false) = pre ++ [0] ++ rwF L d (((v + 1 : Nat)) : Int) (gat L c (v : Int) false) by rw [List.append_assoc]; rfl]
    exact this
theorem scP_split {vars : Int} {L : List S56} (h : DV vars L) {n v : Int} (p : Pl L n) (v1 : v ≤ dvar vars L n) (v2 : v < vars) : scP vars L n v = scP vars L (gat L n v false) (v + 1) + scP vars L (gat L n v true) (v + 1) := by
 by_cases e : v = dvar vars L n
 ·have c : ¬ n < 2 := (dvar_two h p).1 (by omega)
  rw [scP_fork h p c, ← e, Int.sub_self]
  simp
 ·have hlt : v < dvar vars L n := by omega
  rw [gat_above hlt, gat_above hlt, sc_shift h p (w := v + 1) (by omega) (by omega), show (v + 1 - v).toNat = 1 by omega]
  omega
/-! #### a diagram of just the forks to which one comes -/
def cpT (vars : Int) (L : List S56) : Nat → Int → DT
 | 0, _ => .leaf 0
 | m + 1, n => if n < 2 then .leaf n else .fork (dvar vars L n) (cpT vars L m (gat L n (dvar vars L n) false)) (cpT vars L m (gat L n (dvar vars L n) true))
theorem cpT_same {vars : Int} {L : List S56} (h : DV vars L) : ∀ (m m2 : Nat) (n : Int), Pl L n → vars - dvar vars L n < m → vars - dvar vars L n < m2 → cpT vars L m n = cpT vars L m2 n := by
 intro m
 induction m with
 | zero =>
  intro m2 n p h1 _
  have := (h.dvar_le p).2
  omega
 | succ m ih =>
  intro m2 n p h1 h2
  cases m2 with
  | zero =>
   have := (h.dvar_le p).2
   omega
  | succ m2 =>
   unfold cpT
   by_cases c : n < 2
   ·rw [if_pos c, if_pos c]
   ·have f := fun hi => gat_ok h p (Int.le_refl _) ((dvar_two h p).2 c) hi
    rw [if_neg c, if_neg c, ih m2 _ (f false).1 (by have := (f false).2; omega) (by have := (f false).2; omega), ih m2 _ (f true).1 (by have := (f true).2; omega) (by have := (f true).2; omega)]
def cpP (vars : Int) (L : List S56) (n : Int) : DT := cpT vars L 13 n
theorem cpP_const {vars : Int} {L : List S56} {n : Int} (c : n < 2) : cpP vars L n = .leaf n := by
 unfold cpP cpT
 rw [if_pos c]
theorem cpP_fork {vars : Int} {L : List S56} (h : DV vars L) {n : Int} (p : Pl L n) (c : ¬ n < 2) : cpP vars L n = .fork (dvar vars L n) (cpP vars L (gat L n (dvar vars L n) false)) (cpP vars L (gat L n (dvar vars L n) true)) := by
 have f := fun hi => gat_ok h p (Int.le_refl _) ((dvar_two h p).2 c) hi
 have a0 := (h.dvar_le p).1
 have a1 := h.v12
 unfold cpP
 rw [cpT.eq_2, if_neg c, cpT_same h 12 13 _ (f false).1 (by have := (f false).2; omega) (by have := (f false).2; omega), cpT_same h 12 13 _ (f true).1 (by have := (f true).2; omega) (by have := (f true).2; omega)]
theorem cpP_ok {vars : Int} {L F : List S56} (h : DV vars L) (hF : DV vars F) : ∀ (m : Nat) (n : Int), Pl L n → vars - dvar vars L n < m → TOk vars F (dvar vars L n) (cpP vars L n) := by
 intro m
 induction m with
 | zero =>
  intro n p h1
  have := (h.dvar_le p).2
  omega
 | succ m ih =>
  intro n p h1
  by_cases c : n < 2
  ·rw [cpP_const c]
   have := p.1
   exact ⟨⟨p.1, by omega⟩, by rw [dvar_const c, dvar_const c]; exact Int.le_refl _⟩
  ·have hv := (dvar_two h p).2 c
   have f := fun hi => gat_ok h p (Int.le_refl _) hv hi
   rw [cpP_fork h p c]
   exact ⟨Int.le_refl _, (h.dvar_le p).1, hv, TOk.down (by have := (f false).2; omega) (ih _ (f false).1 (by have := (f false).2; omega)), TOk.down (by have := (f true).2; omega) (ih _ (f true).1 (by have := (f true).2; omega))⟩
theorem cpP_val {vars : Int} {L F : List S56} (h : DV vars L) (bits : List Int) : ∀ (m : Nat) (n : Int), Pl L n → vars - dvar vars L n < m → tval vars F bits (cpP vars L n) = dvP vars L bits n := by
 intro m
 induction m with
 | zero =>
  intro n p h1
  have := (h.dvar_le p).2
  omega
 | succ m ih =>
  intro n p h1
  by_cases c : n < 2
  ·rw [cpP_const c, dvP_const c]
   exact dvP_const c
  ·have f := fun hi => gat_ok h p (Int.le_refl _) ((dvar_two h p).2 c) hi
   rw [cpP_fork h p c, dvP_fork h bits p c]
   unfold tval
   by_cases cb : rd bits (dvar vars L n) = 1
   ·rw [if_pos cb, decide_eq_true cb]
    exact ih _ (f true).1 (by have := (f true).2; omega)
   ·rw [if_neg cb, decide_eq_false cb]
    exact ih _ (f false).1 (by have := (f false).2; omega)
/-- Numbers below n, none twice, are n at most. -/
theorem nodup_bound : ∀ (n : Nat) (l : List Nat), l.Nodup → (∀ x ∈ l, x < n) → l.length ≤ n := by
 intro n
 induction n with
 | zero =>
  intro l _ hl
  cases l with
  | nil => exact Nat.le_refl _
  | cons x l => exact absurd (hl x List.mem_cons_self) (Nat.not_lt_zero _)
 | succ n ih =>
  intro l hn hl
  have h1 := ih (l.erase n) (hn.erase n) (fun x hx => by
   have hx2 := (List.Nodup.mem_erase_iff hn).1 hx
   have := hl x hx2.2
   have := hx2.1
   omega)
  by_cases c : n ∈ l
  ·rw [List.length_erase_of_mem c] at h1
   omega
  ·rw [List.erase_of_not_mem c] at h1
   omega
/-- Each place has the values of a place of the elder diagram. -/
def Img (vars : Int) (L F : List S56) : Prop := ∀ p, Pl F p → ∃ q, Pl L q ∧ ∀ bits : List Int, bits.length = 12 → dvP vars F bits p = dvP vars L bits q
/-- Where there are as many forks as may be, each place of the elder diagram is there. -/
theorem img_full {vars : Int} {L F : List S56} (h : DV vars L) (hF : DV vars F) (hi : Img vars L F) (hl : 2000 ≤ F.length) {q : Int} (pq : Pl L q) : ∃ p, Pl F p ∧ ∀ bits : List Int, bits.length = 12 → dvP vars F bits p = dvP vars L bits q := by
 refine Classical.byContradiction (fun hno => ?_)
 have key : ∀ m : Nat, m ≤ F.length → ∃ l : List Nat, l.length = m + 1 ∧ l.Nodup ∧ (∀ x ∈ l, x < L.length + 2) ∧ (∀ x ∈ l, (x : Int) = q ∨ ∃ p : Int, 2 ≤ p ∧ p < (m : Int) + 2 ∧ ∀ bits : List Int, bits.length = 12 → dvP vars F bits p = dvP vars L bits (x : Int)) := by
  intro m
  induction m with
  | zero =>
   intro _
   refine ⟨[q.toNat], rfl, by simp, fun x hx => ?_, fun x hx => ?_⟩
   ·rw [List.mem_singleton.mp hx]
    have := pq.1
    have := pq.2
    omega
   ·rw [List.mem_singleton.mp hx]
    have := pq.1
    exact .inl (by omega)
  | succ m ih =>
   intro hm
   obtain ⟨l, l1, l2, l3, l4⟩ := ih (by omega)
   have pp : Pl F ((m : Int) + 2) := ⟨by omega, by omega⟩
   obtain ⟨y, py, hy⟩ := hi _ pp
   have y0 := py.1
   have y1 := py.2
   have hyc : (y.toNat : Int) = y := by omega
   refine ⟨y.toNat :: l, by simp [l1], List.nodup_cons.2 ⟨fun hmem => ?_, l2⟩, fun x hx => ?_, fun x hx => ?_⟩
   ·rcases l4 _ hmem with e | ⟨p, p2, p3, hp⟩
    ·exact hno ⟨_, pp, fun bits hb => by rw [hy bits hb, ← hyc, e]⟩
    ·have e : p = (m : Int) + 2 := canon_eq hF ⟨by omega, by omega⟩ pp (fun bits hb => by rw [hp bits hb, hyc, hy bits hb])
     omega
   ·rcases List.mem_cons.mp hx with e | hx
    ·rw [e]
     omega
    ·exact l3 x hx
   ·rcases List.mem_cons.mp hx with e | hx
    ·rw [e]
     refine .inr ⟨(m : Int) + 2, by omega, by omega, fun bits hb => ?_⟩
     rw [hyc]
     exact hy bits hb
    ·rcases l4 x hx with e | ⟨p, p2, p3, hp⟩
     ·exact .inl e
     ·exact .inr ⟨p, p2, by omega, hp⟩
 obtain ⟨l, l1, l2, l3, l4⟩ := key F.length (Nat.le_refl _)
 have n0 : ∀ c : Nat, c < 2 → c ∉ l := fun c hc hmem => by
  have cc : (c : Int) < 2 := by omega
  rcases l4 c hmem with e | ⟨p, p2, p3, hp⟩
  ·refine hno ⟨q, ⟨pq.1, by omega⟩, fun bits _ => ?_⟩
   rw [dvP_const (by omega), dvP_const (by omega)]
  ·have e : p = (c : Int) := canon_eq hF ⟨by omega, by omega⟩ ⟨by omega, by omega⟩ (fun bits hb => by rw [hp bits hb, dvP_const cc, dvP_const cc])
   omega
 have hb := nodup_bound (L.length + 2) (0 :: 1 :: l) (List.nodup_cons.2 ⟨fun hm => by
  rcases List.mem_cons.mp hm with e | hm
  ·cases e
  ·exact n0 0 (by decide) hm, List.nodup_cons.2 ⟨n0 1 (by decide), l2⟩⟩) (fun x hx => by
   rcases List.mem_cons.mp hx with e | hx
   ·omega
   ·rcases List.mem_cons.mp hx with e | hx
    ·omega
    ·exact l3 x hx)
 have := h.len
 have := hF.len
 simp only [List.length_cons] at hb
 omega
/-- There is always room for the forks of the elder diagram. -/
theorem ins_cp {vars : Int} {L : List S56} (h : DV vars L) : ∀ (m : Nat) (n : Int) (F : List S56), DV vars F → Img vars L F → Pl L n → vars - dvar vars L n < m → 0 ≤ (ins F (cpP vars L n)).2 ∧ Img vars L (ins F (cpP vars L n)).1 := by
 intro m
 induction m with
 | zero =>
  intro n F _ _ p h1
  have := (h.dvar_le p).2
  omega
 | succ m ih =>
  intro n F hF hi p h1
  by_cases c : n < 2
  ·rw [cpP_const c]
   exact ⟨p.1, hi⟩
  have hv := (dvar_two h p).2 c
  have f := fun hi => gat_ok h p (Int.le_refl _) hv hi
  have hok := cpP_ok h hF 13 n p (by have := (h.dvar_le p).1; have := h.v12; omega)
  rw [cpP_fork h p c] at hok ⊢
  rw [ins_fork]
  obtain ⟨l0, hi1⟩ := ih _ F hF hi (f false).1 (by have := (f false).2; omega)
  obtain ⟨d1, pl1⟩ := dv_ins hF hok.2.2.2.1
  obtain ⟨pl1, ql1⟩ := pl1 l0
  obtain ⟨r0, hi2⟩ := ih _ (ins F (cpP vars L (gat L n (dvar vars L n) false))).1 d1 hi1 (f true).1 (by have := (f true).2; omega)
  have e1 := ins_ext F (cpP vars L (gat L n (dvar vars L n) false))
  obtain ⟨d2, pl2⟩ := dv_ins d1 (hok.2.2.2.2.ext e1)
  obtain ⟨pl2, ql2⟩ := pl2 r0
  have v1 := fun bits => ins_val bits hF hok.2.2.2.1 l0
  have v2 := fun bits => ins_val bits d1 (hok.2.2.2.2.ext e1) r0
  have e2 := ins_ext (ins F (cpP vars L (gat L n (dvar vars L n) false))).1 (cpP vars L (gat L n (dvar vars L n) true))
  have fu := fun bits (hi : Bool) => cpP_val (F := F) h bits 13 _ (f hi).1 (by have := (h.dvar_le (f hi).1).1; have := h.v12; omega)
  have fu2 := fun bits (hi : Bool) => cpP_val (F := (ins F (cpP vars L (gat L n (dvar vars L n) false))).1) h bits 13 _ (f hi).1 (by have := (h.dvar_le (f hi).1).1; have := h.v12; omega)
  rw [if_neg (by omega)]
  generalize hF1 : (ins F (cpP vars L (gat L n (dvar vars L n) false))).1 = F1 at *
  generalize hr1 : (ins F (cpP vars L (gat L n (dvar vars L n) false))).2 = r1 at *
  generalize hF2 : (ins F1 (cpP vars L (gat L n (dvar vars L n) true))).1 = F2 at *
  generalize hr2 : (ins F1 (cpP vars L (gat L n (dvar vars L n) true))).2 = r2 at *
  have p1 := pl1.ext e2
  have hv0 := (h.dvar_le p).1
  have hvl : dvar vars L n < dvar vars F2 r1 := by rw [dvar_ext pl1 e2]; omega
  have hvh : dvar vars L n < dvar vars F2 r2 := by omega
  have vals : ∀ bits, (if rd bits (dvar vars L n) = 1 then dvP vars F2 bits r2 else dvP vars F2 bits r1) = dvP vars L bits n := fun bits => by
   rw [dvP_fork h bits p c]
   by_cases cb : rd bits (dvar vars L n) = 1
   ·rw [if_pos cb, decide_eq_true cb, v2 bits, fu2 bits true]
   ·rw [if_neg cb, decide_eq_false cb, dvP_ext d1 e2 bits pl1, v1 bits, fu bits false]
  have room : 0 ≤ (dadd F2 (dvar vars L n) r1 r2).2 := by
   refine Decidable.byContradiction (fun hneg => ?_)
   have hlen : 2000 ≤ F2.length := by
    unfold dadd at hneg
    rw [if_neg (by omega)] at hneg
    by_cases ce : r1 = r2
    ·rw [if_pos ce] at hneg
     exact absurd l0 hneg
    ·rw [if_neg ce] at hneg
     cases hf : dfind F2 ⟨dvar vars L n, r1, r2⟩ with
     | some i =>
      rw [hf] at hneg
      exact absurd (show (0 : Int) ≤ (i : Int) + 2 by omega) hneg
     | none =>
      rw [hf] at hneg
      simp only at hneg
      by_cases c4 : 2000 ≤ F2.length
      ·exact c4
      ·rw [if_neg c4] at hneg
       exact absurd (show (0 : Int) ≤ (F2.length : Int) + 2 by omega) hneg
   obtain ⟨pz, hz1, hz2⟩ := img_full h d2 hi2 hlen p
   have hok2 : TOk vars F2 (dvar vars L n) (.fork (dvar vars L n) (.leaf r1) (.leaf r2)) := ⟨Int.le_refl _, hv0, hv, ⟨p1, by omega⟩, ⟨pl2, by omega⟩⟩
   have ht := ins_there d2 pz hok2 hz1 (fun bits hb => by
    rw [hz2 bits hb, ← vals bits]
    rfl)
   rw [ins_fork] at ht
   have e3 : ¬ (ins F2 (.leaf r1)).2 < 0 := by show ¬ r1 < 0; omega
   rw [if_neg e3] at ht
   have e4 : dadd F2 (dvar vars L n) r1 r2 = (F2, pz) := ht
   rw [e4] at hneg
   exact hneg hz1.1
  refine ⟨room, fun z hz => ?_⟩
  obtain ⟨d3, pl3⟩ := dv_dadd d2 p1 pl2 hv0 hv hvl hvh
  have e3 := dadd_ext F2 (dvar vars L n) r1 r2
  by_cases cz : Pl F2 z
  ·obtain ⟨q, pq, hq⟩ := hi2 z cz
   exact ⟨q, pq, fun bits hb => by rw [dvP_ext d2 e3 bits cz, hq bits hb]⟩
  ·-- the new place
   have hz3 : z = (dadd F2 (dvar vars L n) r1 r2).2 := by
    have a0 := hz.1
    have a1 := hz.2
    have a2 : ¬ z ≤ (F2.length : Int) + 1 := fun hle => cz ⟨a0, hle⟩
    have hd2 := (pl3 room).1.2
    unfold dadd at a1 hd2 room ⊢
    rw [if_neg (by omega)] at a1 hd2 room ⊢
    by_cases ce : r1 = r2
    ·rw [if_pos ce] at a1
     exact absurd a1 a2
    ·rw [if_neg ce] at a1 hd2 room ⊢
     cases hf : dfind F2 ⟨dvar vars L n, r1, r2⟩ with
     | some i =>
      rw [hf] at a1
      exact absurd a1 a2
     | none =>
      rw [hf] at a1
      simp only at a1 ⊢
      by_cases c4 : 2000 ≤ F2.length
      ·rw [if_pos c4] at a1
       exact absurd a1 a2
      ·rw [if_neg c4] at a1 ⊢
       simp only [List.length_append, List.length_singleton] at a1
       show z = (F2.length : Int) + 2
       omega
   refine ⟨n, p, fun bits _ => ?_⟩
   rw [hz3, dadd_val d2 p1 pl2 hv0 hv hvl hvh room bits, vals bits]
theorem img_nil (vars : Int) (L : List S56) : Img vars L [] := fun p hp => ⟨p, ⟨hp.1, by have := hp.2; simp at this; omega⟩, fun bits _ => by have := hp.2; simp at this; rw [dvP_const (by omega), dvP_const (by omega)]⟩
theorem spec_into {vars : Int} {L : List S56} (h : DV vars L) : ∀ (m : Nat) (n : Int) (F : List S56), DV vars F → Img vars L F → Pl L n → vars - dvar vars L n < m → Ev (fun k => spec_l9Into.f k vars F vars L n) (vars, (ins F (cpP vars L n)).1, (ins F (cpP vars L n)).2) := by
 intro m
 induction m with
 | zero =>
  intro n F _ _ p h1
  have := (h.dvar_le p).2
  omega
 | succ m ih =>
  intro n F hF hi p h1
  have p0 := p.1
  have pn := p.2
  have hl := h.len
  by_cases c : n < 2
  ·rw [cpP_const c]
   exact Ev.step (Ev.pos c (Ev.val _)) (fun k => spec_l9Into.f.eq_2 ..)
  have hv := (dvar_two h p).2 c
  have f := fun hi => gat_ok h p (Int.le_refl _) hv hi
  have hok := cpP_ok h hF 13 n p (by have := (h.dvar_le p).1; have := h.v12; omega)
  rw [cpP_fork h p c] at hok ⊢
  rw [ins_fork]
  obtain ⟨l0, hi1⟩ := ins_cp h 13 _ F hF hi (f false).1 (by have := (h.dvar_le (f false).1).1; have := h.v12; omega)
  obtain ⟨d1, _⟩ := dv_ins hF hok.2.2.2.1
  obtain ⟨d2, _⟩ := dv_ins d1 (hok.2.2.2.2.ext (ins_ext F _))
  have g0 : (rd_T56 L (n - 2)).f0 = dvar vars L n := (dvar_self c).symm
  have g1 : (rd_T56 L (n - 2)).f1 = gat L n (dvar vars L n) false := by rw [gat_self c]; rfl
  have g2 : (rd_T56 L (n - 2)).f2 = gat L n (dvar vars L n) true := by rw [gat_self c]; rfl
  refine Ev.step ?_ (fun k => spec_l9Into.f.eq_2 ..)
  rw [w_id (by omega) (by omega), g0, g1, g2, if_neg (by omega)]
  exact Ev.neg c (Ev.pos (by omega) (Ev.pos (by omega) (Ev.bind (ih _ F hF hi (f false).1 (by have := (f false).2; omega)) (Ev.bind (ih _ _ d1 hi1 (f true).1 (by have := (f true).2; omega)) (Ev.bind (Ev.const (add_val vars _ _ _ _ d2.len)) (Ev.val _))))))
structure InvC (vars : Int) (L : List S56) (s : FS) (mm : Int → Option Int) : Prop where
 vs : s.vars = vars
 full : s.full = false
 dv : DV vars s.forks
 seen : s.seen = seenP s.forks
 img : Img vars L s.forks
 low : ∀ q, 0 ≤ q → q < 2 → mm q = some q
 memo : ∀ q r, mm q = some r → Pl L q ∧ 0 ≤ r ∧ ins s.forks (cpP vars L q) = (s.forks, r)
theorem comp_cl {vars : Int} {L : List S56} (h : DV vars L) : ∀ (m : Nat) (n : Int) (s : FS) (mm : Int → Option Int), InvC vars L s mm → Pl L n → vars - dvar vars L n < m →
  ∃ s' mm' r, Ev (fun k => impl_compacted.cl k L s n mm) (s', mm', r) ∧ InvC vars L s' mm' ∧ s.forks <+: s'.forks ∧ s'.forks = (ins s.forks (cpP vars L n)).1 ∧ r = (ins s.forks (cpP vars L n)).2 := by
 intro m
 induction m with
 | zero =>
  intro n s mm _ p h1
  have := (h.dvar_le p).2
  omega
 | succ m ih =>
  intro n s mm hI p h1
  have p0 := p.1
  have pn := p.2
  have hl := h.len
  have v12 := h.v12
  have hk : KeyI n := keyI p0 (by omega)
  cases hq : mm n with
  | some r =>
   obtain ⟨_, _, h4⟩ := hI.memo n r hq
   refine ⟨s, mm, r, Ev.step (Ev.pos hk ?_) (fun k => impl_compacted.cl.eq_2 ..), hI, List.prefix_refl _, by rw [h4], by rw [h4]⟩
   rw [hq]
   exact Ev.val _
  | none =>
   have c : ¬ n < 2 := fun c => by rw [hI.low n p0 c] at hq; cases hq
   have hv := (dvar_two h p).2 c
   have hv0 := (h.dvar_le p).1
   have f := fun hi => gat_ok h p (Int.le_refl _) hv hi
   have g0 : (rd_T56 L (n - 2)).f0 = dvar vars L n := (dvar_self c).symm
   have g1 : (rd_T56 L (n - 2)).f1 = gat L n (dvar vars L n) false := by rw [gat_self c]; rfl
   have g2 : (rd_T56 L (n - 2)).f2 = gat L n (dvar vars L n) true := by rw [gat_self c]; rfl
   obtain ⟨s1, m1, r1, e1, i1, x1, f1, k1⟩ := ih _ s mm hI (f false).1 (by have := (f false).2; omega)
   obtain ⟨s2, m2, r2, e2, i2, x2, f2, k2⟩ := ih _ s1 m1 i1 (f true).1 (by have := (f true).2; omega)
   have rm := ins_cp h 13 n s.forks hI.dv hI.img p (by omega)
   have rm1 := ins_cp h 13 _ s.forks hI.dv hI.img (f false).1 (by have := (h.dvar_le (f false).1).1; omega)
   have rm2 := ins_cp h 13 _ s1.forks i1.dv i1.img (f true).1 (by have := (h.dvar_le (f true).1).1; omega)
   have ok1 := cpP_ok h hI.dv 13 _ (f false).1 (by have := (h.dvar_le (f false).1).1; omega)
   have ok2 := cpP_ok h i1.dv 13 _ (f true).1 (by have := (h.dvar_le (f true).1).1; omega)
   have okn := cpP_ok h hI.dv 13 n p (by omega)
   have pl1 := ((dv_ins hI.dv ok1).2 rm1.1).1
   have pl2 := ((dv_ins i1.dv ok2).2 rm2.1).1
   rw [← f1, ← k1] at pl1
   rw [← f2, ← k2] at pl2
   have hins : ins s.forks (cpP vars L n) = dadd s2.forks (dvar vars L n) r1 r2 := by
    rw [cpP_fork h p c, ins_fork, if_neg (by omega), ← f1, ← k1, ← f2, ← k2]
   have hl1 := i1.dv.len
   have hl2 := i2.dv.len
   obtain ⟨s3, r3, ef, q1, q2, q3, q4, q5⟩ := fork_val s2 (dvar vars L n) r1 r2 (show KeyI (dvar vars L n) ∧ KeyI r1 ∧ KeyI r2 from ⟨keyI hv0 (by omega), keyI pl1.1 (by have := pl1.2; omega), keyI pl2.1 (by have := pl2.2; omega)⟩) pl1.1 pl2.1 i2.seen
   rw [hins] at rm
   rw [if_neg (by omega)] at q5
   have x3 : s2.forks <+: s3.forks := by rw [q4]; exact dadd_ext _ _ _ _
   have xx := (x1.trans x2).trans x3
   have hd3 : DV vars s3.forks := by
    rw [q4, ← hins]
    exact (dv_ins hI.dv okn).1
   have stay : ∀ q r, m2 q = some r → Pl L q ∧ 0 ≤ r ∧ ins s3.forks (cpP vars L q) = (s3.forks, r) := fun q r hm => by
    obtain ⟨j1, j3, j4⟩ := i2.memo q r hm
    have := ins_stays (L := s2.forks) (t := cpP vars L q) (by rw [j4]; exact j3) (L2 := s3.forks) (by rw [j4]; exact x3)
    exact ⟨j1, j3, by rw [this, j4]⟩
   refine ⟨s3, fun y => if y = n then some r3 else m2 y, r3, Ev.step (Ev.pos hk ?_) (fun k => impl_compacted.cl.eq_2 ..), ⟨by rw [q1]; exact i2.vs, q5.1.trans i2.full, hd3, q3, by rw [q4]; exact rm.2, fun q a b => ?_, fun q r hm => ?_⟩, xx, by rw [q4, hins], by rw [hins]; exact q5.2⟩
   ·rw [hq, w_id (by omega) (by omega), g0, g1, g2]
    exact Ev.pos (by omega) (Ev.pos (by omega) (Ev.bind e1 (Ev.bind e2 (Ev.bind (Ev.const ef) (Ev.val _)))))
   ·show (if q = n then some r3 else m2 q) = some q
    rw [if_neg (by omega)]
    exact i2.low q a b
   ·by_cases e : q = n
    ·subst e
     have hr : r3 = r := by simpa using hm
     subst hr
     have := ins_stays (L := s.forks) (t := cpP vars L q) (by rw [hins]; exact rm.1) (L2 := s3.forks) (by rw [hins, ← q4]; exact List.prefix_refl _)
     exact ⟨p, by rw [q5.2]; exact rm.1, by rw [this, hins, q5.2]⟩
    ·have : m2 q = some r := by simpa [e] using hm
     exact stay q r this
def CompIs (vars : Int) (L : List S56) (n : Int) (r : Int × List S56 × Int) : Prop :=
 (DV vars L ∧ Pl L n → r = (vars, (ins [] (cpP vars L n)).1, (ins [] (cpP vars L n)).2)) ∧ (¬ (DV vars L ∧ Pl L n) → r = (0, [], -1))
theorem compIs_ex (vars : Int) (L : List S56) (n : Int) : ∃ r, CompIs vars L n r ∧ r.2.1.length ≤ 2000 := by
 by_cases c : DV vars L ∧ Pl L n
 ·refine ⟨_, ⟨fun _ => rfl, fun h => absurd c h⟩, ?_⟩
  have dn := dv_nil c.1.v0 c.1.v12
  exact (dv_ins dn (cpP_ok c.1 dn 13 n c.2 (by have := (c.1.dvar_le c.2).1; have := c.1.v12; omega))).1.len
 ·exact ⟨(0, [], -1), ⟨fun h => absurd h c, fun _ => rfl⟩, Nat.zero_le _⟩
theorem spec_comp {vars n : Int} {L : List S56} {r : Int × List S56 × Int} (h : CompIs vars L n r) : Ev (fun k => spec_Compacted.f k vars L n) r := by
 obtain ⟨hy, hn⟩ := h
 unfold spec_Compacted.f
 obtain ⟨q, hb, h1⟩ := spec_dv vars L
 cases q with
 | false =>
  rw [hn (fun h => by have := h1.2 h.1; cases this)]
  exact Ev.bind hb (Ev.neg (by decide) (Ev.val _))
 | true =>
  have hd := h1.1 rfl
  have hl := hd.len
  refine Ev.bind hb (Ev.pos rfl (Ev.bind (Ev.const (place_val L n (by omega))) ?_))
  by_cases pa : Pl L n
  ·rw [@decide_eq_true _ (decPl L n) pa, hy ⟨hd, pa⟩]
   have dn := dv_nil hd.v0 hd.v12
   exact Ev.pos rfl (Ev.bind (spec_into hd 13 n [] dn (img_nil _ _) pa (by have := (hd.dvar_le pa).1; have := hd.v12; omega)) (Ev.val _))
  ·rw [@decide_eq_false _ (decPl L n) pa, hn (fun h => pa h.2)]
   exact Ev.neg (by decide) (Ev.val _)
theorem comp_v {vars n : Int} {L : List S56} {r : Int × List S56 × Int} (h : CompIs vars L n r) : Ev (fun k => impl_Compacted.f k vars L n) r := by
 obtain ⟨hy, hn⟩ := h
 unfold impl_Compacted.f
 obtain ⟨q, hb, h1⟩ := impl_dv vars L
 refine Ev.bind (Ev.const hb) ?_
 cases q with
 | false =>
  rw [hn (fun h => by have := h1.2 h.1; cases this)]
  exact Ev.neg (by decide) (Ev.val _)
 | true =>
  have hd := h1.1 rfl
  have hl := hd.len
  refine Ev.pos rfl (Ev.bind (Ev.const (isPlace_val vars n (by omega))) ?_)
  by_cases pa : Pl L n
  ·rw [@decide_eq_true _ (decPl L n) pa, hy ⟨hd, pa⟩]
   have dn := dv_nil hd.v0 hd.v12
   have i0 : InvC vars L (fs0 vars []) impl_compacted.m0 := ⟨rfl, rfl, dn, rfl, img_nil _ _, fun q a b => by
    have : q = 0 ∨ q = 1 := by omega
    rcases this with rfl | rfl <;> rfl, fun q r hm => by
    unfold impl_compacted.m0 at hm
    by_cases c1 : q = 1
    ·rw [if_pos c1] at hm
     injection hm with hm
     subst c1 hm
     exact ⟨⟨by decide, by omega⟩, by decide, by rw [cpP_const (by decide)]; rfl⟩
    ·rw [if_neg c1] at hm
     by_cases c0 : q = 0
     ·rw [if_pos c0] at hm
      injection hm with hm
      subst c0 hm
      exact ⟨⟨by decide, by omega⟩, by decide, by rw [cpP_const (by decide)]; rfl⟩
     ·rw [if_neg c0] at hm
      cases hm⟩
   obtain ⟨s', mm', m', ev, i1, _, f1, k1⟩ := comp_cl hd 13 n (fs0 vars []) impl_compacted.m0 i0 pa (by have := (hd.dvar_le pa).1; have := hd.v12; omega)
   refine Ev.pos rfl (Ev.bind (a := (vars, (ins [] (cpP vars L n)).1, (ins [] (cpP vars L n)).2)) ?_ (Ev.val _))
   unfold impl_compacted.f
   refine Ev.bind (Ev.const (forkingOf_val dn)) (Ev.bind ev (Ev.const ?_))
   show impl_forking_done.f s' m' = _
   rw [done_val s' m' i1.dv.len, if_neg (by rw [i1.full]; decide), i1.vs, f1, k1]
   rfl
  ·rw [@decide_eq_false _ (decPl L n) pa, hn (fun h => pa h.2)]
   exact Ev.neg (by decide) (Ev.val _)
/-! #### orders: a valid order, and a diagram read in another order -/
theorem nodup_le : ∀ (a b : List Int), a.Nodup → (∀ x ∈ a, x ∈ b) → a.length ≤ b.length
 | [], _, _, _ => Nat.zero_le _
 | x :: a, b, h, hs => by
  have hx : x ∈ b := hs x (by simp)
  have hn := List.nodup_cons.mp h
  have := nodup_le a (b.erase x) hn.2 (fun y hy => (List.mem_erase_of_ne (fun (e : y = x) => hn.1 (e ▸ hy))).mpr (hs y (by simp [hy])))
  rw [List.length_erase_of_mem hx] at this
  have := List.length_pos_of_mem hx
  simp only [List.length_cons]
  omega
def upto (n : Nat) : List Int := (List.range n).map (fun j => ((j : Nat) : Int))
theorem upto_len (n : Nat) : (upto n).length = n := by simp [upto]
theorem upto_mem {n : Nat} {x : Int} : x ∈ upto n ↔ 0 ≤ x ∧ x < (n : Int) := by
 unfold upto
 rw [List.mem_map]
 constructor
 ·rintro ⟨j, hj, rfl⟩
  have := List.mem_range.mp hj
  omega
 ·intro h
  exact ⟨x.toNat, List.mem_range.mpr (by omega), by omega⟩
theorem upto_nodup (n : Nat) : (upto n).Nodup := by
 unfold upto
 refine List.Pairwise.map _ (fun a b (h : a ≠ b) => by omega) List.nodup_range
/-! #### which forks a compacted diagram has -/
/-- To which forks one comes from a place. -/
def RF (vars : Int) (L : List S56) : Nat → Int → Int → Prop
 | 0, _, _ => False
 | m + 1, n, q => ¬ n < 2 ∧ (q = n ∨ RF vars L m (gat L n (dvar vars L n) false) q ∨ RF vars L m (gat L n (dvar vars L n) true) q)
/-- A list of just the elder places of which the diagram has the values. -/
structure Cov (vars : Int) (L F : List S56) (T : List Int) : Prop where
 nd : T.Nodup
 len : T.length = F.length
 mem : ∀ q, q ∈ T → 2 ≤ q ∧ Pl L q
 iff : ∀ q, 2 ≤ q → Pl L q → (q ∈ T ↔ ∃ p, Pl F p ∧ ∀ bits : List Int, bits.length = 12 → dvP vars F bits p = dvP vars L bits q)
theorem cov_nil {vars : Int} {L : List S56} (h : DV vars L) : Cov vars L [] [] := by
 refine ⟨List.nodup_nil, rfl, fun q hq => by simp at hq, fun q h2 pq => ⟨fun hq => by simp at hq, ?_⟩⟩
 rintro ⟨p, hp, hv⟩
 have p0 := hp.1
 have p1 := hp.2
 simp only [List.length_nil] at p1
 have e : p = q := canon_eq h ⟨p0, by omega⟩ pq (fun bits hb => by rw [← hv bits hb, dvP_const (by omega), dvP_const (by omega)])
 omega
theorem dadd_two (L : List S56) (v lo hi : Int) (h0 : 0 ≤ (dadd L v lo hi).2) : (dadd L v lo hi).1 = L ∨ (dadd L v lo hi).1.length = L.length + 1 ∧ (dadd L v lo hi).2 = (L.length : Int) + 2 := by
 unfold dadd at h0 ⊢
 by_cases c1 : lo < 0 ∨ hi < 0
 ·rw [if_pos c1]
  exact .inl rfl
 rw [if_neg c1] at h0 ⊢
 by_cases c2 : lo = hi
 ·rw [if_pos c2]
  exact .inl rfl
 rw [if_neg c2] at h0 ⊢
 cases hf : dfind L ⟨v, lo, hi⟩ with
 | some i => exact .inl rfl
 | none =>
  rw [hf] at h0
  simp only at h0 ⊢
  by_cases c4 : 2000 ≤ L.length
  ·rw [if_pos c4]
   exact .inl rfl
  ·rw [if_neg c4]
   exact .inr ⟨by simp, rfl⟩
theorem ins_cov {vars : Int} {L : List S56} (h : DV vars L) : ∀ (m : Nat) (n : Int) (F : List S56) (T : List Int), DV vars F → Img vars L F → Cov vars L F T → Pl L n → vars - dvar vars L n < m →
  ∃ T', Cov vars L (ins F (cpP vars L n)).1 T' ∧ ∀ q, q ∈ T' ↔ q ∈ T ∨ RF vars L m n q := by
 intro m
 induction m with
 | zero =>
  intro n F T _ _ _ p h1
  have := (h.dvar_le p).2
  omega
 | succ m ih =>
  intro n F T hF hi hT p h1
  by_cases c : n < 2
  ·rw [cpP_const c]
   refine ⟨T, hT, fun q => ⟨.inl, ?_⟩⟩
   rintro (h | h)
   ·exact h
   ·exact absurd c h.1
  have hv := (dvar_two h p).2 c
  have f := fun hi => gat_ok h p (Int.le_refl _) hv hi
  have dv13 := fun (z : Int) (hz : Pl L z) => show vars - dvar vars L z < (13 : Nat) by have := (h.dvar_le hz).1; have := h.v12; omega
  have hok := cpP_ok h hF 13 n p (dv13 n p)
  have room := (ins_cp h 13 n F hF hi p (dv13 n p)).1
  have vn := fun bits => (ins_val bits hF hok room).trans (cpP_val h bits 13 n p (dv13 n p))
  have dn := dv_ins hF hok
  rw [cpP_fork h p c] at hok room vn dn ⊢
  rw [ins_fork] at room vn dn ⊢
  obtain ⟨l0, hi1⟩ := ins_cp h 13 _ F hF hi (f false).1 (dv13 _ (f false).1)
  obtain ⟨d1, pl1⟩ := dv_ins hF hok.2.2.2.1
  have e1 := ins_ext F (cpP vars L (gat L n (dvar vars L n) false))
  obtain ⟨r0, hi2⟩ := ins_cp h 13 _ (ins F (cpP vars L (gat L n (dvar vars L n) false))).1 d1 hi1 (f true).1 (dv13 _ (f true).1)
  obtain ⟨d2, pl2⟩ := dv_ins d1 (hok.2.2.2.2.ext e1)
  obtain ⟨T1, k1, m1⟩ := ih _ F T hF hi hT (f false).1 (by have := (f false).2; omega)
  obtain ⟨T2, k2, m2⟩ := ih _ _ T1 d1 hi1 k1 (f true).1 (by have := (f true).2; omega)
  have e2 := ins_ext (ins F (cpP vars L (gat L n (dvar vars L n) false))).1 (cpP vars L (gat L n (dvar vars L n) true))
  obtain ⟨pl1, ql1⟩ := pl1 l0
  obtain ⟨pl2, ql2⟩ := pl2 r0
  rw [if_neg (by omega)] at room vn dn ⊢
  generalize hF1 : (ins F (cpP vars L (gat L n (dvar vars L n) false))).1 = F1 at *
  generalize hr1 : (ins F (cpP vars L (gat L n (dvar vars L n) false))).2 = r1 at *
  generalize hF2 : (ins F1 (cpP vars L (gat L n (dvar vars L n) true))).1 = F2 at *
  generalize hr2 : (ins F1 (cpP vars L (gat L n (dvar vars L n) true))).2 = r2 at *
  have e3 := dadd_ext F2 (dvar vars L n) r1 r2
  have ht := dadd_two F2 (dvar vars L n) r1 r2 room
  obtain ⟨d3, pl3⟩ := dn
  obtain ⟨pl3, _⟩ := pl3 room
  have rfn : ∀ q, RF vars L (m + 1) n q ↔ (q = n ∨ RF vars L m (gat L n (dvar vars L n) false) q ∨ RF vars L m (gat L n (dvar vars L n) true) q) := fun q => ⟨fun h => h.2, fun h => ⟨c, h⟩⟩
  have pr1 := pl1.ext e2
  have hv0 := (h.dvar_le p).1
  generalize hD : dadd F2 (dvar vars L n) r1 r2 = D at *
  by_cases hn : ∃ pz, Pl F2 pz ∧ ∀ bits : List Int, bits.length = 12 → dvP vars F2 bits pz = dvP vars L bits n
  ·-- there already
   have hnT := (k2.iff n (by omega) p).2 hn
   obtain ⟨pz, hz1, hz2⟩ := hn
   have same : D.1 = F2 := by
    rcases ht with h | ⟨h1, h2⟩
    ·exact h
    ·have e : D.2 = pz := canon_eq d3 pl3 (hz1.ext e3) (fun bits hb => by rw [vn bits, dvP_ext d2 e3 bits hz1, hz2 bits hb])
     have := hz1.2
     omega
   rw [same]
   refine ⟨T2, k2, fun q => ?_⟩
   rw [m2, m1, rfn]
   constructor
   ·rintro ((h | h) | h)
    ·exact .inl h
    ·exact .inr (.inr (.inl h))
    ·exact .inr (.inr (.inr h))
   ·rintro (h | h | h | h)
    ·exact .inl (.inl h)
    ·rw [h]
     have := hnT
     rw [m2, m1] at this
     exact this
    ·exact .inl (.inr h)
    ·exact .inr h
  ·have hnT : n ∉ T2 := fun hm => hn ((k2.iff n (by omega) p).1 hm)
   have hnew : D.1.length = F2.length + 1 ∧ D.2 = (F2.length : Int) + 2 := by
    rcases ht with h | h
    ·rw [h] at pl3 vn
     exact absurd ⟨D.2, pl3, fun bits _ => vn bits⟩ hn
    ·exact h
   refine ⟨n :: T2, ⟨List.nodup_cons.2 ⟨hnT, k2.nd⟩, by rw [List.length_cons, k2.len, hnew.1], fun q hq => ?_, fun q h2 pq => ?_⟩, fun q => ?_⟩
   ·rcases List.mem_cons.mp hq with e | hq
    ·rw [e]
     exact ⟨by omega, p⟩
    ·exact k2.mem q hq
   ·constructor
    ·intro hq
     rcases List.mem_cons.mp hq with e | hq
     ·rw [e]
      exact ⟨D.2, pl3, fun bits _ => vn bits⟩
     ·obtain ⟨pz, hz1, hz2⟩ := (k2.iff q h2 pq).1 hq
      exact ⟨pz, hz1.ext e3, fun bits hb => by rw [dvP_ext d2 e3 bits hz1, hz2 bits hb]⟩
    ·rintro ⟨pz, hz1, hz2⟩
     by_cases cz : Pl F2 pz
     ·exact List.mem_cons_of_mem _ ((k2.iff q h2 pq).2 ⟨pz, cz, fun bits hb => by rw [← dvP_ext d2 e3 bits cz, hz2 bits hb]⟩)
     ·have ez : pz = D.2 := by
       have a0 := hz1.1
       have a1 := hz1.2
       have a2 : ¬ pz ≤ (F2.length : Int) + 1 := fun hle => cz ⟨a0, hle⟩
       omega
      have e : q = n := canon_eq h pq p (fun bits hb => by rw [← hz2 bits hb, ez, vn bits])
      rw [e]
      exact List.mem_cons_self
   ·rw [List.mem_cons, m2, m1, rfn]
    constructor
    ·rintro (h | (h | h) | h)
     ·exact .inr (.inl h)
     ·exact .inl h
     ·exact .inr (.inr (.inl h))
     ·exact .inr (.inr (.inr h))
    ·rintro (h | h | h | h)
     ·exact .inr (.inl (.inl h))
     ·exact .inl h
     ·exact .inr (.inl (.inr h))
     ·exact .inr (.inr h)
/-- A set of places that one comes to: it has the first, with each its sides, and each but the first is the side of one. -/
structure Marked (vars : Int) (L : List S56) (n : Int) (M : Int → Prop) : Prop where
 first : M n
 down : ∀ q, M q → 2 ≤ q → ∀ hi, M (gat L q (dvar vars L q) hi)
 up : ∀ q, M q → q ≠ n → ∃ r hi, 2 ≤ r ∧ Pl L r ∧ M r ∧ q = gat L r (dvar vars L r) hi
theorem rf_marked {vars : Int} {L : List S56} {M : Int → Prop} {a : Int} (hM : Marked vars L a M) : ∀ (m : Nat) (n q : Int), M n → RF vars L m n q → M q ∧ 2 ≤ q := by
 intro m
 induction m with
 | zero => intro n q _ h; exact h.elim
 | succ m ih =>
  intro n q hn h
  have c := h.1
  rcases h.2 with h | h | h
  ·rw [h]
   exact ⟨hn, by omega⟩
  ·exact ih _ _ (hM.down n hn (by omega) false) h
  ·exact ih _ _ (hM.down n hn (by omega) true) h
/-- What comes from a place, comes with the forks' own variables apart, from its sides. -/
theorem rf_side {vars : Int} {L : List S56} (h : DV vars L) (hi : Bool) : ∀ (m : Nat) (n r : Int), Pl L n → Pl L r → vars - dvar vars L n < m → RF vars L m n r → 2 ≤ gat L r (dvar vars L r) hi → RF vars L m n (gat L r (dvar vars L r) hi) := by
 intro m
 induction m with
 | zero => intro n r _ _ _ h _; exact h.elim
 | succ m ih =>
  intro n r p pr h1 hr h2
  have c := hr.1
  have hv := (dvar_two h p).2 c
  have f := fun hi => gat_ok h p (Int.le_refl _) hv hi
  refine ⟨c, ?_⟩
  rcases hr.2 with e | e | e
  ·rw [e] at h2 ⊢
   have fh := f hi
   have self : RF vars L m (gat L n (dvar vars L n) hi) (gat L n (dvar vars L n) hi) := by
    cases m with
    | zero => have := (h.dvar_le fh.1).2; have := fh.2; omega
    | succ m => exact ⟨by omega, .inl rfl⟩
   cases hi with
   | false => exact .inr (.inl self)
   | true => exact .inr (.inr self)
  ·exact .inr (.inl (ih _ _ (f false).1 pr (by have := (f false).2; omega) e h2))
  ·exact .inr (.inr (ih _ _ (f true).1 pr (by have := (f true).2; omega) e h2))
theorem marked_rf {vars : Int} {L : List S56} (h : DV vars L) {M : Int → Prop} {n : Int} (p : Pl L n) (hM : Marked vars L n M) (hle : ∀ q, M q → Pl L q) : ∀ (N : Nat) (q : Int), n - q < N → M q → 2 ≤ q → RF vars L 13 n q := by
 have dv13 : vars - dvar vars L n < (13 : Nat) := by have := (h.dvar_le p).1; have := h.v12; omega
 have le : ∀ (N : Nat) (q : Int), (L.length : Int) + 2 - q < N → M q → q ≤ n := by
  intro N
  induction N with
  | zero => intro q h1 hq; have := (hle q hq).2; omega
  | succ N ih =>
   intro q h1 hq
   by_cases e : q = n
   ·omega
   ·obtain ⟨r, hi, r2, pr, mr, er⟩ := hM.up q hq e
    have g := gat_ne h pr (by omega)
    have : q < r := by
     rw [er]
     cases hi with
     | false => exact g.2.1
     | true => exact g.2.2
    have := ih r (by omega) mr
    omega
 intro N
 induction N with
 | zero =>
  intro q h1 hq _
  have := le ((L.length : Int) + 2 - q).toNat.succ q (by omega) hq
  omega
 | succ N ih =>
  intro q h1 hq h2
  by_cases e : q = n
  ·rw [e]
   exact ⟨by omega, .inl rfl⟩
  ·obtain ⟨r, hi, r2, pr, mr, er⟩ := hM.up q hq e
   have g := gat_ne h pr (by omega)
   have : q < r := by
    rw [er]
    cases hi with
    | false => exact g.2.1
    | true => exact g.2.2
   rw [er]
   exact rf_side h hi 13 n r p pr dv13 (ih r (by omega) mr r2) (by omega)
/-- As many forks as are marked. -/
theorem cov_count {vars : Int} {L F : List S56} {T : List Int} (h : DV vars L) {n : Int} (p : Pl L n) {M : Int → Bool} (hM : Marked vars L n (fun q => M q = true)) (hle : ∀ q, M q = true → Pl L q) (hT : Cov vars L F T) (hm : ∀ q, q ∈ T ↔ RF vars L 13 n q) :
  ((upto (L.length + 2)).filter (fun q => decide (2 ≤ q) && M q)).length = F.length := by
 rw [← hT.len]
 have a : ∀ q, q ∈ (upto (L.length + 2)).filter (fun q => decide (2 ≤ q) && M q) ↔ q ∈ T := by
  intro q
  rw [List.mem_filter, hm, upto_mem, Bool.and_eq_true, decide_eq_true_eq]
  constructor
  ·rintro ⟨_, h2, hq⟩
   exact marked_rf h p hM hle ((n - q).toNat + 1) q (by omega) hq h2
  ·intro hq
   obtain ⟨b1, b2⟩ := rf_marked hM 13 n q hM.first hq
   have := hle q b1
   exact ⟨⟨this.1, by have := this.2; omega⟩, b2, b1⟩
 have nf : ((upto (L.length + 2)).filter (fun q => decide (2 ≤ q) && M q)).Nodup := (upto_nodup _).filter _
 exact Nat.le_antisymm (nodup_le _ _ nf (fun x hx => (a x).1 hx)) (nodup_le _ _ hT.nd (fun x hx => (a x).2 hx))
/-- Places of two diagrams that have the same values. -/
def Cross (vars : Int) (F : List S56) (p : Int) (L : List S56) (q : Int) : Prop := ∀ bits : List Int, bits.length = 12 → dvP vars F bits p = dvP vars L bits q
theorem dvP_side {vars : Int} {L : List S56} (h : DV vars L) {q v : Int} (p : Pl L q) (v0 : 0 ≤ v) (hv : v ≤ dvar vars L q) (hvv : v < vars) (hi : Bool) (bits : List Int) (hb : bits.length = 12) : dvP vars L bits (gat L q v hi) = dvP vars L (bits.set v.toNat (if hi = true then 1 else 0)) q := by
 by_cases e : v = dvar vars L q
 ·have c : ¬ q < 2 := (dvar_two h p).1 (by omega)
  rw [e, dvP_lo h bits hb p c hi]
 ·rw [dvP_low h bits v0 _ p (by omega), gat_above (vars := vars) (by omega)]
theorem cross_gat {vars : Int} {F L : List S56} (hF : DV vars F) (h : DV vars L) {p q v : Int} (pp : Pl F p) (pq : Pl L q) (hx : Cross vars F p L q) (v0 : 0 ≤ v) (v1 : v ≤ dvar vars F p) (v2 : v ≤ dvar vars L q) (hvv : v < vars) (hi : Bool) : Cross vars F (gat F p v hi) L (gat L q v hi) := fun bits hb => by
 rw [dvP_side hF pp v0 v1 hvv hi bits hb, dvP_side h pq v0 v2 hvv hi bits hb]
 exact hx _ (by simpa using hb)
theorem cross_zero {vars : Int} {F L : List S56} (hF : DV vars F) (h : DV vars L) {p q : Int} (pp : Pl F p) (pq : Pl L q) (hx : Cross vars F p L q) : p = 0 ↔ q = 0 := by
 constructor
 ·intro e
  exact canon_eq h pq ⟨Int.le_refl _, by omega⟩ (fun bits hb => by rw [← hx bits hb, e, dvP_const (by decide), dvP_const (by decide)])
 ·intro e
  exact canon_eq hF pp ⟨Int.le_refl _, by omega⟩ (fun bits hb => by rw [hx bits hb, e, dvP_const (by decide), dvP_const (by decide)])
theorem cross_row {vars : Int} {F L : List S56} (hF : DV vars F) (h : DV vars L) : ∀ (d : Nat) (v p q : Int), Pl F p → Pl L q → Cross vars F p L q → 0 ≤ v → v + d = vars → v ≤ dvar vars F p → v ≤ dvar vars L q → rwF F d v p = rwF L d v q := by
 intro d
 induction d with
 | zero => intro v p q _ _ _ _ _ _ _; rfl
 | succ d ih =>
  intro v p q pp pq hx v0 hv v1 v2
  have g := fun hi => gat_ok hF pp v1 (by omega) hi
  have g2 := fun hi => gat_ok h pq v2 (by omega) hi
  have cg := fun hi => cross_gat hF h pp pq hx v0 v1 v2 (by omega) hi
  have z : gat F p v false = 0 ↔ gat L q v false = 0 := cross_zero hF h (g false).1 (g2 false).1 (cg false)
  unfold rwF
  by_cases e : gat L q v false = 0
  ·have e2 := z.2 e
   rw [if_pos e, if_pos e2, decide_eq_true e, decide_eq_true e2, ih (v + 1) _ _ (g true).1 (g2 true).1 (cg true) (by omega) (by omega) (by have := (g true).2; omega) (by have := (g2 true).2; omega)]
  ·have e2 : ¬ gat F p v false = 0 := fun x => e (z.1 x)
   rw [if_neg e, if_neg e2, decide_eq_false e, decide_eq_false e2, ih (v + 1) _ _ (g false).1 (g2 false).1 (cg false) (by omega) (by omega) (by have := (g false).2; omega) (by have := (g2 false).2; omega)]
theorem cross_count {vars : Int} {F L : List S56} (hF : DV vars F) (h : DV vars L) : ∀ (d : Nat) (v p q : Int), Pl F p → Pl L q → Cross vars F p L q → 0 ≤ v → v + d = vars → v ≤ dvar vars F p → v ≤ dvar vars L q → scP vars F p v = scP vars L q v := by
 intro d
 induction d with
 | zero =>
  intro v p q pp pq hx v0 hv v1 v2
  have c1 : p < 2 := Decidable.byContradiction (fun c => by have := (dvar_two hF pp).2 c; omega)
  have c2 : q < 2 := Decidable.byContradiction (fun c => by have := (dvar_two h pq).2 c; omega)
  have := hx (List.replicate 12 0) (by simp)
  rw [dvP_const c1, dvP_const c2] at this
  rw [scP_const c1, scP_const c2, this]
 | succ d ih =>
  intro v p q pp pq hx v0 hv v1 v2
  have g := fun hi => gat_ok hF pp v1 (by omega) hi
  have g2 := fun hi => gat_ok h pq v2 (by omega) hi
  have cg := fun hi => cross_gat hF h pp pq hx v0 v1 v2 (by omega) hi
  have st := fun hi => ih (v + 1) _ _ (g hi).1 (g2 hi).1 (cg hi) (by omega) (by omega) (by have := (g hi).2; omega) (by have := (g2 hi).2; omega)
  rw [scP_split hF pp v1 (by omega), scP_split h pq v2 (by omega), st false, st true]
/-! #### the program's count of the forks to which one comes -/
def Mk (X : List Bool) (q : Int) : Bool := decide (0 ≤ q) && rdOf false X q
theorem mk_nn {X : List Bool} {q : Int} (h : Mk X q = true) : 0 ≤ q := by
 unfold Mk at h
 rw [Bool.and_eq_true, decide_eq_true_eq] at h
 exact h.1
theorem mk_eq (X : List Bool) {q : Int} (h : 0 ≤ q) : Mk X q = rdOf false X q := by
 unfold Mk
 rw [decide_eq_true h, Bool.true_and]
theorem mk_lt {X : List Bool} {q : Int} (h : Mk X q = true) : q < (X.length : Int) := by
 have h0 := mk_nn h
 rw [mk_eq X h0] at h
 unfold rdOf at h
 refine Decidable.byContradiction (fun c => ?_)
 rw [List.getD_eq_getElem?_getD, List.getElem?_eq_none (by omega)] at h
 cases h
theorem mk_set {X : List Bool} {z : Int} (h0 : 0 ≤ z) (h1 : z < (X.length : Int)) (q : Int) : Mk (X.set z.toNat true) q = true ↔ q = z ∨ Mk X q = true := by
 by_cases q0 : 0 ≤ q
 ·rw [mk_eq _ q0, mk_eq _ q0]
  unfold rdOf
  by_cases e : q = z
  ·subst e
   rw [List.getD_eq_getElem?_getD, List.getElem?_set_self (by omega)]
   exact ⟨fun _ => .inl rfl, fun _ => rfl⟩
  ·rw [List.getD_eq_getElem?_getD, List.getD_eq_getElem?_getD, List.getElem?_set_ne (by omega)]
   exact ⟨.inr, fun h => h.resolve_left e⟩
 ·exact ⟨fun h => absurd (mk_nn h) q0, fun h => by
   rcases h with h | h
   ·omega
   ·exact absurd (mk_nn h) q0⟩
structure MkInv (vars : Int) (L : List S56) (n i : Int) (X : List Bool) : Prop where
 len : X.length = L.length + 2
 first : Mk X n = true
 down : ∀ q, Mk X q = true → 2 ≤ q → i < q - 2 → ∀ hi, Mk X (gat L q (dvar vars L q) hi) = true
 up : ∀ q, Mk X q = true → q ≠ n → ∃ r hi, 2 ≤ r ∧ Pl L r ∧ Mk X r = true ∧ q = gat L r (dvar vars L r) hi
theorem needs_loop {vars : Int} {L : List S56} (h : DV vars L) (n : Int) : ∀ (d : Nat) (X : List Bool), d ≤ L.length → MkInv vars L n ((d : Int) - 1) X →
  ∃ Y, Ev (fun k => impl_Diagram_needs.l0 k X ((d : Int) - 1) vars L) Y ∧ MkInv vars L n (-1) Y := by
 have hl := h.len
 intro d
 induction d with
 | zero =>
  intro X _ hX
  exact ⟨X, Ev.step (Ev.neg (by omega) (Ev.val _)) (fun k => impl_Diagram_needs.l0.eq_2 ..), hX⟩
 | succ d ih =>
  intro X hd hX
  rw [show ((d + 1 : Nat) : Int) - 1 = (d : Int) by omega] at hX ⊢
  have w2 : wrap64 ((d : Int) + 2) = (d : Int) + 2 := w_id (by omega) (by omega)
  have w1 : wrap64 ((d : Int) - 1) = (d : Int) - 1 := w_id (by omega) (by omega)
  have xl := hX.len
  have pl : Pl L ((d : Int) + 2) := ⟨by omega, by omega⟩
  have c : ¬ (d : Int) + 2 < 2 := by omega
  have hm : rdOf false X ((d : Int) + 2) = Mk X ((d : Int) + 2) := (mk_eq X (by omega)).symm
  cases e : Mk X ((d : Int) + 2) with
  | false =>
   have inv : MkInv vars L n ((d : Int) - 1) X := ⟨xl, hX.first, fun q hq h2 hi hb => by
    by_cases eq : q = (d : Int) + 2
    ·rw [eq, e] at hq
     cases hq
    ·exact hX.down q hq h2 (by omega) hb, hX.up⟩
   obtain ⟨Y, e1, e2⟩ := ih X (by omega) inv
   refine ⟨Y, Ev.step ?_ (fun k => impl_Diagram_needs.l0.eq_2 ..), e2⟩
   rw [w2, w1, hm, e]
   exact Ev.pos (by omega) (Ev.pos (by omega) (Ev.pos (by omega) (Ev.neg (by decide) e1)))
  | true =>
   have hv := (dvar_two h pl).2 c
   have f := fun hi => gat_ok h pl (Int.le_refl _) hv hi
   have gn := gat_ne h pl c
   have dd : (d : Int) + 2 - 2 = (d : Int) := by omega
   have g1 : (rd_T56 L (d : Int)).f1 = gat L ((d : Int) + 2) (dvar vars L ((d : Int) + 2)) false := by rw [gat_self c, dd]; rfl
   have g2 : (rd_T56 L (d : Int)).f2 = gat L ((d : Int) + 2) (dvar vars L ((d : Int) + 2)) true := by rw [gat_self c, dd]; rfl
   have lo0 := (f false).1.1
   have lo1 := (f false).1.2
   have hi0 := (f true).1.1
   have hi1 := (f true).1.2
   have n1 := gn.2.1
   have n2 := gn.2.2
   have hside : ∀ hi, gat L ((d : Int) + 2) (dvar vars L ((d : Int) + 2)) hi = gat L ((d : Int) + 2) (dvar vars L ((d : Int) + 2)) false ∨ gat L ((d : Int) + 2) (dvar vars L ((d : Int) + 2)) hi = gat L ((d : Int) + 2) (dvar vars L ((d : Int) + 2)) true := fun hi => by
    cases hi with
    | false => exact .inl rfl
    | true => exact .inr rfl
   have hlo : ∃ hi, gat L ((d : Int) + 2) (dvar vars L ((d : Int) + 2)) false = gat L ((d : Int) + 2) (dvar vars L ((d : Int) + 2)) hi := ⟨false, rfl⟩
   have hhi : ∃ hi, gat L ((d : Int) + 2) (dvar vars L ((d : Int) + 2)) true = gat L ((d : Int) + 2) (dvar vars L ((d : Int) + 2)) hi := ⟨true, rfl⟩
   have hset : ∀ q, Mk ((X.set (gat L ((d : Int) + 2) (dvar vars L ((d : Int) + 2)) false).toNat true).set (gat L ((d : Int) + 2) (dvar vars L ((d : Int) + 2)) true).toNat true) q = true ↔ q = gat L ((d : Int) + 2) (dvar vars L ((d : Int) + 2)) true ∨ q = gat L ((d : Int) + 2) (dvar vars L ((d : Int) + 2)) false ∨ Mk X q = true := fun q => by
    rw [mk_set hi0 (by rw [List.length_set]; omega), mk_set lo0 (by omega)]
   generalize hx : (X.set (gat L ((d : Int) + 2) (dvar vars L ((d : Int) + 2)) false).toNat true).set (gat L ((d : Int) + 2) (dvar vars L ((d : Int) + 2)) true).toNat true = X2 at *
   have x2l : X2.length = X.length := by rw [← hx, List.length_set, List.length_set]
   have inv : MkInv vars L n ((d : Int) - 1) X2 := by
    refine ⟨by omega, (hset n).2 (.inr (.inr hX.first)), fun q hq h2 hi hb => ?_, fun q hq hne => ?_⟩
    ·by_cases eq : q = (d : Int) + 2
     ·rw [eq]
      rcases hside hb with e3 | e3
      ·exact (hset _).2 (.inr (.inl e3))
      ·exact (hset _).2 (.inl e3)
     ·rcases (hset q).1 hq with e3 | e3 | e3
      ·omega
      ·omega
      ·exact (hset _).2 (.inr (.inr (hX.down q e3 h2 (by omega) hb)))
    ·have base : Mk X2 ((d : Int) + 2) = true := (hset _).2 (.inr (.inr e))
     rcases (hset q).1 hq with e3 | e3 | e3
     ·obtain ⟨hb, hb1⟩ := hhi
      exact ⟨_, hb, by omega, pl, base, e3.trans hb1⟩
     ·obtain ⟨hb, hb1⟩ := hlo
      exact ⟨_, hb, by omega, pl, base, e3.trans hb1⟩
     ·obtain ⟨r, hb, r1, r2, r3, r4⟩ := hX.up q e3 hne
      exact ⟨r, hb, r1, r2, (hset r).2 (.inr (.inr r3)), r4⟩
   obtain ⟨Y, e1, e2⟩ := ih X2 (by omega) inv
   refine ⟨Y, Ev.step ?_ (fun k => impl_Diagram_needs.l0.eq_2 ..), e2⟩
   rw [w2, w1, hm, e, g1, g2, hx]
   exact Ev.pos (by omega) (Ev.pos (by omega) (Ev.pos (by omega) (Ev.pos rfl (Ev.pos (by omega) (Ev.pos (by omega) (Ev.pos lo0 (Ev.pos (by omega) (Ev.pos hi0 (Ev.pos (by omega) e1)))))))))
theorem mk_none (m : Nat) (q : Int) : ¬ Mk (List.replicate m false) q = true := fun h => by
 have h0 := mk_nn h
 rw [mk_eq _ h0] at h
 unfold rdOf at h
 rw [List.getD_eq_getElem?_getD, List.getElem?_replicate] at h
 split at h
 ·cases h
 ·cases h
theorem needs_val {vars : Int} {L : List S56} (h : DV vars L) {n : Int} (p : Pl L n) : ∃ Y, Ev (fun k => impl_Diagram_needs.f k vars L n) Y ∧ MkInv vars L n (-1) Y := by
 have hl := h.len
 have p0 := p.1
 have p1 := p.2
 have w2 : wrap64 ((L.length : Int) + 2) = (L.length : Int) + 2 := w_id (by omega) (by omega)
 have w1 : wrap64 ((L.length : Int) - 1) = (L.length : Int) - 1 := w_id (by omega) (by omega)
 have e2 : ((L.length : Int) + 2).toNat = L.length + 2 := by omega
 have sm := fun q => mk_set (X := List.replicate (L.length + 2) false) p0 (by rw [List.length_replicate]; omega) q
 obtain ⟨Y, y1, y2⟩ := needs_loop h n L.length ((List.replicate (L.length + 2) false).set n.toNat true) (Nat.le_refl _) ⟨by simp, (sm n).2 (.inl rfl), fun q hq h2 hi hb => by
  rcases (sm q).1 hq with e | e
  ·omega
  ·exact absurd e (mk_none _ _), fun q hq hne => by
  rcases (sm q).1 hq with e | e
  ·exact absurd e hne
  ·exact absurd e (mk_none _ _)⟩
 refine ⟨Y, ?_, y2⟩
 unfold impl_Diagram_needs.f
 rw [w2, w1, e2]
 simp only [Option.bind_some]
 exact Ev.pos (by omega) (Ev.pos (by omega) (Ev.pos p0 (Ev.pos (by rw [List.length_replicate]; omega) y1)))
theorem upto_succ (n : Nat) : upto (n + 1) = upto n ++ [(n : Int)] := by
 unfold upto
 rw [List.range_succ, List.map_append]
 rfl
theorem forksOf_loop (X : List Bool) (hx : 2 ≤ X.length) (hl : X.length ≤ 100000) : ∀ (d i : Nat), i + 2 + d = X.length → Ev (fun k => impl_Diagram_forksOf.l0 k (((upto (i + 2)).filter (fun q => decide (2 ≤ q) && Mk X q)).length : Int) (X.drop 2) ((X.drop 2).length : Int) (i : Int)) (((upto X.length).filter (fun q => decide (2 ≤ q) && Mk X q)).length : Int) := by
 intro d
 induction d with
 | zero =>
  intro i hi
  rw [show i + 2 = X.length by omega]
  exact Ev.step (Ev.neg (by rw [List.length_drop]; omega) (Ev.val _)) (fun k => impl_Diagram_forksOf.l0.eq_2 ..)
 | succ d ih =>
  intro i hi
  have hr : rdOf false (X.drop 2) (i : Int) = Mk X ((i + 2 : Nat) : Int) := by
   rw [mk_eq X (by omega)]
   unfold rdOf
   rw [List.getD_eq_getElem?_getD, List.getD_eq_getElem?_getD, List.getElem?_drop, Int.toNat_natCast, Int.toNat_natCast, Nat.add_comm 2 i]
  have hf : ((upto (i + 1 + 2)).filter (fun q => decide (2 ≤ q) && Mk X q)).length = ((upto (i + 2)).filter (fun q => decide (2 ≤ q) && Mk X q)).length + (if Mk X ((i + 2 : Nat) : Int) = true then 1 else 0) := by
   rw [show i + 1 + 2 = i + 2 + 1 by omega, upto_succ, List.filter_append, List.length_append]
   congr 1
   rw [List.filter_cons, decide_eq_true (show (2 : Int) ≤ ((i + 2 : Nat) : Int) by omega), Bool.true_and]
   split <;> rfl
  have hb : ((upto (i + 2)).filter (fun q => decide (2 ≤ q) && Mk X q)).length ≤ i + 2 := by
   have := List.length_filter_le (fun q => decide (2 ≤ q) && Mk X q) (upto (i + 2))
   rwa [upto_len] at this
  have rest := ih (i + 1) (by omega)
  refine Ev.step (Ev.pos (by rw [List.length_drop]; omega) (Ev.pos (by omega) (Ev.pos (by rw [List.length_drop]; omega) (Ev.bind (a := if Mk X ((i + 2 : Nat) : Int) = true then 1 else 0) (Ev.const ?_) ?_)))) (fun k => impl_Diagram_forksOf.l0.eq_2 ..)
  ·rw [hr]
   unfold impl_bit.f
   split <;> rfl
  ·have e : wrap64 ((((upto (i + 2)).filter (fun q => decide (2 ≤ q) && Mk X q)).length : Int) + (if Mk X ((i + 2 : Nat) : Int) = true then 1 else 0)) = (((upto (i + 1 + 2)).filter (fun q => decide (2 ≤ q) && Mk X q)).length : Int) := by
    rw [hf]
    split <;> rw [w_id (by omega) (by omega)] <;> omega
   rw [e, wsucc i (by omega)]
   exact rest
theorem forksOf_val {vars : Int} {L : List S56} (h : DV vars L) {n : Int} (p : Pl L n) : Ev (fun k => impl_ForksOf.f k vars L n) ((ins [] (cpP vars L n)).1.length : Int) := by
 have hl := h.len
 obtain ⟨q, hq, h1⟩ := impl_dv vars L
 obtain rfl : q = true := h1.2 h
 obtain ⟨Y, y1, y2⟩ := needs_val h p
 have dn := dv_nil h.v0 h.v12
 obtain ⟨T, t1, t2⟩ := ins_cov h 13 n [] [] dn (img_nil vars L) (cov_nil h) p (by have := (h.dvar_le p).1; have := h.v12; omega)
 have mk : Marked vars L n (fun q => Mk Y q = true) := ⟨y2.first, fun q hq h2 hi => y2.down q hq h2 (by omega) hi, y2.up⟩
 have cc := cov_count h p mk (fun q hq => ⟨mk_nn hq, by have := mk_lt hq; have := y2.len; omega⟩) t1 (fun q => by rw [t2]; simp)
 rw [← y2.len] at cc
 have loop := forksOf_loop Y (by have := y2.len; omega) (by have := y2.len; omega) (Y.length - 2) 0 (by have := y2.len; omega)
 have yl := y2.len
 unfold impl_ForksOf.f
 refine Ev.bind (Ev.const hq) (Ev.pos rfl (Ev.bind (Ev.const (isPlace_val vars n (by omega))) ?_))
 rw [@decide_eq_true _ (decPl L n) p]
 refine Ev.pos rfl (Ev.bind (a := ((ins [] (cpP vars L n)).1.length : Int)) ?_ (Ev.val _))
 unfold impl_Diagram_forksOf.f
 simp only [Option.bind_some]
 refine Ev.bind y1 (Ev.pos (by omega) ?_)
 rw [← cc]
 exact loop
/-! #### the program's least row, whole -/
theorem wc_loop (l : List Int) (hl : l.length ≤ 1048576) : ∀ (d i : Nat), i + d = l.length → Ev (fun k => laws_wcInts.l0 k l l (l.length : Int) (i : Int)) true := by
 intro d
 induction d with
 | zero =>
  intro i hi
  exact Ev.step (Ev.neg (by omega) (Ev.val _)) (fun k => laws_wcInts.l0.eq_2 ..)
 | succ d ih =>
  intro i hi
  refine Ev.step (Ev.pos (by omega) (Ev.pos (by omega) (Ev.pos (by omega) (Ev.pos (by omega) (Ev.pos rfl ?_))))) (fun k => laws_wcInts.l0.eq_2 ..)
  rw [wsucc i (by omega)]
  exact ih (i + 1) (by omega)
theorem wc_same (l : List Int) (hl : l.length ≤ 1048576) : Ev (fun k => laws_wcInts.f k l l) true := by
 unfold laws_wcInts.f
 exact Ev.pos rfl (wc_loop l hl l.length 0 (by omega))
theorem impl_row_val {vars : Int} {L : List S56} (hd : DV vars L) {n : Int} (p : Pl L n) (m : Nat) (hm : (m : Int) = vars) : Ev (fun k => impl_DiagramRow.f k vars L n) (if n = 0 then [] else rwF L m 0 n) := by
 have h12 := hd.v12
 have h0 := hd.v0
 have hl := hd.len
 obtain ⟨q, hq, h1⟩ := impl_dv vars L
 obtain rfl : q = true := h1.2 hd
 have hd0 := (hd.dvar_le p).1
 unfold impl_DiagramRow.f
 refine Ev.bind (Ev.const hq) (Ev.pos rfl (Ev.bind (Ev.const (isPlace_val vars n (by omega))) ?_))
 rw [@decide_eq_true _ (decPl L n) p]
 by_cases n0 : n = 0
 ·subst n0
  exact Ev.pos rfl (Ev.step (Ev.pos rfl (Ev.val _)) (fun k => impl_DiagramRow.j0.eq_2 ..))
 ·have hn : (n == 0) = false := beq_eq_false_iff_ne.mpr n0
  rw [hn, if_neg n0]
  refine Ev.pos rfl (Ev.step (Ev.neg (by decide) (Ev.pos h0 (Ev.pos (by omega) ?_))) (fun k => impl_DiagramRow.j0.eq_2 ..))
  have := impl_row_loop hd m 0 n [] (by omega) rfl p n0 (by omega)
  rw [show vars.toNat = m by omega]
  exact this

theorem draw_comp (code : List Int) (hc : ∀ x ∈ code, (Lit.int .u8 x).wf = true) : Tot (fun k => spec_DrawCompacted.f k code) (fun _ => True) := by
 obtain ⟨b, ho, hb⟩ := open_tot code hc
 unfold spec_DrawCompacted.f
 refine Tot.bind (Tot.of (Ev.const ho) (P := fun r => r = (b, 0)) rfl) ?_
 rintro r rfl
 exact Tot.bind (any_tot b hb 0 5 (by decide) (by decide) (by decide) (by decide)) (fun _ _ => Tot.val trivial)
theorem FnCompacted : laws_FnCompacted.Pure := by
 intro code _ _ hc
 apply Ev.get
 unfold laws_FnCompacted.f
 by_cases c0 : (code.length : Int) > 1048576
 ·exact Ev.pos c0 (Ev.val _)
 refine Ev.neg c0 ?_
 obtain ⟨⟨vars, L, n⟩, hdraw, _⟩ := draw_comp code hc
 refine Ev.bind hdraw ?_
 simp only
 obtain ⟨⟨r1, R, r3⟩, ht, hR⟩ := compIs_ex vars L n
 refine Ev.bind (comp_v ht) (Ev.bind (spec_comp ht) (Ev.pos rfl (Ev.pos rfl ?_)))
 simp only
 obtain ⟨hy, hn⟩ := ht
 by_cases ask : DV vars L ∧ Pl L n
 ·obtain ⟨h, p⟩ := ask
  have hh := hy ⟨h, p⟩
  simp only [Prod.mk.injEq] at hh
  obtain ⟨rfl, rfl, rfl⟩ := hh
  have dn := dv_nil h.v0 h.v12
  have d13 : r1 - dvar r1 L n < (13 : Nat) := by have := (h.dvar_le p).1; have := h.v12; omega
  have tok := cpP_ok h dn 13 n p d13
  obtain ⟨room, _⟩ := ins_cp h 13 n [] dn (img_nil r1 L) p d13
  obtain ⟨d1, d2⟩ := dv_ins dn tok
  obtain ⟨pl, _⟩ := d2 room
  have cross : Cross r1 (ins [] (cpP r1 L n)).1 (ins [] (cpP r1 L n)).2 L n := fun bits _ => (ins_val bits dn tok room).trans (cpP_val h bits 13 n p d13)
  obtain ⟨m, hm⟩ := Int.eq_ofNat_of_zero_le h.v0
  have v1 := (d1.dvar_le pl).1
  have v2 := (h.dvar_le p).1
  have h12 := h.v12
  have cnt := cross_count d1 h m 0 _ _ pl p cross (Int.le_refl _) (by omega) v1 v2
  have row := cross_row d1 h m 0 _ _ pl p cross (Int.le_refl _) (by omega) v1 v2
  have zero := cross_zero d1 h pl p cross
  obtain ⟨q, hq, h1⟩ := impl_dv r1 (ins [] (cpP r1 L n)).1
  obtain rfl : q = true := h1.2 d1
  refine Ev.step (Ev.neg (by simpa using room) (Ev.bind (forksOf_val h p) (Ev.pos rfl (Ev.bind (Ev.const hq) (Ev.pos rfl (Ev.bind (diagramCount_val d1 pl) (Ev.bind (diagramCount_val h p) (Ev.pos cnt ?_)))))))) (fun k => laws_FnCompacted.j0.eq_2 ..)
  have ra := impl_row_val d1 pl m (by omega)
  have rb := impl_row_val h p m (by omega)
  have same : (if (ins [] (cpP r1 L n)).2 = 0 then [] else rwF (ins [] (cpP r1 L n)).1 m 0 (ins [] (cpP r1 L n)).2) = (if n = 0 then [] else rwF L m 0 n) := by
   by_cases e : n = 0
   ·rw [if_pos e, if_pos (zero.2 e)]
   ·rw [if_neg e, if_neg (fun x => e (zero.1 x)), row]
  rw [same] at ra
  have len : (if n = 0 then [] else rwF L m 0 n).length ≤ 1048576 := by
   split
   ·exact Nat.zero_le _
   ·rw [rwF_len]
    omega
  exact Ev.bind ra (Ev.bind rb (Ev.bind (wc_same _ len) (Ev.val _)))
 ·have hh := hn ask
  simp only [Prod.mk.injEq] at hh
  obtain ⟨rfl, rfl, rfl⟩ := hh
  exact Ev.step (Ev.pos (by decide) (Ev.pos rfl (Ev.pos rfl (Ev.val _)))) (fun k => laws_FnCompacted.j0.eq_2 ..)

end Go.Proofs.Ytpcckoljocpchaa.Pure
