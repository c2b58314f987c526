/- FnEvalUsed: of whatever is drawn, the program evaluates as the reference does, and a variable that it does not tell to be used may have another value; for every input. -/
import Derived.Test.YtpfkgmcbogcmoaaQFnEvalUsedx11
namespace Go.Proofs.Ytpfkgmcbogcmoaa.Pure
open Go.RowKit Go.Proofs.Ytpfkgmcbogcmoaa.QFnEvalUsed Go.Proofs.YtpfkgmcbogcmoaaW.PrintWords Go.Proofs.YtpfkgmcbogcmoaaW.PrintLast Go.Proofs.YtpfkgmcbogcmoaaW.PrintMore
set_option linter.unusedVariables false
set_option linter.unusedSimpArgs false

/-! #### rounds -/
/-- From some number of rounds on, g tells r. -/
def Ev {α : Type} (g : Nat → Option α) (r : α) : Prop := ∃ K, ∀ k, K ≤ k → g k = some r
theorem Ev.val {α : Type} (r : α) : Ev (fun _ => some r) r := ⟨0, fun _ _ => rfl⟩
theorem Ev.valEq {α : Type} {r r' : α} (h : r = r') : Ev (fun _ => some r) r' := ⟨0, fun _ _ => by rw [h]⟩
theorem Ev.const {α : Type} {g : Option α} {r : α} (h : g = some r) : Ev (fun _ => g) r := ⟨0, fun _ _ => h⟩
theorem Ev.bind {α β : Type} {g : Nat → Option α} {f : Nat → α → Option β} {a : α} {b : β} (h : Ev g a) (h2 : Ev (fun k => f k a) b) : Ev (fun k => (g k).bind (f k)) b := by
  obtain ⟨K, hK⟩ := h
  obtain ⟨L, hL⟩ := h2
  exact ⟨max K L, fun k hk => by show (g k).bind (f k) = _; rw [hK k (by omega)]; exact hL k (by omega)⟩
theorem Ev.step {α : Type} {g g' : Nat → Option α} {r : α} (h : Ev g' r) (e : ∀ k, g (k + 1) = g' k) : Ev g r := by
  obtain ⟨K, hK⟩ := h
  exact ⟨K + 1, fun k hk => by
    obtain ⟨m, rfl⟩ : ∃ m, k = m + 1 := ⟨k - 1, by omega⟩
    rw [e]
    exact hK m (by omega)⟩
theorem Ev.pos {α : Type} {c : Prop} [Decidable c] {g g' : Nat → Option α} {r : α} (hc : c) (h : Ev g r) : Ev (fun k => if c then g k else g' k) r := by
  obtain ⟨K, hK⟩ := h
  exact ⟨K, fun k hk => by simp only [if_pos hc]; exact hK k hk⟩
theorem Ev.neg {α : Type} {c : Prop} [Decidable c] {g g' : Nat → Option α} {r : α} (hc : ¬ c) (h : Ev g' r) : Ev (fun k => if c then g k else g' k) r := by
  obtain ⟨K, hK⟩ := h
  exact ⟨K, fun k hk => by simp only [if_neg hc]; exact hK k hk⟩
theorem Ev.get {α : Type} {g : Nat → Option α} {r : α} (h : Ev g r) : ∃ k, g k = some r := by
  obtain ⟨K, hK⟩ := h
  exact ⟨K, hK K (Nat.le_refl _)⟩
theorem Ev.to {α : Type} {g : Nat → Option α} {r r' : α} (h : Ev g r) (e : r = r') : Ev g r' := e ▸ h
/-! #### numbers -/
theorem w_id {x : Int} (h0 : -9223372036854775808 ≤ x) (h1 : x ≤ 9223372036854775807) : wrap64 x = x := by
  unfold wrap64
  omega
/-! #### lists -/
theorem rd_nat (l : List Int) (i : Nat) : rd l (i : Int) = l.getD i 0 := by
  unfold rd
  rw [Int.toNat_natCast]
theorem getD_lt {α : Type} {l : List α} {i : Nat} (h : i < l.length) (d : α) : l.getD i d = l[i] := by
  rw [List.getD_eq_getElem?_getD, List.getElem?_eq_getElem h]
  rfl
theorem rd_lt {l : List Int} {i : Nat} (h : i < l.length) : rd l (i : Int) = l[i] := by rw [rd_nat, getD_lt h]
theorem rd_set_eq {l : List Int} {i : Nat} {v : Int} (h : i < l.length) : rd (l.set i v) (i : Int) = v := by
  rw [rd_lt (by simpa using h)]
  simp
theorem rd_set_ne {l : List Int} {i j : Nat} {v : Int} (h : i ≠ j) : rd (l.set i v) (j : Int) = rd l (j : Int) := by
  rw [rd_nat, rd_nat, List.getD_eq_getElem?_getD, List.getD_eq_getElem?_getD, List.getElem?_set_ne h]
theorem rd_app_lt {l m : List Int} {j : Nat} (h : j < l.length) : rd (l ++ m) (j : Int) = rd l (j : Int) := by
  rw [rd_nat, rd_nat, List.getD_eq_getElem?_getD, List.getD_eq_getElem?_getD, List.getElem?_append_left h]
theorem rd_app_eq {l : List Int} {v : Int} : rd (l ++ [v]) (l.length : Int) = v := by
  rw [rd_nat, List.getD_eq_getElem?_getD, List.getElem?_append_right (Nat.le_refl _)]
  simp
theorem wsucc (i : Nat) (h : i ≤ 4611686018427387904) : wrap64 ((i : Int) + 1) = ((i + 1 : Nat) : Int) := by
  unfold wrap64
  omega
/-- g tells in the end whether p is so. -/
def Dec (g : Nat → Option Bool) (p : Prop) : Prop := ∃ b, Ev g b ∧ (b = true ↔ p)
theorem Dec.yes {g : Nat → Option Bool} {p : Prop} (h : Ev g true) (hp : p) : Dec g p := ⟨true, h, by simp [hp]⟩
theorem Dec.no {g : Nat → Option Bool} {p : Prop} (h : Ev g false) (hp : ¬ p) : Dec g p := ⟨false, h, by simp [hp]⟩
theorem Dec.iff {g : Nat → Option Bool} {p q : Prop} (h : Dec g p) (e : p ↔ q) : Dec g q := by
  obtain ⟨b, h1, h2⟩ := h
  exact ⟨b, h1, h2.trans e⟩
theorem all_from {P : Nat → Prop} {i n : Nat} (hi : i < n) : (∀ j, i ≤ j → j < n → P j) ↔ P i ∧ ∀ j, i + 1 ≤ j → j < n → P j := by
  constructor
  · intro h
    exact ⟨h i (Nat.le_refl _) hi, fun j h1 h2 => h j (by omega) h2⟩
  · rintro ⟨h1, h2⟩ j h3 h4
    rcases Nat.lt_or_eq_of_le h3 with h | rfl
    · exact h2 j h h4
    · exact h1
/-! #### it tells something, of which P holds -/
def Tot {α : Type} (g : Nat → Option α) (P : α → Prop) : Prop := ∃ r, Ev g r ∧ P r
theorem Tot.of {α : Type} {g : Nat → Option α} {P : α → Prop} {r : α} (h : Ev g r) (hp : P r) : Tot g P := ⟨r, h, hp⟩
theorem Tot.val {α : Type} {P : α → Prop} {r : α} (h : P r) : Tot (fun _ => some r) P := ⟨r, Ev.val r, h⟩
theorem Tot.mono {α : Type} {g : Nat → Option α} {P Q : α → Prop} (h : Tot g P) (hq : ∀ r, P r → Q r) : Tot g Q := by
  obtain ⟨r, h1, h2⟩ := h
  exact ⟨r, h1, hq r h2⟩
theorem Tot.step {α : Type} {g g' : Nat → Option α} {P : α → Prop} (h : Tot g' P) (e : ∀ k, g (k + 1) = g' k) : Tot g P := by
  obtain ⟨r, h1, h2⟩ := h
  exact ⟨r, Ev.step h1 e, h2⟩
theorem Tot.bind {α β : Type} {g : Nat → Option α} {f : Nat → α → Option β} {Q : α → Prop} {P : β → Prop} (h : Tot g Q) (h2 : ∀ a, Q a → Tot (fun k => f k a) P) : Tot (fun k => (g k).bind (f k)) P := by
  obtain ⟨a, ha, hq⟩ := h
  obtain ⟨r, h1, h3⟩ := h2 a hq
  exact ⟨r, Ev.bind ha h1, h3⟩
theorem Tot.pos {α : Type} {c : Prop} [Decidable c] {g g' : Nat → Option α} {P : α → Prop} (hc : c) (h : Tot g P) : Tot (fun k => if c then g k else g' k) P := by
  obtain ⟨r, h1, h2⟩ := h
  exact ⟨r, Ev.pos hc h1, h2⟩
theorem Tot.neg {α : Type} {c : Prop} [Decidable c] {g g' : Nat → Option α} {P : α → Prop} (hc : ¬ c) (h : Tot g' P) : Tot (fun k => if c then g k else g' k) P := by
  obtain ⟨r, h1, h2⟩ := h
  exact ⟨r, Ev.neg hc h1, h2⟩
theorem Tot.ite {α : Type} {c : Prop} [Decidable c] {g g' : Nat → Option α} {P : α → Prop} (h1 : c → Tot g P) (h2 : ¬ c → Tot g' P) : Tot (fun k => if c then g k else g' k) P := by
  by_cases hc : c
  · exact Tot.pos hc (h1 hc)
  · exact Tot.neg hc (h2 hc)
/-! #### the drawer of numbers -/
def Drawer (b : List Int) : Prop := b.length ≤ 2000 ∧ ∀ j : Nat, j < b.length → 0 ≤ rd b (j : Int) ∧ rd b (j : Int) ≤ 255
theorem xor_nonneg (a c : Int) (ha : 0 ≤ a) (ha2 : a < 4611686018427387904) (hc : 0 ≤ c) (hc2 : c < 4611686018427387904) : 0 ≤ Go.bits .xor .i64 a c := by
  obtain ⟨m, rfl⟩ := Int.eq_ofNat_of_zero_le ha
  obtain ⟨n, rfl⟩ := Int.eq_ofNat_of_zero_le hc
  have hm : m < 2 ^ 62 := by omega
  have hn : n < 2 ^ 62 := by omega
  have hx := Nat.xor_lt_two_pow hm hn
  have hm' : m % 2 ^ 64 = m := Nat.mod_eq_of_lt (by omega)
  have hn' : n % 2 ^ 64 = n := Nat.mod_eq_of_lt (by omega)
  have e : (BitVec.ofInt 64 (m : Int) ^^^ BitVec.ofInt 64 (n : Int)).toNat = m ^^^ n := by
    rw [BitVec.ofInt_natCast, BitVec.ofInt_natCast, BitVec.toNat_xor, BitVec.toNat_ofNat, BitVec.toNat_ofNat, hm', hn']
  have e2 : Go.bits .xor .i64 (m : Int) (n : Int) = IntKind.i64.wrap ((BitVec.ofInt 64 (m : Int) ^^^ BitVec.ofInt 64 (n : Int)).toNat : Int) := rfl
  rw [e2, e, IntKind.wrap_i64]
  omega
theorem tmod_range (x n : Int) (h0 : 0 ≤ x) (hn : 1 ≤ n) : 0 ≤ Int.tmod x n ∧ Int.tmod x n < n := by
  rw [Int.tmod_eq_emod_of_nonneg h0]
  exact ⟨Int.emod_nonneg _ (by omega), Int.emod_lt_of_pos _ (by omega)⟩
theorem pick_tot (b : List Int) (hb : Drawer b) (p n : Int) (hp : 0 ≤ p) (hp2 : p ≤ 1000000) :
    Tot (fun k => spec_l40Rd_pick.f k b p n) (fun r => r.2 = p + 1 ∧ 0 ≤ r.1 ∧ (1 ≤ n → r.1 < n)) := by
  obtain ⟨hl, hbb⟩ := hb
  have w1 : wrap64 (p + 1) = p + 1 := w_id (by omega) (by omega)
  have w2 : wrap64 (p + 1 - 1) = p := by rw [w_id (by omega) (by omega)]; omega
  have byte : ∀ z : Int, 0 ≤ z → z < (b.length : Int) → 0 ≤ rd b z ∧ rd b z ≤ 255 := by
    intro z h0 h1
    obtain ⟨m, rfl⟩ := Int.eq_ofNat_of_zero_le h0
    exact hbb m (by omega)
  unfold spec_l40Rd_pick.f
  rw [w1]
  refine Tot.ite (fun hn => ?_) (fun hn => ?_)
  · refine Tot.step (Tot.pos rfl (Tot.val ?_)) (fun k => spec_l40Rd_pick.j0.eq_2 ..)
    exact ⟨rfl, Int.le_refl _, fun h => by omega⟩
  · refine Tot.step ?_ (fun k => spec_l40Rd_pick.j0.eq_2 ..)
    refine Tot.ite (fun hz => Tot.val ⟨rfl, Int.le_refl _, fun h => by show (0 : Int) < n; omega⟩) (fun hz => ?_)
    have hlen : (b.length : Int) ≠ 0 := by simpa using hz
    rw [w2]
    refine Tot.ite (fun hpl => ?_) (fun hpl => ?_)
    · obtain ⟨y0, y1⟩ := byte p hp hpl
      refine Tot.pos hp (Tot.neg (by omega) (Tot.val ?_))
      rw [w_id (by omega) (by omega)]
      obtain ⟨z0, z1⟩ := tmod_range (rd b p) n y0 (by omega)
      exact ⟨rfl, z0, fun _ => z1⟩
    · obtain ⟨i0, i1⟩ := tmod_range p (b.length : Int) hp (by omega)
      have w3 : wrap64 (p * 7) = p * 7 := w_id (by omega) (by omega)
      have w4 : wrap64 (p * 7 + 3) = p * 7 + 3 := w_id (by omega) (by omega)
      rw [w3, w4]
      obtain ⟨j0, j1⟩ := tmod_range (p * 7 + 3) (b.length : Int) (by omega) (by omega)
      refine Tot.neg (by omega) (Tot.pos i0 (Tot.pos i1 (Tot.pos j0 (Tot.pos j1 (Tot.neg (by omega) (Tot.val ?_))))))
      obtain ⟨u0, u1⟩ := byte _ i0 i1
      obtain ⟨v0, v1⟩ := byte _ j0 j1
      generalize rd b (Int.tmod p (b.length : Int)) = u at u0 u1 ⊢
      generalize rd b (Int.tmod (p * 7 + 3) (b.length : Int)) = v at v0 v1 ⊢
      have q0 : 0 ≤ Int.tdiv p (b.length : Int) ∧ Int.tdiv p (b.length : Int) ≤ p := by
        rw [Int.tdiv_eq_ediv_of_nonneg hp]
        exact ⟨Int.ediv_nonneg hp (by omega), Int.ediv_le_self _ hp⟩
      generalize Int.tdiv p (b.length : Int) = q at q0 ⊢
      rw [w_id (x := u) (by omega) (by omega), w_id (x := v) (by omega) (by omega), w_id (x := q) (by omega) (by omega), w_id (x := u * 131) (by omega) (by omega), w_id (x := v * 1117) (by omega) (by omega),
        w_id (x := p * 29) (by omega) (by omega), w_id (x := q * 53) (by omega) (by omega), w_id (x := u * 131 + v * 1117) (by omega) (by omega), w_id (x := u * 131 + v * 1117 + p * 29) (by omega) (by omega), w_id (x := u * 131 + v * 1117 + p * 29 + q * 53) (by omega) (by omega)]
      generalize hA : u * 131 + v * 1117 + p * 29 + q * 53 = A
      have hA0 : 0 ≤ A ∧ A ≤ 1000000000 := by omega
      have hd : 0 ≤ Int.tdiv A 64 ∧ Int.tdiv A 64 ≤ A := by
        rw [Int.tdiv_eq_ediv_of_nonneg hA0.1]
        omega
      rw [w_id (x := Int.tdiv A 64) (by omega) (by omega)]
      have hx := xor_nonneg A (Int.tdiv A 64) hA0.1 (by omega) hd.1 (by omega)
      obtain ⟨z0, z1⟩ := tmod_range _ n hx (by omega)
      exact ⟨rfl, z0, fun _ => z1⟩
theorem num_tot (b : List Int) (hb : Drawer b) (p : Int) (l : List Int) (hp : 0 ≤ p) (hp2 : p ≤ 1000000) (hl : 1 ≤ l.length) :
    Tot (fun k => spec_l40Rd_num.f k b p l) (fun r => r.2 = p + 1 ∧ r.1 ∈ l) := by
  unfold spec_l40Rd_num.f
  refine Tot.bind (pick_tot b hb p (l.length : Int) hp hp2) ?_
  rintro ⟨x, q⟩ ⟨h1, h2, h3⟩
  have h4 := h3 (by omega)
  refine Tot.pos h2 (Tot.pos h4 (Tot.val ⟨h1, ?_⟩))
  show rd l x ∈ l
  obtain ⟨m, rfl⟩ := Int.eq_ofNat_of_zero_le h2
  rw [rd_lt (by show m < _; simp only at h4; omega)]
  exact List.getElem_mem _
theorem open_tot (code : List Int) (hc : ∀ x ∈ code, (Lit.int .u8 x).wf = true) : ∃ b, spec_l40Open.f code = some (b, 0) ∧ Drawer b := by
  have byte : ∀ b : List Int, (∀ x ∈ b, x ∈ code) → ∀ j : Nat, j < b.length → 0 ≤ rd b (j : Int) ∧ rd b (j : Int) ≤ 255 := by
    intro b hs j hj
    rw [rd_lt hj]
    have := hc _ (hs _ (List.getElem_mem hj))
    simp [Lit.wf, IntKind.min, IntKind.max, IntKind.signed, IntKind.bits] at this
    omega
  unfold spec_l40Open.f
  by_cases c : (code.length : Int) > 2000
  · rw [if_pos c, if_pos (by omega)]
    refine ⟨_, rfl, by simp; omega, byte _ (fun x hx => List.mem_of_mem_take hx)⟩
  · rw [if_neg c]
    exact ⟨_, rfl, by omega, byte _ (fun x hx => hx)⟩
/-! #### terms: their kinds -/
/-- An operation that fits the terms ahead of it. -/
def OpOk (f0 f1 f2 f3 : Int) (ks : List Int) : Prop := (2 ≤ f0 ∧ f0 ≤ 9) ∧ f1 = 0 ∧ (0 ≤ f2 ∧ f2 < (ks.length : Int)) ∧ (0 ≤ f3 ∧ f3 < (ks.length : Int)) ∧ rd ks f2 = (if f0 ≥ 7 then 2 else 1) ∧ rd ks f3 = (if f0 ≥ 7 then 2 else 1) ∧ (f0 = 7 → f3 = f2)
instance (f0 f1 f2 f3 : Int) (ks : List Int) : Decidable (OpOk f0 f1 f2 f3 ks) := by unfold OpOk; infer_instance
/-- What kind a term is of among those ahead of it; 0: none. -/
def kindAt (t : S73) (ks : List Int) (vars : Int) : Int :=
  if t.f0 = 0 then (if (-9999 ≤ t.f1 ∧ t.f1 ≤ 9999) ∧ t.f2 = 0 ∧ t.f3 = 0 then 1 else 0)
  else if t.f0 = 1 then (if (0 ≤ t.f1 ∧ t.f1 < vars) ∧ t.f2 = 0 ∧ t.f3 = 0 then 1 else 0)
  else if OpOk t.f0 t.f1 t.f2 t.f3 ks then (if t.f0 ≥ 5 then 2 else 1) else 0
/-- The kinds of terms from place i on; nothing if one has none. -/
def kindsRun (l : List S73) (vars : Int) : Nat → Nat → List Int → List Int
  | 0, _, ks => ks
  | d + 1, i, ks => if kindAt (rd_T73 l (i : Int)) ks vars = 0 then [] else kindsRun l vars d (i + 1) (ks ++ [kindAt (rd_T73 l (i : Int)) ks vars])
def kindsL (l : List S73) (vars : Int) : List Int := if (0 ≤ vars ∧ vars ≤ 5) ∧ (1 ≤ l.length ∧ l.length ≤ 40) then kindsRun l vars l.length 0 [] else []
/-- These are the kinds of terms. -/
def Typed (l : List S73) (vars : Int) (ks : List Int) : Prop := ks.length = l.length ∧ ∀ j : Nat, j < l.length → kindAt (rd_T73 l (j : Int)) (ks.take j) vars = rd ks (j : Int) ∧ rd ks (j : Int) ≠ 0
theorem in_dec (x a b : Int) : spec_l1In.f x a b = some (decide (a ≤ x ∧ x ≤ b)) := by
  unfold spec_l1In.f
  by_cases h : x ≥ a
  · rw [if_pos h]
    congr 1
    simp only [decide_eq_decide]
    omega
  · rw [if_neg h]
    congr 1
    symm
    rw [decide_eq_false_iff_not]
    omega
theorem in_yes {x a b : Int} (h : a ≤ x ∧ x ≤ b) : spec_l1In.f x a b = some true := by rw [in_dec, decide_eq_true h]
theorem in_no {x a b : Int} (h : ¬ (a ≤ x ∧ x ≤ b)) : spec_l1In.f x a b = some false := by rw [in_dec, decide_eq_false h]
theorem iin_yes {x a b : Int} (h : a ≤ x ∧ x ≤ b) : impl_in.f x a b = some true := in_yes h
theorem iin_no {x a b : Int} (h : ¬ (a ≤ x ∧ x ≤ b)) : impl_in.f x a b = some false := in_no h
theorem spec_kind (t : S73) (ks : List Int) (vars : Int) (hk : ks.length ≤ 100000) (hv : -100 ≤ vars ∧ vars ≤ 100) : Ev (fun k => spec_l1Kind.f k t.f0 t.f1 t.f2 t.f3 ks vars) (kindAt t ks vars) := by
  obtain ⟨f0, f1, f2, f3⟩ := t
  have w1 : wrap64 (vars - 1) = vars - 1 := w_id (by omega) (by omega)
  have w2 : wrap64 ((ks.length : Int) - 1) = (ks.length : Int) - 1 := w_id (by omega) (by omega)
  have j4 : ∀ b : Bool, Ev (fun k => spec_l1Kind.j4 k b f0 f1 f2 f3) (if b = true then 0 else if f0 ≥ 5 then 2 else 1) := by
    intro b
    refine Ev.step ?_ (fun k => spec_l1Kind.j4.eq_2 ..)
    by_cases hb : b = true
    · exact (Ev.pos hb (Ev.val _)).to (by rw [if_pos hb])
    · by_cases h5 : f0 ≥ 5
      · exact (Ev.neg hb (Ev.pos h5 (Ev.val _))).to (by rw [if_neg hb, if_pos h5])
      · exact (Ev.neg hb (Ev.neg h5 (Ev.val _))).to (by rw [if_neg hb, if_neg h5])
  have j3 : ∀ want : Int, 0 ≤ f2 ∧ f2 < ks.length → 0 ≤ f3 ∧ f3 < ks.length → Ev (fun k => spec_l1Kind.j3 k ks want f0 f1 f2 f3) (if rd ks f2 = want ∧ rd ks f3 = want ∧ (f0 = 7 → f3 = f2) then (if f0 ≥ 5 then 2 else 1) else 0) := by
    intro want h2 h3
    refine Ev.step ?_ (fun k => spec_l1Kind.j3.eq_2 ..)
    refine Ev.pos h2.1 (Ev.pos h2.2 ?_)
    by_cases c1 : rd ks f2 = want
    · refine Ev.pos c1 (Ev.pos h3.1 (Ev.pos h3.2 ?_))
      by_cases c2 : rd ks f3 = want
      · refine Ev.pos c2 (Ev.bind (a := f0 == 7) (Ev.const (by unfold spec_l1One.f; rfl)) ?_)
        by_cases c3 : f0 = 7
        · refine Ev.pos (by simpa using c3) ((j4 (f3 != f2)).to ?_)
          by_cases c4 : f3 = f2
          · rw [if_neg (by simp [c4]), if_pos (c := rd ks f2 = want ∧ rd ks f3 = want ∧ (f0 = 7 → f3 = f2)) ⟨c1, c2, fun _ => c4⟩]
          · rw [if_pos (by simp [c4]), if_neg (by rintro ⟨_, _, h⟩; exact c4 (h c3))]
        · refine Ev.neg (by simpa using c3) ((j4 false).to ?_)
          rw [if_neg (by decide), if_pos (c := rd ks f2 = want ∧ rd ks f3 = want ∧ (f0 = 7 → f3 = f2)) ⟨c1, c2, fun h => absurd h c3⟩]
      · refine Ev.neg c2 ((j4 true).to ?_)
        rw [if_pos rfl, if_neg (by rintro ⟨_, h, _⟩; exact c2 h)]
    · refine Ev.neg c1 ((j4 true).to ?_)
      rw [if_pos rfl, if_neg (by rintro ⟨h, _⟩; exact c1 h)]
  have j2 : ∀ b : Bool, (b = false → (0 ≤ f2 ∧ f2 < ks.length) ∧ (0 ≤ f3 ∧ f3 < ks.length)) → Ev (fun k => spec_l1Kind.j2 k ks b f0 f1 f2 f3) (if b = true then 0 else if rd ks f2 = (if f0 ≥ 7 then 2 else 1) ∧ rd ks f3 = (if f0 ≥ 7 then 2 else 1) ∧ (f0 = 7 → f3 = f2) then (if f0 ≥ 5 then 2 else 1) else 0) := by
    intro b hb
    refine Ev.step ?_ (fun k => spec_l1Kind.j2.eq_2 ..)
    cases b with
    | true => exact Ev.pos rfl (Ev.val _)
    | false =>
      obtain ⟨h2, h3⟩ := hb rfl
      refine Ev.neg (by decide) ?_
      rw [if_neg (by decide)]
      by_cases h7 : f0 ≥ 7
      · rw [if_pos h7]
        exact Ev.pos h7 (j3 2 h2 h3)
      · rw [if_neg h7]
        exact Ev.neg h7 (j3 1 h2 h3)
  have j1 : f0 ≠ 0 → f0 ≠ 1 → Ev (fun k => spec_l1Kind.j1 k ks false f0 f1 f2 f3) (kindAt ⟨f0, f1, f2, f3⟩ ks vars) := by
    intro n0 n1
    refine Ev.step ?_ (fun k => spec_l1Kind.j1.eq_2 ..)
    rw [w2]
    unfold kindAt
    dsimp only
    rw [if_neg n0, if_neg n1]
    refine Ev.neg (by decide) (Ev.bind (Ev.const (in_dec _ _ _)) ?_)
    by_cases a1 : 2 ≤ f0 ∧ f0 ≤ 9
    · refine Ev.pos (by simpa using a1) ?_
      by_cases a2 : f1 = 0
      · refine Ev.pos a2 (Ev.bind (Ev.const (in_dec _ _ _)) ?_)
        by_cases a3 : 0 ≤ f2 ∧ f2 ≤ (ks.length : Int) - 1
        · refine Ev.pos (by simpa using a3) (Ev.bind (Ev.const (in_dec _ _ _)) ?_)
          by_cases a4 : 0 ≤ f3 ∧ f3 ≤ (ks.length : Int) - 1
          · rw [decide_eq_true a4]
            refine (j2 (!true) (fun _ => ⟨by omega, by omega⟩)).to ?_
            rw [if_neg (by decide)]
            by_cases a5 : rd ks f2 = (if f0 ≥ 7 then 2 else 1) ∧ rd ks f3 = (if f0 ≥ 7 then 2 else 1) ∧ (f0 = 7 → f3 = f2)
            · rw [if_pos a5, if_pos (c := OpOk f0 f1 f2 f3 ks) ⟨a1, a2, by omega, by omega, a5⟩]
            · rw [if_neg a5, if_neg (c := OpOk f0 f1 f2 f3 ks) (fun h => a5 h.2.2.2.2)]
          · rw [decide_eq_false a4]
            refine (j2 (!false) (fun h => by cases h)).to ?_
            rw [if_pos (by decide), if_neg (c := OpOk f0 f1 f2 f3 ks) (fun h => a4 (by have := h.2.2.2.1; omega))]
        · refine Ev.neg (by simpa using a3) ((j2 true (fun h => by cases h)).to ?_)
          rw [if_pos (by decide), if_neg (c := OpOk f0 f1 f2 f3 ks) (fun h => a3 (by have := h.2.2.1; omega))]
      · refine Ev.neg a2 ((j2 true (fun h => by cases h)).to ?_)
        rw [if_pos (by decide), if_neg (c := OpOk f0 f1 f2 f3 ks) (fun h => a2 h.2.1)]
    · refine Ev.neg (by simpa using a1) ((j2 true (fun h => by cases h)).to ?_)
      rw [if_pos (by decide), if_neg (c := OpOk f0 f1 f2 f3 ks) (fun h => a1 h.1)]
  have j1t : Ev (fun k => spec_l1Kind.j1 k ks true f0 f1 f2 f3) 1 := Ev.step (Ev.pos rfl (Ev.val _)) (fun k => spec_l1Kind.j1.eq_2 ..)
  have j1z : f0 = 0 ∨ f0 = 1 → Ev (fun k => spec_l1Kind.j1 k ks false f0 f1 f2 f3) 0 := by
    intro h
    refine Ev.step ?_ (fun k => spec_l1Kind.j1.eq_2 ..)
    refine Ev.neg (by decide) (Ev.bind (Ev.const (in_no (by omega))) (Ev.neg (by decide) ((j2 true (fun h => by cases h)).to (by rw [if_pos rfl]))))
  have j0t : Ev (fun k => spec_l1Kind.j0 k ks vars true f0 f1 f2 f3) 1 := Ev.step (Ev.pos rfl (Ev.val _)) (fun k => spec_l1Kind.j0.eq_2 ..)
  have j0f : f0 ≠ 0 → Ev (fun k => spec_l1Kind.j0 k ks vars false f0 f1 f2 f3) (kindAt ⟨f0, f1, f2, f3⟩ ks vars) := by
    intro n0
    refine Ev.step ?_ (fun k => spec_l1Kind.j0.eq_2 ..)
    rw [w1]
    by_cases c1 : f0 = 1
    · refine Ev.neg (by decide) (Ev.pos c1 (Ev.bind (Ev.const (in_dec _ _ _)) ?_))
      unfold kindAt
      dsimp only
      rw [if_neg n0, if_pos c1]
      by_cases c2 : 0 ≤ f1 ∧ f1 ≤ vars - 1
      · refine Ev.pos (by simpa using c2) ?_
        by_cases c3 : f2 = 0
        · refine Ev.pos c3 ?_
          by_cases c4 : f3 = 0
          · rw [if_pos (c := (0 ≤ f1 ∧ f1 < vars) ∧ f2 = 0 ∧ f3 = 0) ⟨by omega, c3, c4⟩, show (f3 == 0) = true by simp [c4]]
            exact j1t
          · rw [if_neg (fun h => c4 h.2.2), show (f3 == 0) = false by simp [c4]]
            exact j1z (.inr c1)
        · rw [if_neg (fun h => c3 h.2.1)]
          exact Ev.neg c3 (j1z (.inr c1))
      · rw [if_neg (c := (0 ≤ f1 ∧ f1 < vars) ∧ f2 = 0 ∧ f3 = 0) (fun h => c2 (by have := h.1; omega))]
        exact Ev.neg (by simpa using c2) (j1z (.inr c1))
    · exact Ev.neg (by decide) (Ev.neg c1 (j1 n0 c1))
  have j0z : f0 = 0 → Ev (fun k => spec_l1Kind.j0 k ks vars false f0 f1 f2 f3) 0 := by
    intro h
    refine Ev.step ?_ (fun k => spec_l1Kind.j0.eq_2 ..)
    exact Ev.neg (by decide) (Ev.neg (by omega) (j1z (.inl h)))
  unfold spec_l1Kind.f
  by_cases c0 : f0 = 0
  · refine Ev.pos c0 (Ev.bind (Ev.const (in_dec _ _ _)) ?_)
    unfold kindAt
    dsimp only
    rw [if_pos c0]
    by_cases c2 : -9999 ≤ f1 ∧ f1 ≤ 9999
    · refine Ev.pos (by simpa using c2) ?_
      by_cases c3 : f2 = 0
      · refine Ev.pos c3 ?_
        by_cases c4 : f3 = 0
        · rw [if_pos ⟨c2, c3, c4⟩, show (f3 == 0) = true by simp [c4]]
          exact j0t
        · rw [if_neg (fun h => c4 h.2.2), show (f3 == 0) = false by simp [c4]]
          exact j0z c0
      · rw [if_neg (fun h => c3 h.2.1)]
        exact Ev.neg c3 (j0z c0)
    · rw [if_neg (fun h => c2 h.1)]
      exact Ev.neg (by simpa using c2) (j0z c0)
  · exact Ev.neg c0 (j0f c0)
theorem spec_kinds_loop (l : List S73) (vars : Int) (hl : l.length ≤ 40) (hv : 0 ≤ vars ∧ vars ≤ 5) : ∀ (d i : Nat) (ks : List Int), i + d = l.length → ks.length = i → Ev (fun k => spec_KindsOf.l0 k l vars ks (i : Int)) (kindsRun l vars d i ks) := by
  intro d
  induction d with
  | zero =>
    intro i ks hi hk
    exact Ev.step (Ev.neg (by omega) (Ev.val _)) (fun k => spec_KindsOf.l0.eq_2 ..)
  | succ d ih =>
    intro i ks hi hk
    have hwi := wsucc i (by omega)
    refine Ev.step (Ev.pos (by omega) (Ev.pos (by omega) (Ev.bind (spec_kind (rd_T73 l (i : Int)) ks vars (by omega) (by omega)) ?_))) (fun k => spec_KindsOf.l0.eq_2 ..)
    unfold kindsRun
    by_cases h0 : kindAt (rd_T73 l (i : Int)) ks vars = 0
    · rw [if_pos h0]
      exact Ev.pos h0 (Ev.val _)
    · rw [if_neg h0]
      rw [hwi]
      exact Ev.neg h0 (Ev.pos (by omega) (ih (i + 1) _ (by omega) (by simp; omega)))
theorem spec_kinds (l : List S73) (vars : Int) : Ev (fun k => spec_KindsOf.f k l vars) (kindsL l vars) := by
  unfold spec_KindsOf.f kindsL
  refine Ev.bind (Ev.const (in_dec _ _ _)) ?_
  by_cases hv : 0 ≤ vars ∧ vars ≤ 5
  · refine Ev.pos (by simpa using hv) (Ev.bind (Ev.const (in_dec _ _ _)) ?_)
    by_cases hl : 1 ≤ (l.length : Int) ∧ (l.length : Int) ≤ 40
    · rw [if_pos ⟨hv, by omega⟩, decide_eq_true hl]
      refine Ev.step (Ev.neg (by decide) ?_) (fun k => spec_KindsOf.j0.eq_2 ..)
      exact spec_kinds_loop l vars (by omega) hv l.length 0 [] (by omega) rfl
    · rw [if_neg (fun h => hl (by omega)), decide_eq_false hl]
      exact Ev.step (Ev.pos (by decide) (Ev.val _)) (fun k => spec_KindsOf.j0.eq_2 ..)
  · rw [if_neg (fun h => hv h.1)]
    exact Ev.neg (by simpa using hv) (Ev.step (Ev.pos rfl (Ev.val _)) (fun k => spec_KindsOf.j0.eq_2 ..))
theorem spec_valid (l : List S73) (vars : Int) : Ev (fun k => spec_TermsValid.f k l vars) (!(kindsL l vars).isEmpty) := by
  unfold spec_TermsValid.f
  refine Ev.bind (spec_kinds l vars) (Ev.valEq ?_)
  cases kindsL l vars with
  | nil => rfl
  | cons x xs => simp
theorem impl_parts_ev (op : Int) : Ev (fun k => impl_parts.f k op) (if 2 ≤ op ∧ op ≤ 6 ∨ op = 8 ∨ op = 9 then 2 else if op = 7 then 1 else 0, if 2 ≤ op ∧ op ≤ 6 then 1 else if 7 ≤ op ∧ op ≤ 9 then 2 else 0, if 5 ≤ op ∧ op ≤ 9 then 2 else 1) := by
  have j1f : ∀ (_ : ¬ (2 ≤ op ∧ op ≤ 6)), Ev (fun k => impl_parts.j1 k op false) (if op = 8 ∨ op = 9 then 2 else if op = 7 then 1 else 0, if 7 ≤ op ∧ op ≤ 9 then 2 else 0, if 7 ≤ op ∧ op ≤ 9 then 2 else 1) := by
    intro h
    refine Ev.step (Ev.neg (by decide) ?_) (fun k => impl_parts.j1.eq_2 ..)
    by_cases h7 : op = 7
    · subst h7
      exact Ev.pos rfl (Ev.val _)
    · refine Ev.neg h7 ?_
      by_cases h8 : op = 8
      · subst h8
        exact Ev.pos rfl (Ev.val _)
      · refine Ev.neg h8 ?_
        by_cases h9 : op = 9
        · subst h9
          exact Ev.pos rfl (Ev.val _)
        · refine Ev.neg h9 (Ev.valEq ?_)
          rw [if_neg (by omega), if_neg (by omega), if_neg (by omega), if_neg (by omega)]
  have j1t : Ev (fun k => impl_parts.j1 k op true) (2, 1, 2) := Ev.step (Ev.pos rfl (Ev.val _)) (fun k => impl_parts.j1.eq_2 ..)
  have j0t : Ev (fun k => impl_parts.j0 k op true) (2, 1, 1) := Ev.step (Ev.pos rfl (Ev.val _)) (fun k => impl_parts.j0.eq_2 ..)
  unfold impl_parts.f
  by_cases h2 : op = 2
  · subst h2
    exact Ev.pos rfl j0t
  refine Ev.neg h2 ?_
  by_cases h3 : op = 3
  · subst h3
    exact Ev.pos rfl j0t
  refine Ev.neg h3 ?_
  by_cases h4 : op = 4
  · subst h4
    exact j0t
  rw [show (op == 4) = false by simp [h4]]
  refine Ev.step (Ev.neg (by decide) ?_) (fun k => impl_parts.j0.eq_2 ..)
  by_cases h5 : op = 5
  · subst h5
    exact Ev.pos rfl j1t
  refine Ev.neg h5 ?_
  by_cases h6 : op = 6
  · subst h6
    exact j1t
  rw [show (op == 6) = false by simp [h6]]
  refine (j1f (by omega)).to ?_
  rw [if_neg (c := 2 ≤ op ∧ op ≤ 6) (by omega)]
  have e1 : (2 ≤ op ∧ op ≤ 6 ∨ op = 8 ∨ op = 9) ↔ (op = 8 ∨ op = 9) := by omega
  have e2 : (5 ≤ op ∧ op ≤ 9) ↔ (7 ≤ op ∧ op ≤ 9) := by omega
  simp only [e1, e2]
theorem impl_kinds_loop (l : List S73) (vars : Int) (hl : l.length ≤ 40) (hv : 0 ≤ vars ∧ vars ≤ 5) : ∀ (d i : Nat) (ks : List Int), i + d = l.length → ks.length = i → Ev (fun k => impl_kindsOf.l0 k vars ks l (l.length : Int) (i : Int)) (kindsRun l vars d i ks) := by
  intro d
  have w1 : wrap64 (vars - 1) = vars - 1 := w_id (by omega) (by omega)
  induction d with
  | zero =>
    intro i ks hi hk
    exact Ev.step (Ev.neg (by omega) (Ev.val _)) (fun k => impl_kindsOf.l0.eq_2 ..)
  | succ d ih =>
    intro i ks hi hk
    have hwi := wsucc i (by omega)
    have w2 : wrap64 ((i : Int) - 1) = (i : Int) - 1 := w_id (by omega) (by omega)
    refine Ev.step (Ev.pos (by omega) (Ev.pos (by omega) (Ev.pos (by omega) (Ev.bind (impl_parts_ev _) (Ev.bind (Ev.const (in_dec _ _ _)) ?_))))) (fun k => impl_kindsOf.l0.eq_2 ..)
    rw [hwi, w1, w2]
    unfold kindsRun
    have ih' := fun c => ih (i + 1) (ks ++ [c]) (by omega) (by simp; omega)
    generalize rd_T73 l (i : Int) = t
    obtain ⟨f0, f1, f2, f3⟩ := t
    unfold kindAt
    simp only
    have hok : ks.length < 17592186044416 := by omega
    by_cases c0 : f0 = 0
    · subst c0
      simp only [if_true]
      refine Ev.bind (Ev.const (in_dec _ _ _)) ?_
      by_cases c2 : -9999 ≤ f1 ∧ f1 ≤ 9999
      · refine Ev.pos (by simpa using c2) ?_
        by_cases c3 : f2 = 0
        · refine Ev.pos c3 ?_
          by_cases c4 : f3 = 0
          · rw [if_pos (c := (-9999 ≤ f1 ∧ f1 ≤ 9999) ∧ f2 = 0 ∧ f3 = 0) ⟨c2, c3, c4⟩]
            exact Ev.pos c4 (Ev.pos hok (ih' 1))
          · rw [if_neg (c := (-9999 ≤ f1 ∧ f1 ≤ 9999) ∧ f2 = 0 ∧ f3 = 0) (fun h => c4 h.2.2)]
            exact Ev.neg c4 (Ev.val _)
        · rw [if_neg (c := (-9999 ≤ f1 ∧ f1 ≤ 9999) ∧ f2 = 0 ∧ f3 = 0) (fun h => c3 h.2.1)]
          exact Ev.neg c3 (Ev.val _)
      · rw [if_neg (c := (-9999 ≤ f1 ∧ f1 ≤ 9999) ∧ f2 = 0 ∧ f3 = 0) (fun h => c2 h.1)]
        exact Ev.neg (by simpa using c2) (Ev.val _)
    refine Ev.neg c0 ?_
    rw [if_neg (c := f0 = 0) c0]
    by_cases c1 : f0 = 1
    · subst c1
      simp only [if_true]
      refine Ev.bind (Ev.const (in_dec _ _ _)) ?_
      by_cases c2 : 0 ≤ f1 ∧ f1 ≤ vars - 1
      · refine Ev.pos (by simpa using c2) ?_
        by_cases c3 : f2 = 0
        · refine Ev.pos c3 ?_
          by_cases c4 : f3 = 0
          · rw [if_pos (c := (0 ≤ f1 ∧ f1 < vars) ∧ f2 = 0 ∧ f3 = 0) ⟨by omega, c3, c4⟩]
            exact Ev.pos c4 (Ev.pos hok (ih' 1))
          · rw [if_neg (c := (0 ≤ f1 ∧ f1 < vars) ∧ f2 = 0 ∧ f3 = 0) (fun h => c4 h.2.2)]
            exact Ev.neg c4 (Ev.val _)
        · rw [if_neg (c := (0 ≤ f1 ∧ f1 < vars) ∧ f2 = 0 ∧ f3 = 0) (fun h => c3 h.2.1)]
          exact Ev.neg c3 (Ev.val _)
      · rw [if_neg (c := (0 ≤ f1 ∧ f1 < vars) ∧ f2 = 0 ∧ f3 = 0) (fun h => c2 (by omega))]
        exact Ev.neg (by simpa using c2) (Ev.val _)
    refine Ev.neg c1 ?_
    rw [if_neg (c := f0 = 1) c1]
    by_cases a1 : 2 ≤ f0 ∧ f0 ≤ 9
    · refine Ev.pos (by simp; omega) ?_
      have ew : (if 2 ≤ f0 ∧ f0 ≤ 6 then (1 : Int) else if 7 ≤ f0 ∧ f0 ≤ 9 then 2 else 0) = (if f0 ≥ 7 then 2 else 1) := by
        by_cases h7 : f0 ≥ 7
        · rw [if_neg (by omega), if_pos (by omega), if_pos h7]
        · rw [if_pos (by omega), if_neg h7]
      have ek : (if 5 ≤ f0 ∧ f0 ≤ 9 then (2 : Int) else 1) = (if f0 ≥ 5 then 2 else 1) := by
        by_cases h5 : f0 ≥ 5
        · rw [if_pos (by omega), if_pos h5]
        · rw [if_neg (by omega), if_neg h5]
      have en : ((if 2 ≤ f0 ∧ f0 ≤ 6 ∨ f0 = 8 ∨ f0 = 9 then (2 : Int) else if f0 = 7 then 1 else 0) = 2) ↔ f0 ≠ 7 := by
        by_cases h7 : f0 = 7
        · rw [if_neg (by omega), if_pos h7]
          simp [h7]
        · rw [if_pos (by omega)]
          simp [h7]
      have nz : (if f0 ≥ 5 then (2 : Int) else 1) ≠ 0 := by split <;> decide
      simp only [ew, ek]
      by_cases a2 : f1 = 0
      · refine Ev.pos a2 (Ev.bind (Ev.const (in_dec _ _ _)) ?_)
        by_cases a3 : 0 ≤ f2 ∧ f2 ≤ (i : Int) - 1
        · refine Ev.pos (by simpa using a3) (Ev.bind (Ev.const (in_dec _ _ _)) ?_)
          by_cases a4 : 0 ≤ f3 ∧ f3 ≤ (i : Int) - 1
          · refine Ev.pos (by simpa using a4) (Ev.pos a3.1 (Ev.pos (by omega) ?_))
            by_cases a5 : rd ks f2 = (if f0 ≥ 7 then 2 else 1)
            · refine Ev.pos a5 (Ev.pos a4.1 (Ev.pos (by omega) ?_))
              by_cases a6 : rd ks f3 = (if f0 ≥ 7 then 2 else 1)
              · refine Ev.pos a6 ?_
                by_cases a7 : f0 = 7 → f3 = f2
                · rw [if_pos (c := OpOk f0 f1 f2 f3 ks) ⟨a1, a2, by omega, by omega, a5, a6, a7⟩, if_neg nz]
                  by_cases h7 : f0 = 7
                  · exact Ev.neg (fun h => absurd h7 (en.1 h)) (Ev.pos (a7 h7).symm (Ev.pos hok (ih' _)))
                  · exact Ev.pos (en.2 h7) (Ev.pos hok (ih' _))
                · rw [if_neg (c := OpOk f0 f1 f2 f3 ks) (fun h => a7 h.2.2.2.2.2.2), if_pos rfl]
                  rw [Classical.not_imp] at a7
                  exact Ev.neg (fun h => absurd a7.1 (en.1 h)) (Ev.neg (fun h => a7.2 h.symm) (Ev.val _))
              · rw [if_neg (c := OpOk f0 f1 f2 f3 ks) (fun h => a6 h.2.2.2.2.2.1), if_pos rfl]
                exact Ev.neg a6 (Ev.val _)
            · rw [if_neg (c := OpOk f0 f1 f2 f3 ks) (fun h => a5 h.2.2.2.2.1), if_pos rfl]
              exact Ev.neg a5 (Ev.val _)
          · rw [if_neg (c := OpOk f0 f1 f2 f3 ks) (fun h => a4 (by have := h.2.2.2.1; omega)), if_pos rfl]
            exact Ev.neg (by simpa using a4) (Ev.val _)
        · rw [if_neg (c := OpOk f0 f1 f2 f3 ks) (fun h => a3 (by have := h.2.2.1; omega)), if_pos rfl]
          exact Ev.neg (by simpa using a3) (Ev.val _)
      · rw [if_neg (c := OpOk f0 f1 f2 f3 ks) (fun h => a2 h.2.1), if_pos rfl]
        exact Ev.neg a2 (Ev.val _)
    · rw [if_neg (c := OpOk f0 f1 f2 f3 ks) (fun h => a1 h.1), if_pos rfl]
      exact Ev.neg (by simp; omega) (Ev.val _)
theorem impl_kinds (l : List S73) (vars : Int) : Ev (fun k => impl_kindsOf.f k l vars) (kindsL l vars) := by
  unfold impl_kindsOf.f kindsL
  refine Ev.bind (Ev.const (in_dec _ _ _)) ?_
  by_cases hv : 0 ≤ vars ∧ vars ≤ 5
  · refine Ev.pos (by simpa using hv) (Ev.bind (Ev.const (in_dec _ _ _)) ?_)
    by_cases hl : 1 ≤ (l.length : Int) ∧ (l.length : Int) ≤ 40
    · rw [if_pos ⟨hv, by omega⟩, decide_eq_true hl]
      refine Ev.step (Ev.neg (by decide) (Ev.pos (by omega) (Ev.pos (by omega) ?_))) (fun k => impl_kindsOf.j0.eq_2 ..)
      exact impl_kinds_loop l vars (by omega) hv l.length 0 [] (by omega) rfl
    · rw [if_neg (fun h => hl (by omega)), decide_eq_false hl]
      exact Ev.step (Ev.pos (by decide) (Ev.val _)) (fun k => impl_kindsOf.j0.eq_2 ..)
  · rw [if_neg (fun h => hv h.1)]
    exact Ev.neg (by simpa using hv) (Ev.step (Ev.pos rfl (Ev.val _)) (fun k => impl_kindsOf.j0.eq_2 ..))
theorem impl_valid (l : List S73) (vars : Int) : Ev (fun k => impl_TermsValid.f k l vars) (!(kindsL l vars).isEmpty) := by
  unfold impl_TermsValid.f
  exact Ev.bind (impl_kinds l vars) (Ev.val _)
/-- What the kinds are good for. -/
theorem kindsRun_typed (l : List S73) (vars : Int) : ∀ (d i : Nat) (ks : List Int), i + d = l.length → ks.length = i → (∀ j : Nat, j < i → kindAt (rd_T73 l (j : Int)) (ks.take j) vars = rd ks (j : Int) ∧ rd ks (j : Int) ≠ 0) → kindsRun l vars d i ks ≠ [] → Typed l vars (kindsRun l vars d i ks) := by
  intro d
  induction d with
  | zero =>
    intro i ks hi hk h _
    exact ⟨by unfold kindsRun; omega, fun j hj => h j (by omega)⟩
  | succ d ih =>
    intro i ks hi hk h
    unfold kindsRun
    by_cases h0 : kindAt (rd_T73 l (i : Int)) ks vars = 0
    · rw [if_pos h0]
      intro h
      exact absurd rfl h
    · rw [if_neg h0]
      refine ih (i + 1) _ (by omega) (by simp; omega) (fun j hj => ?_)
      by_cases e : j = i
      · subst e
        subst hk
        rw [List.take_append_of_le_length (Nat.le_refl _), List.take_of_length_le (Nat.le_refl _), rd_app_eq]
        exact ⟨rfl, h0⟩
      · rw [List.take_append_of_le_length (by omega), rd_app_lt (by omega)]
        exact h j (by omega)
theorem kindsL_typed {l : List S73} {vars : Int} (h : kindsL l vars ≠ []) : (0 ≤ vars ∧ vars ≤ 5) ∧ (1 ≤ l.length ∧ l.length ≤ 40) ∧ Typed l vars (kindsL l vars) := by
  unfold kindsL at h ⊢
  by_cases c : (0 ≤ vars ∧ vars ≤ 5) ∧ (1 ≤ l.length ∧ l.length ≤ 40)
  · rw [if_pos c] at h ⊢
    exact ⟨c.1, c.2, kindsRun_typed l vars l.length 0 [] (by omega) rfl (fun j hj => by omega) h⟩
  · rw [if_neg c] at h
    exact absurd rfl h
/-! #### terms: their values -/
def heldZ (x : Int) : Int := if x > 9999 then 9999 else if x < -9999 then -9999 else x
/-- What an operation makes of two values. -/
def doZ (op a b : Int) : Int :=
  if op = 2 then heldZ (a + b) else if op = 3 then heldZ (a - b) else if op = 4 then heldZ (a * b)
  else if op = 5 then (if a < b then 1 else 0) else if op = 6 then (if a = b then 1 else 0)
  else if op = 7 then 1 - a else if op = 8 then a * b else if a + b > 0 then 1 else 0
def valAt (t : S73) (vs st : List Int) : Int := if t.f0 = 0 then t.f1 else if t.f0 = 1 then rd st t.f1 else doZ t.f0 (rd vs t.f2) (rd vs t.f3)
def valsRun (l : List S73) (st : List Int) : Nat → Nat → List Int → List Int
  | 0, _, vs => vs
  | d + 1, i, vs => valsRun l st d (i + 1) (vs ++ [valAt (rd_T73 l (i : Int)) vs st])
/-- The values of terms. -/
def valsL (l : List S73) (st : List Int) : List Int := valsRun l st l.length 0 []
def StOk (st : List Int) : Prop := ∀ j : Nat, j < st.length → -9999 ≤ rd st (j : Int) ∧ rd st (j : Int) ≤ 9999
/-- Values that are of their kinds. -/
def Kept2 (ks vs : List Int) : Prop := ∀ j : Nat, j < vs.length → (-9999 ≤ rd vs (j : Int) ∧ rd vs (j : Int) ≤ 9999) ∧ (rd ks (j : Int) = 2 → rd vs (j : Int) = 0 ∨ rd vs (j : Int) = 1)
theorem heldZ_in (x : Int) : -9999 ≤ heldZ x ∧ heldZ x ≤ 9999 := by
  unfold heldZ
  split
  · omega
  · split <;> omega
theorem spec_held (x : Int) : spec_l1Held.f x = some (heldZ x) := by
  unfold spec_l1Held.f heldZ
  split
  · rfl
  · split <;> rfl
theorem impl_held_is (x : Int) : impl_held.f x = some (heldZ x) := by
  unfold impl_held.f heldZ
  congr 1
  unfold mx mn
  split <;> split <;> split <;> (try split) <;> omega
theorem mul_small {a b : Int} (ha : -9999 ≤ a ∧ a ≤ 9999) (hb : -9999 ≤ b ∧ b ≤ 9999) : -99980001 ≤ a * b ∧ a * b ≤ 99980001 := by
  have h1 : (a * b).natAbs ≤ 9999 * 9999 := by
    rw [Int.natAbs_mul]
    exact Nat.mul_le_mul (by omega) (by omega)
  omega
theorem spec_do {op a b : Int} (ha : -9999 ≤ a ∧ a ≤ 9999) (hb : -9999 ≤ b ∧ b ≤ 9999) : spec_l1Do.f op a b = some (doZ op a b) := by
  have hm := mul_small ha hb
  unfold spec_l1Do.f doZ
  rw [w_id (x := a + b) (by omega) (by omega), w_id (x := a - b) (by omega) (by omega), w_id (x := a * b) (by omega) (by omega), w_id (x := 1 - a) (by omega) (by omega), spec_held, spec_held, spec_held]
  simp only [Option.bind_some]
  by_cases h2 : op = 2
  · rw [if_pos h2, if_pos h2]
  rw [if_neg h2, if_neg h2]
  by_cases h3 : op = 3
  · rw [if_pos h3, if_pos h3]
  rw [if_neg h3, if_neg h3]
  by_cases h4 : op = 4
  · rw [if_pos h4, if_pos h4]
  rw [if_neg h4, if_neg h4]
  unfold spec_l1Truth.f
  by_cases h5 : op = 5
  · rw [if_pos h5, if_pos h5]
    by_cases c : a < b <;> simp [c]
  rw [if_neg h5, if_neg h5]
  by_cases h6 : op = 6
  · rw [if_pos h6, if_pos h6]
    by_cases c : a = b <;> simp [c]
  rw [if_neg h6, if_neg h6]
  by_cases h7 : op = 7
  · rw [if_pos h7, if_pos h7]
  rw [if_neg h7, if_neg h7]
  by_cases h8 : op = 8
  · rw [if_pos h8, if_pos h8]
  rw [if_neg h8, if_neg h8]
  by_cases c : a + b > 0 <;> simp [c]
theorem impl_do_is {op a b : Int} (ha : -9999 ≤ a ∧ a ≤ 9999) (hb : -9999 ≤ b ∧ b ≤ 9999) (hop : op ≤ 9) (ht : 8 ≤ op → (a = 0 ∨ a = 1) ∧ (b = 0 ∨ b = 1)) (h2 : 2 ≤ op) : impl_do.f op a b = some (doZ op a b) := by
  have hm := mul_small ha hb
  unfold impl_do.f doZ
  rw [w_id (x := a + b) (by omega) (by omega), w_id (x := a - b) (by omega) (by omega), w_id (x := a * b) (by omega) (by omega), w_id (x := 1 - a) (by omega) (by omega), impl_held_is, impl_held_is, impl_held_is]
  simp only [Option.bind_some]
  by_cases h2 : op = 2
  · rw [if_pos h2, if_pos h2]
  rw [if_neg h2, if_neg h2]
  by_cases h3 : op = 3
  · rw [if_pos h3, if_pos h3]
  rw [if_neg h3, if_neg h3]
  by_cases h4 : op = 4
  · rw [if_pos h4, if_pos h4]
  rw [if_neg h4, if_neg h4]
  unfold impl_bit.f
  by_cases h5 : op = 5
  · rw [if_pos h5, if_pos h5]
    by_cases c : a < b <;> simp [c]
  rw [if_neg h5, if_neg h5]
  by_cases h6 : op = 6
  · rw [if_pos h6, if_pos h6]
    by_cases c : a = b <;> simp [c]
  rw [if_neg h6, if_neg h6]
  by_cases h7 : op = 7
  · rw [if_pos h7, if_pos h7]
  rw [if_neg h7, if_neg h7]
  obtain ⟨h0, h1⟩ := ht (by omega)
  by_cases h8 : op = 8
  · rw [if_pos h8, if_pos h8]
    unfold mn
    rcases h0 with rfl | rfl <;> rcases h1 with rfl | rfl <;> rfl
  rw [if_neg h8, if_neg h8]
  unfold mx
  rcases h0 with rfl | rfl <;> rcases h1 with rfl | rfl <;> rfl
theorem doZ_in {op a b : Int} (ha : -9999 ≤ a ∧ a ≤ 9999) (hb : -9999 ≤ b ∧ b ≤ 9999) (ht : 7 ≤ op → (a = 0 ∨ a = 1) ∧ (b = 0 ∨ b = 1)) : (-9999 ≤ doZ op a b ∧ doZ op a b ≤ 9999) ∧ (5 ≤ op → doZ op a b = 0 ∨ doZ op a b = 1) := by
  unfold doZ
  by_cases h2 : op = 2
  · rw [if_pos h2]
    exact ⟨heldZ_in _, by omega⟩
  rw [if_neg h2]
  by_cases h3 : op = 3
  · rw [if_pos h3]
    exact ⟨heldZ_in _, by omega⟩
  rw [if_neg h3]
  by_cases h4 : op = 4
  · rw [if_pos h4]
    exact ⟨heldZ_in _, by omega⟩
  rw [if_neg h4]
  by_cases h5 : op = 5
  · rw [if_pos h5]
    split <;> omega
  rw [if_neg h5]
  by_cases h6 : op = 6
  · rw [if_pos h6]
    split <;> omega
  rw [if_neg h6]
  by_cases h7 : op = 7
  · rw [if_pos h7]
    have := ht (by omega)
    omega
  rw [if_neg h7]
  by_cases h8 : op = 8
  · rw [if_pos h8]
    obtain ⟨h0, h1⟩ := ht (by omega)
    rcases h0 with rfl | rfl <;> rcases h1 with rfl | rfl <;> simp
  rw [if_neg h8]
  split <;> omega
/-- What a term's kind tells. -/
theorem kindAt_cases {t : S73} {ks : List Int} {vars : Int} (h : kindAt t ks vars ≠ 0) :
    (t.f0 = 0 ∧ (-9999 ≤ t.f1 ∧ t.f1 ≤ 9999) ∧ t.f2 = 0 ∧ t.f3 = 0 ∧ kindAt t ks vars = 1) ∨ (t.f0 = 1 ∧ (0 ≤ t.f1 ∧ t.f1 < vars) ∧ t.f2 = 0 ∧ t.f3 = 0 ∧ kindAt t ks vars = 1) ∨
    ((2 ≤ t.f0 ∧ t.f0 ≤ 9) ∧ t.f1 = 0 ∧ (0 ≤ t.f2 ∧ t.f2 < ks.length) ∧ (0 ≤ t.f3 ∧ t.f3 < ks.length) ∧ rd ks t.f2 = (if t.f0 ≥ 7 then 2 else 1) ∧ rd ks t.f3 = (if t.f0 ≥ 7 then 2 else 1) ∧ (t.f0 = 7 → t.f3 = t.f2) ∧ kindAt t ks vars = (if t.f0 ≥ 5 then 2 else 1)) := by
  unfold kindAt at h ⊢
  by_cases c0 : t.f0 = 0
  · rw [if_pos c0] at h ⊢
    by_cases c : (-9999 ≤ t.f1 ∧ t.f1 ≤ 9999) ∧ t.f2 = 0 ∧ t.f3 = 0
    · rw [if_pos c]
      exact .inl ⟨c0, c.1, c.2.1, c.2.2, rfl⟩
    · rw [if_neg c] at h
      exact absurd rfl h
  rw [if_neg c0] at h ⊢
  by_cases c1 : t.f0 = 1
  · rw [if_pos c1] at h ⊢
    by_cases c : (0 ≤ t.f1 ∧ t.f1 < vars) ∧ t.f2 = 0 ∧ t.f3 = 0
    · rw [if_pos c]
      exact .inr (.inl ⟨c1, c.1, c.2.1, c.2.2, rfl⟩)
    · rw [if_neg c] at h
      exact absurd rfl h
  rw [if_neg c1] at h ⊢
  by_cases c : OpOk t.f0 t.f1 t.f2 t.f3 ks
  · rw [if_pos c]
    exact .inr (.inr ⟨c.1, c.2.1, c.2.2.1, c.2.2.2.1, c.2.2.2.2.1, c.2.2.2.2.2.1, c.2.2.2.2.2.2, rfl⟩)
  · rw [if_neg c] at h
    exact absurd rfl h
theorem rd_take {l : List Int} {n : Nat} {x : Int} (h0 : 0 ≤ x) (h1 : x < n) : rd (l.take n) x = rd l x := by
  obtain ⟨m, rfl⟩ := Int.eq_ofNat_of_zero_le h0
  rw [rd_nat, rd_nat, List.getD_eq_getElem?_getD, List.getD_eq_getElem?_getD, List.getElem?_take_of_lt (by omega)]
/-- What stands at place i of an expression: the operands lie ahead of it, and their values are of their kinds. -/
theorem typed_step {l : List S73} {vars : Int} {ks vs st : List Int} (T : Typed l vars ks) (hS : StOk st) (hv : vars ≤ st.length) {i : Nat} (hi : i < l.length) (hvs : vs.length = i) (K : Kept2 ks vs) :
    let t := rd_T73 l (i : Int)
    (t.f0 = 0 ∨ (t.f0 = 1 ∧ 0 ≤ t.f1 ∧ t.f1 < st.length) ∨ ((2 ≤ t.f0 ∧ t.f0 ≤ 9) ∧ (0 ≤ t.f2 ∧ t.f2 < i) ∧ (0 ≤ t.f3 ∧ t.f3 < i) ∧ (-9999 ≤ rd vs t.f2 ∧ rd vs t.f2 ≤ 9999) ∧ (-9999 ≤ rd vs t.f3 ∧ rd vs t.f3 ≤ 9999) ∧ (7 ≤ t.f0 → (rd vs t.f2 = 0 ∨ rd vs t.f2 = 1) ∧ (rd vs t.f3 = 0 ∨ rd vs t.f3 = 1)))) ∧ Kept2 ks (vs ++ [valAt t vs st]) := by
  intro t
  obtain ⟨hl, hT⟩ := T
  obtain ⟨e, ne⟩ := hT i hi
  have hkl : (ks.take i).length = i := by rw [List.length_take]; omega
  have grow : ∀ v : Int, (-9999 ≤ v ∧ v ≤ 9999) → (rd ks (i : Int) = 2 → v = 0 ∨ v = 1) → Kept2 ks (vs ++ [v]) := by
    intro v h1 h2 j hj
    by_cases c : j = i
    · subst c
      rw [show ((j : Nat) : Int) = (vs.length : Int) by omega, rd_app_eq]
      exact ⟨h1, by rw [hvs]; exact h2⟩
    · have : j < vs.length := by simp at hj; omega
      rw [rd_app_lt this]
      exact K j this
  have hc := kindAt_cases (t := t) (ks := ks.take i) (vars := vars) (by rw [e]; exact ne)
  rw [e] at hc
  rcases hc with ⟨h0, h1, h2, h3, h4⟩ | ⟨h0, h1, h2, h3, h4⟩ | ⟨h0, h1, h2, h3, h5, h6, h7, h8⟩
  · refine ⟨.inl h0, grow _ ?_ (by omega)⟩
    unfold valAt
    rw [if_pos h0]
    exact h1
  · refine ⟨.inr (.inl ⟨h0, h1.1, by omega⟩), grow _ ?_ (by omega)⟩
    unfold valAt
    rw [if_neg (by omega), if_pos h0]
    obtain ⟨m, hm⟩ := Int.eq_ofNat_of_zero_le h1.1
    rw [hm]
    exact hS m (by omega)
  · rw [hkl] at h2 h3
    rw [rd_take h2.1 h2.2] at h5
    rw [rd_take h3.1 h3.2] at h6
    obtain ⟨a, ha⟩ := Int.eq_ofNat_of_zero_le h2.1
    obtain ⟨b, hb⟩ := Int.eq_ofNat_of_zero_le h3.1
    have ka := K a (by omega)
    have kb := K b (by omega)
    rw [← ha] at ka
    rw [← hb] at kb
    have tr : 7 ≤ t.f0 → (rd vs t.f2 = 0 ∨ rd vs t.f2 = 1) ∧ (rd vs t.f3 = 0 ∨ rd vs t.f3 = 1) := by
      intro h
      rw [if_pos h] at h5 h6
      exact ⟨ka.2 h5, kb.2 h6⟩
    obtain ⟨d1, d2⟩ := doZ_in ka.1 kb.1 tr
    refine ⟨.inr (.inr ⟨h0, h2, h3, ka.1, kb.1, tr⟩), grow _ ?_ ?_⟩
    · unfold valAt
      rw [if_neg (by omega), if_neg (by omega)]
      exact d1
    · intro h
      unfold valAt
      rw [if_neg (by omega), if_neg (by omega)]
      refine d2 ?_
      rw [h8] at h
      by_cases c : t.f0 ≥ 5
      · exact c
      · rw [if_neg c] at h
        omega
theorem valsRun_length (l : List S73) (st : List Int) : ∀ (d i : Nat) (vs : List Int), (valsRun l st d i vs).length = vs.length + d := by
  intro d
  induction d with
  | zero => intro i vs; rfl
  | succ d ih =>
    intro i vs
    unfold valsRun
    rw [ih, List.length_append, List.length_singleton]
    omega
theorem valsL_length (l : List S73) (st : List Int) : (valsL l st).length = l.length := by
  unfold valsL
  rw [valsRun_length]
  simp
theorem spec_vals_loop (l : List S73) (vars : Int) (ks st : List Int) (T : Typed l vars ks) (hS : StOk st) (hv : vars ≤ st.length) (hl : l.length ≤ 40) : ∀ (d i : Nat) (vs : List Int), i + d = l.length → vs.length = i → Kept2 ks vs →
    Ev (fun k => spec_l1Values.l0 k l st vs (i : Int)) (valsRun l st d i vs) := by
  intro d
  induction d with
  | zero =>
    intro i vs hi hvs K
    exact Ev.step (Ev.neg (by omega) (Ev.val _)) (fun k => spec_l1Values.l0.eq_2 ..)
  | succ d ih =>
    intro i vs hi hvs K
    have hwi := wsucc i (by omega)
    obtain ⟨hc, K'⟩ := typed_step T hS hv (i := i) (by omega) hvs K
    have ih' := ih (i + 1) _ (by omega) (by simp; omega) K'
    refine Ev.step (Ev.pos (by omega) (Ev.pos (by omega) ?_)) (fun k => spec_l1Values.l0.eq_2 ..)
    rw [hwi]
    unfold valsRun
    generalize rd_T73 l (i : Int) = t at hc ih' ⊢
    unfold valAt at ih' ⊢
    rcases hc with h0 | ⟨h0, h1, h2⟩ | ⟨h0, h2, h3, va, vb, _⟩
    · rw [if_pos h0] at ih' ⊢
      exact Ev.pos h0 (Ev.pos (by omega) ih')
    · rw [if_neg (by omega), if_pos h0] at ih' ⊢
      exact Ev.neg (by omega) (Ev.pos h0 (Ev.pos h1 (Ev.pos h2 (Ev.pos (by omega) ih'))))
    · rw [if_neg (by omega), if_neg (by omega)] at ih' ⊢
      exact Ev.neg (by omega) (Ev.neg (by omega) (Ev.pos h2.1 (Ev.pos (by omega) (Ev.pos h3.1 (Ev.pos (by omega) (Ev.bind (Ev.const (spec_do va vb)) (Ev.pos (by omega) ih')))))))
theorem spec_vals (l : List S73) (vars : Int) (ks st : List Int) (T : Typed l vars ks) (hS : StOk st) (hv : vars ≤ st.length) (hl : l.length ≤ 40) : Ev (fun k => spec_l1Values.f k l st) (valsL l st) := by
  unfold spec_l1Values.f valsL
  exact spec_vals_loop l vars ks st T hS hv hl l.length 0 [] (by omega) rfl (fun j hj => absurd hj (by simp))
theorem rd_set_take {l vs : List Int} {i : Nat} {v : Int} (hi : i < l.length) (hvs : vs.length = i) (h : ∀ j : Nat, j < i → rd l (j : Int) = rd vs (j : Int)) : ∀ j : Nat, j < i + 1 → rd (l.set i v) (j : Int) = rd (vs ++ [v]) (j : Int) := by
  intro j hj
  by_cases e : j = i
  · subst e
    rw [rd_set_eq hi, show ((j : Nat) : Int) = (vs.length : Int) by omega, rd_app_eq]
  · rw [rd_set_ne (by omega), rd_app_lt (by omega)]
    exact h j (by omega)
theorem impl_vals_loop (l : List S73) (vars : Int) (ks st : List Int) (T : Typed l vars ks) (hS : StOk st) (hv : vars ≤ st.length) (hl1 : 1 ≤ l.length) (hl : l.length ≤ 40) : ∀ (d i : Nat) (vs xs : List Int), i + d = l.length → vs.length = i → Kept2 ks vs → xs.length = l.length → (∀ j : Nat, j < i → rd xs (j : Int) = rd vs (j : Int)) →
    Ev (fun k => impl_eval.l0 k st xs l (l.length : Int) (i : Int)) (rd (valsRun l st d i vs) ((l.length : Int) - 1)) := by
  intro d
  induction d with
  | zero =>
    intro i vs xs hi hvs K hx h
    have hw : wrap64 ((xs.length : Int) - 1) = ((l.length - 1 : Nat) : Int) := by rw [w_id (by omega) (by omega)]; omega
    refine Ev.step (Ev.neg (by omega) (Ev.pos (by omega) (Ev.pos (by omega) (Ev.valEq ?_)))) (fun k => impl_eval.l0.eq_2 ..)
    rw [hw, h _ (by omega)]
    unfold valsRun
    congr 1
    omega
  | succ d ih =>
    intro i vs xs hi hvs K hx h
    have hwi := wsucc i (by omega)
    obtain ⟨hc, K'⟩ := typed_step T hS hv (i := i) (by omega) hvs K
    have ih' := ih (i + 1) _ (xs.set i (valAt (rd_T73 l (i : Int)) vs st)) (by omega) (by simp; omega) K' (by simpa using hx) (rd_set_take (by omega) hvs h)
    refine Ev.step (Ev.pos (by omega) (Ev.pos (by omega) (Ev.pos (by omega) ?_))) (fun k => impl_eval.l0.eq_2 ..)
    rw [hwi, Int.toNat_natCast]
    unfold valsRun
    generalize rd_T73 l (i : Int) = t at hc ih' ⊢
    unfold valAt at ih' ⊢
    rcases hc with h0 | ⟨h0, h1, h2⟩ | ⟨h0, h2, h3, va, vb, tr⟩
    · rw [if_pos h0] at ih' ⊢
      exact Ev.pos h0 (Ev.pos (by omega) ih')
    · rw [if_neg (by omega), if_pos h0] at ih' ⊢
      exact Ev.neg (by omega) (Ev.pos h0 (Ev.pos h1 (Ev.pos h2 (Ev.pos (by omega) ih'))))
    · rw [if_neg (by omega), if_neg (by omega)] at ih' ⊢
      obtain ⟨a, ha⟩ := Int.eq_ofNat_of_zero_le h2.1
      obtain ⟨b, hb⟩ := Int.eq_ofNat_of_zero_le h3.1
      have ea : rd xs t.f2 = rd vs t.f2 := by rw [ha]; exact h a (by omega)
      have eb : rd xs t.f3 = rd vs t.f3 := by rw [hb]; exact h b (by omega)
      rw [ea, eb]
      exact Ev.neg (by omega) (Ev.neg (by omega) (Ev.pos h2.1 (Ev.pos (by omega) (Ev.pos h3.1 (Ev.pos (by omega) (Ev.bind (Ev.const (impl_do_is va vb h0.2 (fun h => tr (by omega)) h0.1)) (Ev.pos (by omega) ih')))))))
theorem impl_eval_is (l : List S73) (vars : Int) (ks st : List Int) (T : Typed l vars ks) (hS : StOk st) (hv : vars ≤ st.length) (hl1 : 1 ≤ l.length) (hl : l.length ≤ 40) : Ev (fun k => impl_eval.f k l st) (rd (valsL l st) ((l.length : Int) - 1)) := by
  unfold impl_eval.f valsL
  refine Ev.pos (by omega) (Ev.pos (by omega) ?_)
  exact impl_vals_loop l vars ks st T hS hv hl1 hl l.length 0 [] _ (by omega) rfl (fun j hj => absurd hj (by simp)) (by simp) (fun j hj => by omega)
/-- The value of an expression in a state, if it is one. -/
def evalL (l : List S73) (st : List Int) : Int := rd (valsL l st) ((l.length : Int) - 1)
theorem stok_loop (st : List Int) (hs : st.length ≤ 4611686018427387904) : ∀ (d i : Nat), i + d = st.length → Dec (fun k => spec_l1State.l0 k st (i : Int)) (∀ j : Nat, i ≤ j → j < st.length → -9999 ≤ rd st (j : Int) ∧ rd st (j : Int) ≤ 9999) := by
  intro d
  induction d with
  | zero =>
    intro i hi
    exact Dec.yes (Ev.step (Ev.neg (by omega) (Ev.val _)) (fun k => spec_l1State.l0.eq_2 ..)) (fun j h1 h2 => by omega)
  | succ d ih =>
    intro i hi
    have hwi := wsucc i (by omega)
    by_cases c : -9999 ≤ rd st (i : Int) ∧ rd st (i : Int) ≤ 9999
    · obtain ⟨b, hb, hb2⟩ := ih (i + 1) (by omega)
      refine ⟨b, Ev.step (Ev.pos (by omega) (Ev.pos (by omega) (Ev.bind (Ev.const (in_yes c)) (Ev.pos rfl ?_)))) (fun k => spec_l1State.l0.eq_2 ..), hb2.trans ?_⟩
      · rw [hwi]
        exact hb
      · rw [all_from (P := fun j => -9999 ≤ rd st (j : Int) ∧ rd st (j : Int) ≤ 9999) (i := i) (by omega)]
        exact ⟨fun h => ⟨c, h⟩, fun h => h.2⟩
    · exact Dec.no (Ev.step (Ev.pos (by omega) (Ev.pos (by omega) (Ev.bind (Ev.const (in_no c)) (Ev.neg (by decide) (Ev.val _))))) (fun k => spec_l1State.l0.eq_2 ..)) (fun h => c (h i (Nat.le_refl _) (by omega)))
theorem spec_stok (st : List Int) (hs : st.length ≤ 4611686018427387904) : Dec (fun k => spec_l1State.f k st) (StOk st) := by
  unfold spec_l1State.f
  exact (stok_loop st hs st.length 0 (by omega)).iff ⟨fun h j hj => h j (by omega) hj, fun h j _ hj => h j hj⟩
theorem impl_stok_run (st : List Int) : ∀ (d i : Nat), i + d = st.length → ∃ r, Copy.idxO (impl_stateOk.p st) d (i : Int) = some r ∧ (r < 0 ↔ ∀ j : Nat, i ≤ j → j < st.length → -9999 ≤ rd st (j : Int) ∧ rd st (j : Int) ≤ 9999) := by
  intro d
  induction d with
  | zero =>
    intro i hi
    exact ⟨-1, rfl, ⟨fun _ j h1 h2 => by omega, fun _ => by decide⟩⟩
  | succ d ih =>
    intro i hi
    unfold Copy.idxO
    by_cases c : -9999 ≤ rd st (i : Int) ∧ rd st (i : Int) ≤ 9999
    · obtain ⟨r, h1, h2⟩ := ih (i + 1) (by omega)
      refine ⟨r, ?_, h2.trans ?_⟩
      · rw [show impl_stateOk.p st (i : Int) = some false by unfold impl_stateOk.p; rw [iin_yes c]; rfl]
        simpa using h1
      · rw [all_from (P := fun j => -9999 ≤ rd st (j : Int) ∧ rd st (j : Int) ≤ 9999) (i := i) (by omega)]
        exact ⟨fun h => ⟨c, h⟩, fun h => h.2⟩
    · refine ⟨(i : Int), ?_, ⟨fun h => by omega, fun h => absurd (h i (Nat.le_refl _) (by omega)) c⟩⟩
      rw [show impl_stateOk.p st (i : Int) = some true by unfold impl_stateOk.p; rw [iin_no c]; rfl]
      simp
theorem impl_stok (st : List Int) : ∃ b, impl_stateOk.f st = some b ∧ (b = true ↔ st.length ≤ 5 ∧ StOk st) := by
  unfold impl_stateOk.f
  by_cases c : (st.length : Int) ≤ 5
  · rw [if_pos c]
    obtain ⟨r, h1, h2⟩ := impl_stok_run st st.length 0 (by omega)
    refine ⟨!(decide (0 ≤ r)), ?_, ?_⟩
    · rw [show (0 : Int) = ((0 : Nat) : Int) from rfl, h1]
      rfl
    · rw [Bool.not_eq_true', decide_eq_false_iff_not, Int.not_le, h2]
      exact ⟨fun h => ⟨by omega, fun j hj => h j (by omega) hj⟩, fun h j _ hj => h.2 j hj⟩
  · rw [if_neg c]
    exact ⟨false, rfl, by simp; omega⟩
/-- Terms that are an expression over a state. -/
def EvalOk (l : List S73) (st : List Int) : Prop := kindsL l (st.length : Int) ≠ [] ∧ StOk st
theorem nonempty_dec (ks : List Int) : (!ks.isEmpty) = true ↔ ks ≠ [] := by cases ks <;> simp
theorem spec_eval_ev (l : List S73) (st : List Int) (hs : st.length ≤ 4611686018427387904) : (EvalOk l st → Ev (fun k => spec_Eval.f k l st) (evalL l st, true)) ∧ (¬ EvalOk l st → Ev (fun k => spec_Eval.f k l st) (0, false)) := by
  have hv := spec_valid l (st.length : Int)
  obtain ⟨b, hb, hb2⟩ := spec_stok st hs
  constructor
  · rintro ⟨h1, h2⟩
    obtain ⟨t1, t2, t3⟩ := kindsL_typed h1
    have hw : wrap64 ((l.length : Int) - 1) = (l.length : Int) - 1 := w_id (by omega) (by omega)
    unfold spec_Eval.f
    rw [(nonempty_dec _).2 h1] at hv
    rw [hb2.2 h2] at hb
    rw [hw]
    refine Ev.bind hv (Ev.pos rfl (Ev.bind hb (Ev.pos rfl (Ev.bind (spec_vals l _ _ st t3 h2 (Int.le_refl _) t2.2) (Ev.pos (by omega) (Ev.pos ?_ (Ev.val _)))))))
    rw [valsL_length]
    omega
  · intro h
    unfold spec_Eval.f
    by_cases h1 : kindsL l (st.length : Int) ≠ []
    · have h2 : ¬ StOk st := fun h2 => h ⟨h1, h2⟩
      rw [(nonempty_dec _).2 h1] at hv
      refine Ev.bind hv (Ev.pos rfl (Ev.bind hb (Ev.neg (fun e => h2 (hb2.1 e)) (Ev.val _))))
    · exact Ev.bind hv (Ev.neg (fun e => h1 ((nonempty_dec _).1 e)) (Ev.val _))
theorem impl_eval_ev (l : List S73) (st : List Int) : (EvalOk l st → Ev (fun k => impl_Eval.f k l st) (evalL l st, true)) ∧ (¬ EvalOk l st → Ev (fun k => impl_Eval.f k l st) (0, false)) := by
  have hv := impl_valid l (st.length : Int)
  obtain ⟨b, hb, hb2⟩ := impl_stok st
  constructor
  · rintro ⟨h1, h2⟩
    obtain ⟨t1, t2, t3⟩ := kindsL_typed h1
    unfold impl_Eval.f
    rw [(nonempty_dec _).2 h1] at hv
    rw [hb2.2 ⟨by omega, h2⟩] at hb
    exact Ev.bind (Ev.const hb) (Ev.pos rfl (Ev.bind hv (Ev.pos rfl (Ev.bind (impl_eval_is l _ _ st t3 h2 (Int.le_refl _) t2.1 t2.2) (Ev.val _)))))
  · intro h
    unfold impl_Eval.f
    by_cases c : b = true
    · have h1 : ¬ kindsL l (st.length : Int) ≠ [] := fun h1 => h ⟨h1, (hb2.1 c).2⟩
      exact Ev.bind (Ev.const hb) (Ev.pos c (Ev.bind hv (Ev.neg (fun e => h1 ((nonempty_dec _).1 e)) (Ev.val _))))
    · exact Ev.bind (Ev.const hb) (Ev.neg c (Ev.val _))
theorem evals_same (l : List S73) (st : List Int) (hs : st.length ≤ 4611686018427387904) : ∃ (v : Int) (b : Bool), Ev (fun k => spec_Eval.f k l st) (v, b) ∧ Ev (fun k => impl_Eval.f k l st) (v, b) ∧ (b = true ↔ EvalOk l st) ∧ (b = true → v = evalL l st) ∧ (b = false → v = 0) := by
  by_cases h : EvalOk l st
  · exact ⟨_, true, (spec_eval_ev l st hs).1 h, (impl_eval_ev l st).1 h, by simp [h], fun _ => rfl, (fun h => by cases h)⟩
  · exact ⟨_, false, (spec_eval_ev l st hs).2 h, (impl_eval_ev l st).2 h, by simp [h], (fun h => by cases h), fun _ => rfl⟩
/-! #### terms that are drawn -/
theorem number_tot (b : List Int) (hb : Drawer b) (p : Int) (hp : 0 ≤ p) (hp2 : p ≤ 900000) : Tot (fun k => spec_l1Number.f k b p) (fun r => p ≤ r.2 ∧ r.2 ≤ p + 6) := by
  unfold spec_l1Number.f
  refine Tot.bind (pick_tot b hb p 4 hp (by omega)) ?_
  rintro ⟨x1, q⟩ ⟨e1, _, _⟩
  simp only at e1 ⊢
  subst e1
  refine Tot.bind (pick_tot b hb (p + 1) 4 (by omega) (by omega)) ?_
  rintro ⟨x2, q⟩ ⟨e1, _, _⟩
  simp only at e1 ⊢
  subst e1
  refine Tot.bind (pick_tot b hb (p + 1 + 1) 7 (by omega) (by omega)) ?_
  rintro ⟨x3, q⟩ ⟨e1, _, _⟩
  simp only at e1 ⊢
  subst e1
  refine Tot.bind (pick_tot b hb (p + 1 + 1 + 1) 200 (by omega) (by omega)) ?_
  rintro ⟨x4, q⟩ ⟨e1, _, _⟩
  simp only at e1 ⊢
  subst e1
  refine Tot.bind (Tot.val (P := fun r => r = [9999, (-9999), 5000, 100]) rfl) ?_
  rintro _ rfl
  refine Tot.bind (pick_tot b hb (p + 1 + 1 + 1 + 1) 4 (by omega) (by omega)) ?_
  rintro ⟨x5, q⟩ ⟨e1, e2, e3⟩
  simp only at e1 e2 e3 ⊢
  subst e1
  refine Tot.pos e2 (Tot.pos (by have := e3 (by omega); simpa using this) ?_)
  refine Tot.bind (num_tot b hb (p + 1 + 1 + 1 + 1 + 1) _ (by omega) (by omega) (by simp)) ?_
  rintro ⟨x6, q⟩ ⟨e1, _⟩
  simp only at e1 ⊢
  subst e1
  exact Tot.val ⟨by show p ≤ p + 1 + 1 + 1 + 1 + 1 + 1; omega, by show p + 1 + 1 + 1 + 1 + 1 + 1 ≤ p + 6; omega⟩
theorem pickkind_loop (b : List Int) (ks : List Int) (kind x q : Int) (hk : 1 ≤ ks.length) (hk2 : ks.length ≤ 100000) (h0 : 0 ≤ x) (h1 : x < ks.length) : ∀ (d i : Nat), i + d = ks.length →
    Tot (fun k => spec_l1Pick.l0 k ks kind x (i : Int) b q) (fun r => r.2 = q) := by
  intro d
  induction d with
  | zero =>
    intro i hi
    exact Tot.step (Tot.neg (by omega) (Tot.val rfl)) (fun k => spec_l1Pick.l0.eq_2 ..)
  | succ d ih =>
    intro i hi
    have hwi := wsucc i (by omega)
    have w1 : wrap64 (x + (i : Int)) = x + (i : Int) := w_id (by omega) (by omega)
    obtain ⟨z0, z1⟩ := tmod_range (x + (i : Int)) (ks.length : Int) (by omega) (by omega)
    refine Tot.step ?_ (fun k => spec_l1Pick.l0.eq_2 ..)
    rw [w1, hwi]
    exact Tot.pos (by omega) (Tot.neg (by omega) (Tot.pos z0 (Tot.pos z1 (Tot.ite (fun _ => Tot.val rfl) (fun _ => ih (i + 1) (by omega))))))
theorem pickkind_tot (b : List Int) (hb : Drawer b) (p : Int) (hp : 0 ≤ p) (hp2 : p ≤ 900000) (ks : List Int) (kind : Int) (hk2 : ks.length ≤ 100000) : Tot (fun k => spec_l1Pick.f k b p ks kind) (fun r => r.2 = p + 1) := by
  unfold spec_l1Pick.f
  refine Tot.bind (pick_tot b hb p (ks.length : Int) hp (by omega)) ?_
  rintro ⟨x, q⟩ ⟨e1, e2, e3⟩
  simp only at e1 e2 e3 ⊢
  subst e1
  by_cases h : 1 ≤ ks.length
  · exact pickkind_loop b ks kind x (p + 1) h hk2 e2 (e3 (by omega)) ks.length 0 (by omega)
  · exact Tot.step (Tot.neg (by omega) (Tot.val rfl)) (fun k => spec_l1Pick.l0.eq_2 ..)
theorem kind_tot (f0 f1 f2 f3 : Int) (ks : List Int) (vars : Int) (hk : ks.length ≤ 100000) (hv : -100 ≤ vars ∧ vars ≤ 100) : Tot (fun k => spec_l1Kind.f k f0 f1 f2 f3 ks vars) (fun r => r = kindAt ⟨f0, f1, f2, f3⟩ ks vars) :=
  Tot.of (spec_kind ⟨f0, f1, f2, f3⟩ ks vars hk hv) rfl
/-- What a drawn list is good for. -/
def TermsDrawn (p : Int) (d : Nat) (r : List S73 × Int) : Prop := (1 ≤ r.1.length ∧ r.1.length ≤ 1000) ∧ p ≤ r.2 ∧ r.2 ≤ p + 20 * (d : Int) + 20
theorem terms_loop (b : List Int) (hb : Drawer b) (vars kind : Int) (hv : -100 ≤ vars ∧ vars ≤ 100) : ∀ (d : Nat) (l : List S73) (ks : List Int) (p : Int), l.length = ks.length → l.length + d ≤ 900 → 0 ≤ p → p + 20 * (d : Int) ≤ 850000 →
    Tot (fun k => spec_l1Terms.l0 k vars kind l ks (d : Int) b p) (TermsDrawn p d) := by
  intro d
  induction d with
  | zero =>
    intro l ks p hl hd hp hp2
    have j6 : ∀ (l : List S73) (ks : List Int) (c : Bool), 1 ≤ l.length → l.length ≤ 901 → ks.length = l.length → Tot (fun k => spec_l1Terms.j6 k l ks c b p) (TermsDrawn p 0) := by
      intro l ks c h1 h2 h3
      refine Tot.step ?_ (fun k => spec_l1Terms.j6.eq_2 ..)
      refine Tot.ite (fun _ => ?_) (fun _ => Tot.val ⟨⟨h1, by show l.length ≤ 1000; omega⟩, Int.le_refl _, by show p ≤ p + 20 * ((0 : Nat) : Int) + 20; omega⟩)
      refine Tot.bind (pickkind_tot b hb p hp (by omega) ks 1 (by omega)) ?_
      rintro ⟨x1, q⟩ e1
      simp only at e1 ⊢
      subst e1
      refine Tot.bind (num_tot b hb (p + 1) _ (by omega) (by omega) (by simp)) ?_
      rintro ⟨x2, q⟩ ⟨e1, _⟩
      simp only at e1 ⊢
      subst e1
      refine Tot.bind (pickkind_tot b hb (p + 1 + 1) (by omega) (by omega) ks 1 (by omega)) ?_
      rintro ⟨x3, q⟩ e1
      simp only at e1 ⊢
      subst e1
      exact Tot.pos (by omega) (Tot.val ⟨by simp; omega, by show p ≤ p + 1 + 1 + 1; omega, by show p + 1 + 1 + 1 ≤ p + 20 * ((0 : Nat) : Int) + 20; omega⟩)
    have j5 : ∀ (l : List S73) (ks : List Int) (c : Bool) (x : Int), 1 ≤ l.length → l.length ≤ 901 → ks.length = l.length → x = (l.length : Int) - 1 → Tot (fun k => spec_l1Terms.j5 k kind l ks x c b p) (TermsDrawn p 0) := by
      intro l ks c x h1 h2 h3 h4
      refine Tot.step ?_ (fun k => spec_l1Terms.j5.eq_2 ..)
      refine Tot.ite (fun _ => ?_) (fun _ => Tot.ite (fun _ => Tot.pos (by omega) (Tot.pos (by omega) (j6 _ _ _ h1 h2 h3))) (fun _ => j6 _ _ _ h1 h2 h3))
      refine Tot.bind (num_tot b hb p _ (by omega) (by omega) (by simp)) ?_
      rintro ⟨x2, q⟩ ⟨e1, _⟩
      simp only at e1 ⊢
      subst e1
      refine Tot.bind (pickkind_tot b hb (p + 1) (by omega) (by omega) ks 1 (by omega)) ?_
      rintro ⟨x3, q⟩ e1
      simp only at e1 ⊢
      subst e1
      exact Tot.pos (by omega) (Tot.val ⟨by simp; omega, by show p ≤ p + 1 + 1; omega, by show p + 1 + 1 ≤ p + 20 * ((0 : Nat) : Int) + 20; omega⟩)
    have j4 : ∀ (l : List S73) (ks : List Int), 1 ≤ l.length → l.length ≤ 901 → ks.length = l.length → Tot (fun k => spec_l1Terms.j4 k kind l ks b p) (TermsDrawn p 0) := by
      intro l ks h1 h2 h3
      have w1 : wrap64 ((l.length : Int) - 1) = (l.length : Int) - 1 := w_id (by omega) (by omega)
      refine Tot.step ?_ (fun k => spec_l1Terms.j4.eq_2 ..)
      rw [w1]
      exact Tot.ite (fun _ => Tot.pos (by omega) (Tot.pos (by omega) (j5 _ _ _ _ h1 h2 h3 rfl))) (fun _ => j5 _ _ _ _ h1 h2 h3 rfl)
    refine Tot.step (Tot.neg (by omega) ?_) (fun k => spec_l1Terms.l0.eq_2 ..)
    refine Tot.ite (fun h0 => ?_) (fun h0 => j4 _ _ (by omega) (by omega) (by omega))
    exact Tot.pos (by omega) (Tot.pos (by omega) (j4 _ _ (by simp) (by simp; omega) (by simp; omega)))
  | succ d ih =>
    intro l ks p hl hd hp hp2
    have hwd : wrap64 (((d + 1 : Nat) : Int) - 1) = (d : Int) := by rw [w_id (by omega) (by omega)]; omega
    have go : ∀ (l' : List S73) (ks' : List Int) (p' : Int), l'.length = ks'.length → l'.length ≤ l.length + 1 → p ≤ p' → p' ≤ p + 20 → Tot (fun k => spec_l1Terms.l0 k vars kind l' ks' (d : Int) b p') (TermsDrawn p (d + 1)) := by
      intro l' ks' p' h1 h2 h3 h4
      refine (ih l' ks' p' h1 (by omega) (by omega) (by omega)).mono ?_
      rintro ⟨r, q⟩ ⟨e1, e2, e3⟩
      exact ⟨e1, by omega, by omega⟩
    have leaf : ∀ (f0 f1 f2 f3 p' : Int), p ≤ p' → p' ≤ p + 20 →
        Tot (fun k => (spec_l1Kind.f k f0 f1 f2 f3 ks vars).bind fun t => if t = 0 then spec_l1Terms.l0 k vars kind l ks (d : Int) b p' else if l.length < 4398046511104 then (if ks.length < 17592186044416 then spec_l1Terms.l0 k vars kind (l ++ [(⟨f0, f1, f2, f3⟩ : S73)]) (ks ++ [t]) (d : Int) b p' else none) else none) (TermsDrawn p (d + 1)) := by
      intro f0 f1 f2 f3 p' h1 h2
      refine Tot.bind (kind_tot f0 f1 f2 f3 ks vars (by omega) hv) ?_
      rintro t _
      exact Tot.ite (fun _ => go _ _ _ hl (by omega) h1 h2) (fun _ => Tot.pos (by omega) (Tot.pos (by omega) (go _ _ _ (by simp; omega) (by simp) h1 h2)))
    have j3 : ∀ (x12 x14 f0 f1 f2 f3 p' : Int), p ≤ p' → p' ≤ p + 10 → Tot (fun k => spec_l1Terms.j3 k vars kind l ks ((d + 1 : Nat) : Int) x12 x14 b p' f0 f1 f2 f3) (TermsDrawn p (d + 1)) := by
      intro x12 x14 f0 f1 f2 f3 p' h1 h2
      refine Tot.step ?_ (fun k => spec_l1Terms.j3.eq_2 ..)
      rw [hwd]
      refine Tot.bind (pickkind_tot b hb p' (by omega) (by omega) ks x14 (by omega)) ?_
      rintro ⟨y1, q⟩ e1
      simp only at e1 ⊢
      subst e1
      refine Tot.bind (pickkind_tot b hb (p' + 1) (by omega) (by omega) ks x14 (by omega)) ?_
      rintro ⟨y2, q⟩ e1
      simp only at e1 ⊢
      subst e1
      refine Tot.bind (Tot.of (P := fun _ => True) (Ev.const (by unfold spec_l1One.f; rfl)) trivial) (fun c _ => ?_)
      exact Tot.ite (fun _ => leaf _ _ _ _ _ (by omega) (by omega)) (fun _ => leaf _ _ _ _ _ (by omega) (by omega))
    have j2 : ∀ (c : Bool) (f0 f1 f2 f3 p' : Int), p ≤ p' → p' ≤ p + 10 → Tot (fun k => spec_l1Terms.j2 k vars kind l ks ((d + 1 : Nat) : Int) c b p' f0 f1 f2 f3) (TermsDrawn p (d + 1)) := by
      intro c f0 f1 f2 f3 p' h1 h2
      refine Tot.step ?_ (fun k => spec_l1Terms.j2.eq_2 ..)
      rw [hwd]
      refine Tot.ite (fun _ => ?_) (fun _ => leaf _ _ _ _ _ (by omega) (by omega))
      refine Tot.bind (pick_tot b hb p' vars (by omega) (by omega)) ?_
      rintro ⟨y1, q⟩ ⟨e1, _, _⟩
      simp only at e1 ⊢
      subst e1
      exact leaf _ _ _ _ _ (by omega) (by omega)
    have j1 : ∀ (x12 : Int) (c : Bool) (f0 f1 f2 f3 p' : Int), p ≤ p' → p' ≤ p + 1 → Tot (fun k => spec_l1Terms.j1 k vars kind l ks ((d + 1 : Nat) : Int) x12 c b p' f0 f1 f2 f3) (TermsDrawn p (d + 1)) := by
      intro x12 c f0 f1 f2 f3 p' h1 h2
      refine Tot.step ?_ (fun k => spec_l1Terms.j1.eq_2 ..)
      refine Tot.ite (fun _ => ?_) (fun _ => Tot.ite (fun _ => j3 _ _ _ _ _ _ _ (by omega) (by omega)) (fun _ => j3 _ _ _ _ _ _ _ (by omega) (by omega)))
      refine Tot.bind (number_tot b hb p' (by omega) (by omega)) ?_
      rintro ⟨y1, q⟩ ⟨e1, e2⟩
      simp only at e1 e2 ⊢
      exact Tot.ite (fun _ => j2 _ _ _ _ _ _ (by omega) (by omega)) (fun _ => j2 _ _ _ _ _ _ (by omega) (by omega))
    refine Tot.step (Tot.pos (by omega) ?_) (fun k => spec_l1Terms.l0.eq_2 ..)
    refine Tot.bind (num_tot b hb p _ (by omega) (by omega) (by simp)) ?_
    rintro ⟨y1, q⟩ ⟨e1, _⟩
    simp only at e1 ⊢
    subst e1
    exact Tot.ite (fun _ => j1 _ _ _ _ _ _ _ (by omega) (by omega)) (fun _ => j1 _ _ _ _ _ _ _ (by omega) (by omega))
theorem terms_tot (b : List Int) (hb : Drawer b) (p vars kind most : Int) (hv : -100 ≤ vars ∧ vars ≤ 100) (hm : 1 ≤ most ∧ most ≤ 100) (hp : 0 ≤ p) (hp2 : p ≤ 700000) :
    Tot (fun k => spec_l1Terms.f k b p vars kind most) (fun r => (1 ≤ r.1.length ∧ r.1.length ≤ 1000) ∧ p ≤ r.2 ∧ r.2 ≤ p + 3000) := by
  unfold spec_l1Terms.f
  refine Tot.bind (pick_tot b hb p most hp (by omega)) ?_
  rintro ⟨x, q⟩ ⟨e1, e2, e3⟩
  simp only at e1 e2 e3 ⊢
  subst e1
  have e4 := e3 hm.1
  obtain ⟨m, rfl⟩ := Int.eq_ofNat_of_zero_le e2
  have hw : wrap64 (2 + (m : Int)) = ((2 + m : Nat) : Int) := by rw [w_id (by omega) (by omega)]; omega
  rw [hw]
  refine (terms_loop b hb vars kind hv (2 + m) [] [] (p + 1) rfl (by simp; omega) (by omega) (by omega)).mono ?_
  rintro ⟨r, q⟩ ⟨h1, h2, h3⟩
  exact ⟨h1, by omega, by omega⟩
theorem anyterms_tot (b : List Int) (hb : Drawer b) (p vars : Int) (hv : -100 ≤ vars ∧ vars ≤ 100) (hp : 0 ≤ p) (hp2 : p ≤ 600000) :
    Tot (fun k => spec_l1Any.f k b p vars) (fun r => (1 ≤ r.1.length ∧ r.1.length ≤ 1000) ∧ p ≤ r.2 ∧ r.2 ≤ p + 4000) := by
  unfold spec_l1Any.f
  refine Tot.bind (pick_tot b hb p 3 hp (by omega)) ?_
  rintro ⟨x, q⟩ ⟨e1, _, _⟩
  simp only at e1 ⊢
  subst e1
  refine Tot.bind (terms_tot b hb (p + 1) vars x 12 hv (by omega) (by omega) (by omega)) ?_
  rintro ⟨l, q⟩ ⟨h1, h2, h3⟩
  simp only at h1 h2 h3 ⊢
  refine Tot.bind (pick_tot b hb q 12 (by omega) (by omega)) ?_
  rintro ⟨x1, q1⟩ ⟨e1, _, _⟩
  simp only at e1 ⊢
  subst e1
  refine Tot.ite (fun _ => ?_) (fun _ => Tot.val ⟨h1, by show p ≤ q + 1; omega, by show q + 1 ≤ _; omega⟩)
  refine Tot.bind (pick_tot b hb (q + 1) (l.length : Int) (by omega) (by omega)) ?_
  rintro ⟨i, q2⟩ ⟨e1, e2, e3⟩
  simp only at e1 e2 e3 ⊢
  subst e1
  refine Tot.pos e2 (Tot.pos (e3 (by omega)) ?_)
  refine Tot.bind (pick_tot b hb (q + 1 + 1) 4 (by omega) (by omega)) ?_
  rintro ⟨w, q3⟩ ⟨e1, _, _⟩
  simp only at e1 ⊢
  subst e1
  have fin : ∀ l : List Int, 1 ≤ l.length → Tot (fun k => spec_l40Rd_num.f k b (q + 1 + 1 + 1) l) (fun r => r.2 = q + 1 + 1 + 1 + 1 ∧ r.1 ∈ l) := fun l hl => num_tot b hb _ l (by omega) (by omega) hl
  refine Tot.ite (fun _ => Tot.bind (fin _ (by simp)) ?_) (fun _ => Tot.ite (fun _ => Tot.bind (fin _ (by simp)) ?_) (fun _ => Tot.ite (fun _ => Tot.bind (fin _ (by simp)) ?_) (fun _ => Tot.bind (fin _ (by simp)) ?_)))
  all_goals
    rintro ⟨v, q4⟩ ⟨e1, _⟩
    simp only at e1 ⊢
    subst e1
    exact Tot.val ⟨by simpa using h1, by show p ≤ q + 1 + 1 + 1 + 1; omega, by show q + 1 + 1 + 1 + 1 ≤ p + 4000; omega⟩

theorem numbers_loop (b : List Int) (hb : Drawer b) (n : Nat) (hn : n ≤ 100) : ∀ (d i : Nat) (out : List Int) (p : Int), i + d = n → out.length = i → 0 ≤ p → p + 10 * (d : Int) ≤ 800000 →
    Tot (fun k => spec_l1Numbers.l0 k (n : Int) out (i : Int) b p) (fun r => r.1.length = n) := by
  intro d
  induction d with
  | zero =>
    intro i out p hi ho hp hp2
    refine Tot.step (Tot.neg (by omega) ?_) (fun k => spec_l1Numbers.l0.eq_2 ..)
    refine Tot.ite (fun h => ?_) (fun _ => Tot.val (by show out.length = n; omega))
    refine Tot.bind (pick_tot b hb p 30 hp (by omega)) ?_
    rintro ⟨x, q⟩ ⟨e1, _, _⟩
    simp only at e1 ⊢
    subst e1
    refine Tot.ite (fun _ => ?_) (fun _ => Tot.val (by show out.length = n; omega))
    refine Tot.bind (num_tot b hb (p + 1) _ (by omega) (by omega) (by simp)) ?_
    rintro ⟨y, q⟩ ⟨e1, _⟩
    exact Tot.pos (by omega) (Tot.val (by simp; omega))
  | succ d ih =>
    intro i out p hi ho hp hp2
    have hwi := wsucc i (by omega)
    refine Tot.step (Tot.pos (by omega) (Tot.bind (number_tot b hb p hp (by omega)) ?_)) (fun k => spec_l1Numbers.l0.eq_2 ..)
    rintro ⟨x, q⟩ ⟨e1, e2⟩
    simp only at e1 e2 ⊢
    rw [hwi]
    exact Tot.pos (by omega) (ih (i + 1) _ q (by omega) (by simp; omega) (by omega) (by omega))
theorem draweval_tot (code : List Int) (hc : ∀ x ∈ code, (Lit.int .u8 x).wf = true) : Tot (fun k => spec_DrawEval.f k code) (fun r => r.2.length ≤ 5) := by
  unfold spec_DrawEval.f
  obtain ⟨b, ho, hb⟩ := open_tot code hc
  refine Tot.bind (Tot.of (P := fun r => r = (b, 0)) (Ev.const ho) rfl) ?_
  rintro _ rfl
  simp only
  refine Tot.bind (num_tot b hb 0 _ (by omega) (by omega) (by simp)) ?_
  rintro ⟨vars, q⟩ ⟨e1, e2⟩
  simp only at e1 e2 ⊢
  subst e1
  have hv : 0 ≤ vars ∧ vars ≤ 5 := by simp at e2; omega
  refine Tot.bind (anyterms_tot b hb (0 + 1) vars (by omega) (by omega) (by omega)) ?_
  rintro ⟨l, q⟩ ⟨h1, h2, h3⟩
  simp only at h1 h2 h3 ⊢
  obtain ⟨n, rfl⟩ := Int.eq_ofNat_of_zero_le hv.1
  refine Tot.bind (Q := fun r => r.1.length = n) ?_ ?_
  · unfold spec_l1Numbers.f
    exact numbers_loop b hb n (by omega) n 0 [] q (by omega) rfl (by omega) (by omega)
  · rintro ⟨st, q⟩ hs
    exact Tot.val (by simp only at hs ⊢; omega)
theorem rdOf_nat (l : List Bool) (i : Nat) : rdOf false l (i : Int) = l.getD i false := by
  unfold rdOf
  rw [Int.toNat_natCast]
theorem rdOf_set {l : List Bool} {i j : Nat} (hi : i < l.length) : rdOf false (l.set i true) (j : Int) = (if j = i then true else rdOf false l (j : Int)) := by
  rw [rdOf_nat, rdOf_nat, List.getD_eq_getElem?_getD, List.getD_eq_getElem?_getD]
  by_cases e : j = i
  · subst e
    rw [if_pos rfl, List.getElem?_set_self hi]
    rfl
  · rw [if_neg e, List.getElem?_set_ne (by omega)]
/-- What is needed of place j is told. -/
def ClosedAt (l : List S73) (ns us : List Bool) (j : Nat) : Prop := rdOf false ns (j : Int) = true →
  ((rd_T73 l (j : Int)).f0 = 1 → rdOf false us (rd_T73 l (j : Int)).f1 = true) ∧
  (2 ≤ (rd_T73 l (j : Int)).f0 → rdOf false ns (rd_T73 l (j : Int)).f2 = true ∧ rdOf false ns (rd_T73 l (j : Int)).f3 = true)
theorem typed_place {l : List S73} {vars : Int} {ks : List Int} (T : Typed l vars ks) {i : Nat} (hi : i < l.length) :
    (rd_T73 l (i : Int)).f0 = 0 ∨ ((rd_T73 l (i : Int)).f0 = 1 ∧ 0 ≤ (rd_T73 l (i : Int)).f1 ∧ (rd_T73 l (i : Int)).f1 < vars) ∨
    (2 ≤ (rd_T73 l (i : Int)).f0 ∧ (0 ≤ (rd_T73 l (i : Int)).f2 ∧ (rd_T73 l (i : Int)).f2 < i) ∧ (0 ≤ (rd_T73 l (i : Int)).f3 ∧ (rd_T73 l (i : Int)).f3 < i)) := by
  obtain ⟨hl, hT⟩ := T
  obtain ⟨e, ne⟩ := hT i hi
  have hk : (ks.take i).length = i := by rw [List.length_take]; omega
  rcases kindAt_cases (t := rd_T73 l (i : Int)) (ks := ks.take i) (vars := vars) (by rw [e]; exact ne) with ⟨h0, _⟩ | ⟨h0, h1, _⟩ | ⟨h0, h1, h3, h4, _⟩
  · exact .inl h0
  · exact .inr (.inl ⟨h0, h1⟩)
  · rw [hk] at h3 h4
    exact .inr (.inr ⟨h0.1, h3, h4⟩)
theorem told_loop (us : List Bool) (n : Nat) (hn : n = us.length) (h5 : n ≤ 5) : ∀ (d i : Nat) (out : List Int), i + d = n → out.length ≤ i →
    Tot (fun k => impl_usedBy.l1 k out us (us.length : Int) (i : Int)) (fun r => r.length ≤ 5 ∧ ∀ v : Nat, (v : Int) ∈ r ↔ (v : Int) ∈ out ∨ i ≤ v ∧ v < n ∧ rdOf false us (v : Int) = true) := by
  intro d
  induction d with
  | zero =>
    intro i out hi ho
    refine Tot.step (Tot.neg (by omega) (Tot.bind (Tot.of (P := fun r => r = out) (Ev.const (by unfold impl_clone_int.f; rw [if_pos (by omega)])) rfl) (fun r hr => Tot.val ?_))) (fun k => impl_usedBy.l1.eq_2 ..)
    subst hr
    exact ⟨by omega, fun v => ⟨.inl, fun h => h.elim id (fun h => by omega)⟩⟩
  | succ d ih =>
    intro i out hi ho
    have hwi := wsucc i (by omega)
    refine Tot.step (Tot.pos (by omega) (Tot.pos (by omega) (Tot.pos (by omega) ?_))) (fun k => impl_usedBy.l1.eq_2 ..)
    rw [hwi]
    refine Tot.ite (fun c => Tot.pos (by omega) ((ih (i + 1) _ (by omega) (by simp; omega)).mono ?_)) (fun c => (ih (i + 1) _ (by omega) (by omega)).mono ?_)
    · rintro r ⟨h1, h2⟩
      refine ⟨h1, fun v => (h2 v).trans ?_⟩
      simp only [List.mem_append, List.mem_singleton]
      constructor
      · rintro ((h | h) | h)
        · exact .inl h
        · have : v = i := by omega
          subst this
          exact .inr ⟨Nat.le_refl _, by omega, c⟩
        · exact .inr ⟨by omega, h.2.1, h.2.2⟩
      · rintro (h | ⟨h3, h4, h5⟩)
        · exact .inl (.inl h)
        · rcases Nat.lt_or_eq_of_le h3 with h6 | rfl
          · exact .inr ⟨h6, h4, h5⟩
          · exact .inl (.inr rfl)
    · rintro r ⟨h1, h2⟩
      refine ⟨h1, fun v => (h2 v).trans ?_⟩
      constructor
      · rintro (h | h)
        · exact .inl h
        · exact .inr ⟨by omega, h.2.1, h.2.2⟩
      · rintro (h | ⟨h3, h4, h5⟩)
        · exact .inl h
        · rcases Nat.lt_or_eq_of_le h3 with h6 | rfl
          · exact .inr ⟨h6, h4, h5⟩
          · exact absurd h5 c
/-- What is told to be used is good for: whatever a needed place reads is told. -/
def UsedGood (l : List S73) (vars : Nat) (r : List Int) : Prop := r.length ≤ 5 ∧ ∃ ns us : List Bool, ns.length = l.length ∧ us.length = vars ∧ rdOf false ns ((l.length : Int) - 1) = true ∧ (∀ j : Nat, j < l.length → ClosedAt l ns us j) ∧ ∀ v : Nat, v < vars → ((v : Int) ∈ r ↔ rdOf false us (v : Int) = true)
theorem used_loop (l : List S73) (vars : Nat) (ks : List Int) (T : Typed l (vars : Int) ks) (hv : vars ≤ 5) (hl1 : 1 ≤ l.length) (hl : l.length ≤ 40) : ∀ (d : Nat) (ns us : List Bool), d ≤ l.length → ns.length = l.length → us.length = vars → rdOf false ns ((l.length : Int) - 1) = true → (∀ j : Nat, d ≤ j → j < l.length → ClosedAt l ns us j) →
    Tot (fun k => impl_usedBy.l0 k l ns us ((d : Int) - 1)) (UsedGood l vars) := by
  intro d
  induction d with
  | zero =>
    intro ns us hd h1 h2 h3 h4
    refine Tot.step (Tot.neg (by omega) ?_) (fun k => impl_usedBy.l0.eq_2 ..)
    refine (told_loop us us.length rfl (by omega) us.length 0 [] (by omega) (by simp)).mono ?_
    rintro r ⟨r1, r2⟩
    refine ⟨r1, ns, us, h1, h2, h3, fun j hj => h4 j (by omega) hj, fun v hv => (r2 v).trans ⟨fun h => h.elim (fun h => absurd h (by simp)) (fun h => h.2.2), fun h => .inr ⟨by omega, by omega, h⟩⟩⟩
  | succ d ih =>
    intro ns us hd h1 h2 h3 h4
    have e0 : ((d + 1 : Nat) : Int) - 1 = (d : Int) := by omega
    have w1 : wrap64 ((d : Int) - 1) = (d : Int) - 1 := w_id (by omega) (by omega)
    have tp := typed_place T (i := d) (by omega)
    have keep : rdOf false ns (d : Int) = false → Tot (fun k => impl_usedBy.l0 k l ns us ((d : Int) - 1)) (UsedGood l vars) := fun h => ih ns us (by omega) h1 h2 h3 (fun j hj hj2 => by
      rcases Nat.lt_or_eq_of_le hj with h5 | rfl
      · exact h4 j h5 hj2
      · exact fun h6 => by rw [h] at h6; cases h6)
    rw [e0]
    refine Tot.step (Tot.pos (by omega) (Tot.pos (by omega) (Tot.pos (by omega) (Tot.pos (by omega) ?_)))) (fun k => impl_usedBy.l0.eq_2 ..)
    have jt : (Tot (fun k => impl_usedBy.l0 k l ns us ((d : Int) - 1)) (UsedGood l vars)) → Tot (fun k => impl_usedBy.j1 k l ns us (d : Int) true (rd_T73 l (d : Int)).f0 (rd_T73 l (d : Int)).f1 (rd_T73 l (d : Int)).f2 (rd_T73 l (d : Int)).f3) (UsedGood l vars) := by
      intro h
      refine Tot.step (Tot.pos rfl ?_) (fun k => impl_usedBy.j1.eq_2 ..)
      rw [w1]
      exact h
    refine Tot.ite (fun c => ?_) (fun c => jt (keep (by simpa using c)))
    rcases tp with q | ⟨q, q1, q2⟩ | ⟨q, q1, q2⟩
    · rw [show ((rd_T73 l (d : Int)).f0 == 0) = true by simp [q]]
      refine jt (ih ns us (by omega) h1 h2 h3 (fun j hj hj2 => ?_))
      rcases Nat.lt_or_eq_of_le hj with h5 | rfl
      · exact h4 j h5 hj2
      · exact fun _ => ⟨fun h => by omega, fun h => by omega⟩
    · rw [show ((rd_T73 l (d : Int)).f0 == 0) = false by simp [q]]
      refine Tot.step (Tot.neg (by decide) (Tot.pos q (Tot.pos q1 (Tot.pos (by omega) ?_)))) (fun k => impl_usedBy.j1.eq_2 ..)
      rw [w1]
      obtain ⟨v, hv2⟩ := Int.eq_ofNat_of_zero_le q1
      rw [hv2, Int.toNat_natCast]
      refine ih ns (us.set v true) (by omega) h1 (by simpa using h2) h3 (fun j hj hj2 => ?_)
      rcases Nat.lt_or_eq_of_le hj with h5 | rfl
      · intro h6
        obtain ⟨g1, g2⟩ := h4 j h5 hj2 h6
        refine ⟨fun h7 => ?_, g2⟩
        have tj := typed_place T hj2
        obtain ⟨u, hu⟩ := Int.eq_ofNat_of_zero_le (show 0 ≤ (rd_T73 l (j : Int)).f1 by omega)
        have := g1 h7
        rw [hu] at this ⊢
        rw [rdOf_set (by omega), this]
        split <;> rfl
      · refine fun _ => ⟨fun _ => ?_, fun h => by omega⟩
        rw [hv2, rdOf_set (by omega), if_pos rfl]
    · rw [show ((rd_T73 l (d : Int)).f0 == 0) = false by simp; omega]
      refine Tot.step (Tot.neg (by decide) (Tot.neg (by omega) (Tot.pos q1.1 (Tot.pos (by omega) (Tot.pos q2.1 (Tot.pos (by omega) ?_)))))) (fun k => impl_usedBy.j1.eq_2 ..)
      rw [w1]
      obtain ⟨x, hx⟩ := Int.eq_ofNat_of_zero_le q1.1
      obtain ⟨y, hy⟩ := Int.eq_ofNat_of_zero_le q2.1
      rw [hx, hy, Int.toNat_natCast, Int.toNat_natCast]
      have rs : ∀ j : Nat, rdOf false ((ns.set x true).set y true) (j : Int) = (if j = y then true else if j = x then true else rdOf false ns (j : Int)) := by
        intro j
        rw [rdOf_set (by simp; omega), rdOf_set (by omega)]
      have up : ∀ j : Nat, rdOf false ns (j : Int) = true → rdOf false ((ns.set x true).set y true) (j : Int) = true := by
        intro j h
        rw [rs, h]
        split
        · rfl
        · split <;> rfl
      refine ih _ us (by omega) (by simpa using h1) h2 ?_ (fun j hj hj2 => ?_)
      · rw [show (l.length : Int) - 1 = ((l.length - 1 : Nat) : Int) by omega] at h3 ⊢
        exact up _ h3
      rcases Nat.lt_or_eq_of_le hj with h5 | rfl
      · intro h6
        rw [rs, if_neg (by omega), if_neg (by omega)] at h6
        obtain ⟨g1, g2⟩ := h4 j h5 hj2 h6
        refine ⟨g1, fun h7 => ?_⟩
        have tj := typed_place T hj2
        obtain ⟨u, hu⟩ := Int.eq_ofNat_of_zero_le (show 0 ≤ (rd_T73 l (j : Int)).f2 by omega)
        obtain ⟨z, hz⟩ := Int.eq_ofNat_of_zero_le (show 0 ≤ (rd_T73 l (j : Int)).f3 by omega)
        have := g2 h7
        rw [hu, hz] at this ⊢
        exact ⟨up _ this.1, up _ this.2⟩
      · refine fun _ => ⟨fun h => by omega, fun _ => ?_⟩
        rw [hx, hy, rs, rs, if_pos rfl]
        exact ⟨by split <;> rfl, by rw [if_pos rfl]⟩
theorem usedBy_tot (l : List S73) (vars : Nat) (h : kindsL l (vars : Int) ≠ []) : Tot (fun k => impl_UsedBy.f k l (vars : Int)) (UsedGood l vars) := by
  obtain ⟨t1, t2, t3⟩ := kindsL_typed h
  have hw : wrap64 ((l.length : Int) - 1) = (l.length : Int) - 1 := w_id (by omega) (by omega)
  have V := impl_valid l (vars : Int)
  rw [(nonempty_dec _).2 h] at V
  unfold impl_UsedBy.f
  refine Tot.bind (Tot.of (P := fun b => b = true) V rfl) ?_
  rintro _ rfl
  refine Tot.pos rfl (Tot.bind (Q := UsedGood l vars) ?_ (fun r hr => Tot.val hr))
  unfold impl_usedBy.f
  refine Tot.pos (by omega) (Tot.pos (by omega) (Tot.bind (Tot.val (P := fun r => r = List.replicate l.length false) (by simp)) ?_))
  rintro _ rfl
  rw [hw]
  refine Tot.pos (by omega) (Tot.pos (by simp; omega) (Tot.pos (by omega) (Tot.pos (by simp; omega) ?_)))
  refine used_loop l vars _ t3 (by omega) t2.1 t2.2 l.length _ _ (Nat.le_refl _) (by simp) (by simp) ?_ (fun j h1 h2 => by omega)
  rw [show (l.length : Int) - 1 = ((l.length - 1 : Nat) : Int) by omega, Int.toNat_natCast, rdOf_set (by simp; omega), if_pos rfl]
/-- Another state in which what is used is as before: the values that are needed are as before. -/
theorem same_vals (l : List S73) (vars : Nat) (ks : List Int) (st st' : List Int) (ns us : List Bool) (T : Typed l (vars : Int) ks) (hc : ∀ j : Nat, j < l.length → ClosedAt l ns us j) (hu : ∀ v : Nat, v < vars → rdOf false us (v : Int) = true → rd st' (v : Int) = rd st (v : Int)) :
    ∀ (d i : Nat) (vs vs' : List Int), i + d = l.length → vs.length = i → vs'.length = i → (∀ j : Nat, j < i → rdOf false ns (j : Int) = true → rd vs' (j : Int) = rd vs (j : Int)) →
    ∀ j : Nat, j < l.length → rdOf false ns (j : Int) = true → rd (valsRun l st' d i vs') (j : Int) = rd (valsRun l st d i vs) (j : Int) := by
  intro d
  induction d with
  | zero =>
    intro i vs vs' hi h1 h2 h3 j hj hn
    exact h3 j (by omega) hn
  | succ d ih =>
    intro i vs vs' hi h1 h2 h3
    unfold valsRun
    refine ih (i + 1) _ _ (by omega) (by simp; omega) (by simp; omega) (fun j hj hn => ?_)
    by_cases e : j = i
    · subst e
      have e1 : rd (vs' ++ [valAt (rd_T73 l (j : Int)) vs' st']) (j : Int) = valAt (rd_T73 l (j : Int)) vs' st' := by
        rw [show ((j : Nat) : Int) = (vs'.length : Int) by omega, rd_app_eq]
      have e2 : rd (vs ++ [valAt (rd_T73 l (j : Int)) vs st]) (j : Int) = valAt (rd_T73 l (j : Int)) vs st := by
        rw [show ((j : Nat) : Int) = (vs.length : Int) by omega, rd_app_eq]
      rw [e1, e2]
      obtain ⟨g1, g2⟩ := hc j (by omega) hn
      unfold valAt
      rcases typed_place T (i := j) (by omega) with q | ⟨q, q1, q2⟩ | ⟨q, q1, q2⟩
      · rw [if_pos q, if_pos q]
      · rw [if_neg (by omega), if_pos q, if_neg (by omega), if_pos q]
        have := g1 q
        obtain ⟨v, hv⟩ := Int.eq_ofNat_of_zero_le q1
        rw [hv] at this ⊢
        exact hu v (by omega) this
      · rw [if_neg (by omega), if_neg (by omega), if_neg (by omega), if_neg (by omega)]
        have := g2 q
        obtain ⟨x, hx⟩ := Int.eq_ofNat_of_zero_le q1.1
        obtain ⟨y, hy⟩ := Int.eq_ofNat_of_zero_le q2.1
        rw [hx, hy] at this ⊢
        rw [h3 x (by omega) this.1, h3 y (by omega) this.2]
    · rw [rd_app_lt (by omega), rd_app_lt (by omega)]
      exact h3 j (by omega) hn
theorem has_loop (l : List Int) (a : Int) (hl : l.length ≤ 1000) : ∀ (d i : Nat), i + d = l.length → Dec (fun k => laws_wcHas.l0 k a l (l.length : Int) (i : Int)) (∃ j : Nat, i ≤ j ∧ j < l.length ∧ rd l (j : Int) = a) := by
  intro d
  induction d with
  | zero =>
    intro i hi
    exact Dec.no (Ev.step (Ev.neg (by omega) (Ev.val _)) (fun k => laws_wcHas.l0.eq_2 ..)) (by rintro ⟨j, h1, h2, _⟩; omega)
  | succ d ih =>
    intro i hi
    have hwi := wsucc i (by omega)
    by_cases c : rd l (i : Int) = a
    · exact Dec.yes (Ev.step (Ev.pos (by omega) (Ev.pos (by omega) (Ev.pos (by omega) (Ev.pos c (Ev.val _))))) (fun k => laws_wcHas.l0.eq_2 ..)) ⟨i, Nat.le_refl _, by omega, c⟩
    · obtain ⟨b, hb, hb2⟩ := ih (i + 1) (by omega)
      refine ⟨b, Ev.step (Ev.pos (by omega) (Ev.pos (by omega) (Ev.pos (by omega) (Ev.neg c ?_)))) (fun k => laws_wcHas.l0.eq_2 ..), hb2.trans ⟨fun ⟨j, h1, h2, h3⟩ => ⟨j, by omega, h2, h3⟩, fun ⟨j, h1, h2, h3⟩ => ⟨j, ?_, h2, h3⟩⟩⟩
      · rw [hwi]
        exact hb
      · rcases Nat.lt_or_eq_of_le h1 with h | rfl
        · exact h
        · exact absurd h3 c
theorem has_dec (l : List Int) (a : Int) (hl : l.length ≤ 1000) : Dec (fun k => laws_wcHas.f k l a) (a ∈ l) := by
  unfold laws_wcHas.f
  refine (has_loop l a hl l.length 0 (by omega)).iff ⟨fun ⟨j, _, h2, h3⟩ => ?_, fun h => ?_⟩
  · rw [← h3, rd_lt h2]
    exact List.getElem_mem h2
  · obtain ⟨j, hj, e⟩ := List.mem_iff_getElem.1 h
    exact ⟨j, by omega, hj, by rw [rd_lt hj]; exact e⟩
theorem law_loop (l : List S73) (st used : List Int) (hE : EvalOk l st) (h5 : st.length ≤ 5) (hU : UsedGood l st.length used) : ∀ (d i : Nat), i + d = st.length → Ev (fun k => laws_FnEvalUsed.l0 k l st (evalL l st) used (st.length : Int) (i : Int)) true := by
  intro d
  obtain ⟨hr, ns, us, n1, n2, n3, n4, n5⟩ := hU
  obtain ⟨t1, t2, t3⟩ := kindsL_typed hE.1
  induction d with
  | zero =>
    intro i hi
    exact Ev.step (Ev.neg (by omega) (Ev.val _)) (fun k => laws_FnEvalUsed.l0.eq_2 ..)
  | succ d ih =>
    intro i hi
    have hwi := wsucc i (by omega)
    have ih' := ih (i + 1) (by omega)
    obtain ⟨b, hb, hb2⟩ := has_dec used (i : Int) (by omega)
    cases b with
    | true =>
      refine Ev.step (Ev.pos (by omega) (Ev.bind hb (Ev.pos rfl ?_))) (fun k => laws_FnEvalUsed.l0.eq_2 ..)
      rw [hwi]
      exact ih'
    | false =>
      have hno : ¬ ((i : Int) ∈ used) := fun h => by simpa using hb2.2 h
      have hu0 : rdOf false us (i : Int) = false := by rw [← Bool.not_eq_true]; exact fun h => hno ((n5 i (by omega)).2 h)
      have S' : StOk (st.set i 7) := by
        intro j hj
        by_cases e : j = i
        · subst e
          rw [rd_set_eq (by omega)]
          omega
        · rw [rd_set_ne (by omega)]
          exact hE.2 j (by simpa using hj)
      have E' : EvalOk l (st.set i 7) := ⟨by rw [List.length_set]; exact hE.1, S'⟩
      have hsame : evalL l (st.set i 7) = evalL l st := by
        unfold evalL valsL
        rw [show (l.length : Int) - 1 = ((l.length - 1 : Nat) : Int) by omega] at n3 ⊢
        refine same_vals l st.length _ st (st.set i 7) ns us t3 n4 (fun v hv h => ?_) l.length 0 [] [] (by omega) rfl rfl (fun j hj => by omega) _ (by omega) n3
        rw [rd_set_ne]
        intro e
        subst e
        rw [hu0] at h
        cases h
      refine Ev.step (Ev.pos (by omega) (Ev.bind hb (Ev.neg (by decide) ?_))) (fun k => laws_FnEvalUsed.l0.eq_2 ..)
      refine Ev.bind (a := ([] : List Int)) (Ev.val _) (Ev.pos (by simp; omega) (Ev.bind (a := st) (Ev.valEq (by simp)) (Ev.pos (by omega) (Ev.pos (by omega) ?_))))
      rw [Int.toNat_natCast]
      refine Ev.bind ((impl_eval_ev l _).1 E') (Ev.pos rfl (Ev.pos hsame ?_))
      rw [hwi]
      exact ih'
theorem FnEvalUsed : laws_FnEvalUsed.Pure := by
  intro code _ _ hc
  apply Ev.get
  unfold laws_FnEvalUsed.f
  by_cases hb : (code.length : Int) > 1048576
  · exact Ev.pos hb (Ev.val _)
  refine Ev.neg hb ?_
  obtain ⟨⟨l, st⟩, hd, h5⟩ := draweval_tot code hc
  simp only at h5
  refine Ev.bind hd ?_
  obtain ⟨v, b, h1, h2, h3, h4, h6⟩ := evals_same l st (by omega)
  refine Ev.bind h2 (Ev.bind h1 (Ev.pos rfl (Ev.neg (by simp) ?_)))
  cases b with
  | false => exact Ev.step (Ev.pos rfl (Ev.pos rfl (Ev.pos rfl (Ev.val _)))) (fun k => laws_FnEvalUsed.j0.eq_2 ..)
  | true =>
    have hE := h3.1 rfl
    have hv := h4 rfl
    subst hv
    obtain ⟨used, hu, hg⟩ := usedBy_tot l st.length hE.1
    exact Ev.step (Ev.neg (by simp) (Ev.bind hu (law_loop l st used hE h5 hg st.length 0 (by omega)))) (fun k => laws_FnEvalUsed.j0.eq_2 ..)

end Go.Proofs.Ytpfkgmcbogcmoaa.Pure
