-- Written by a program of this session (mk.py). Lean checks it.
import Derived.Test.YtkfmgfdbdgjfiaaQFnExactCoreOfx0
import Derived.Test.YtkfmgfdbdgjfiaaQFnExactCoreOfx5
import Derived.Test.YtkfmgfdbdgjfiaaQFnExactCoreOfx6
import Derived.Test.YtkfmgfdbdgjfiaaQFnExactCoreOfx7
namespace Go.Proofs.Ytkfmgfdbdgjfiaa.QFnExactCoreOf
open Go.RowKit Go.Proofs.YtkfmgfdbdgjfiaaW.PrintWords Go.Proofs.YtkfmgfdbdgjfiaaW.PrintLast Go.Proofs.YtkfmgfdbdgjfiaaW.PrintMore
attribute [local go_sem] max2_int min2_int max_two min_two max_three min_three max_four min_four   -- for this text's walks alone
set_option linter.unusedVariables false
set_option linter.unusedSimpArgs false

/-! ### impl_satisfiable: function 73 -/
def impl_satisfiable.f (k : Nat) (a0 : Int) (l1 : List (List Int)) : Option Bool := impl_models.f (fun (_ : Bool) (_ : Int) => (false, true)) k false a0 l1
theorem impl_satisfiable.mono : ∀ a0 a1 k, LeO (impl_satisfiable.f k a0 a1) (impl_satisfiable.f (k + 1) a0 a1) := fun a0 a1 k => impl_models.mono _ false a0 a1 k
theorem impl_satisfiable_visit (B gb : Nat) (hB : B ≤ gb) : ∀ (s : Bool) (x : Int) W, W.heap[gb]? = some (.cells #[.bool s] 4 (0, 0)) → Calls Try.prog 104 (#[.int .i64 x] ++ #[.pointer (some ⟨gb, 0, none⟩)]) W fun e w' => e = .returned (.bool false) ∧ w'.heap[gb]? = some (.cells #[.bool true] 4 (0, 0)) ∧ Kept W w' (fun k => k = gb) ∧ Below B W w' := by
 intro s x W hW
 have hcz : W.cell? ⟨gb, 0, none⟩ = some (.bool s) := (blk_cell hW 0).trans rfl
 have hfz := blk_frozen hW 0
 have HW := Aside0.mk hW
 clear hW
 show Calls Try.prog 104 #[.int .i64 x, .pointer (some ⟨gb, 0, none⟩)] W _
 go_enter Try.func104, Try.ntmps104
 go_wp2
 go_ret
 exact ⟨rfl, blk_set HW.out 0 _, Kept.setCell (S := fun k => k = gb) (Kept.refl _ _) (.inl rfl) _, (Below.refl _ _).setCell hB _⟩
set_option maxHeartbeats 400000 in
theorem impl_satisfiable.calls (k : Nat) (a0 : Int) (A1 : Option Addr) (c1 : Nat) (l1 : List (List Int)) (r : Bool) (w : World) (hr1 : Kd.C (Kd.slice 3 (Kd.int .i64)) w A1 l1.length l1) (hc1 : l1.length ≤ c1) (h : impl_satisfiable.f k a0 l1 = some r) :
  Calls Try.prog 73 #[.int .i64 a0, .slice A1 l1.length c1] w fun e w' => e = .returned (.bool r) ∧ Below w.heap.size w w' := by
 have eg : ∀ args w, (callFunc 104 args).run Try.prog w = .ok (.enter 104 args) w := enters_of Try.func104 (by kernel_rfl) rfl
 have EG := Aside0.mk eg
 have HR := Aside0.mk hr1
 have HC1 := Aside0.mk hc1
 have H := Aside0.mk h
 clear eg h hr1 hc1
 go_enter Try.func73, Try.ntmps73
 go_wp2_with (go_at_call 78; refine (impl_models.calls _ w.heap.size w (fun k => k = w.heap.size) (fun s W => W.heap[w.heap.size]? = some (.cells #[.bool s] 4 (0, 0))) _ _ EG.out k false a0 A1 c1 l1 r _ (fun i hi => by rw [hi]; simp) (fun s W W1 h1 h2 => (h2 _ rfl).trans h1) (impl_satisfiable_visit w.heap.size w.heap.size (Nat.le_refl _)) (blk_new _ _) (below_alloc (Below.refl _ _) _) (by simp) (Kd.C_alloc HR.out _) HC1.out H.out).mono ?_; rintro e w1 ⟨rfl, hi_, hb_⟩; have hcz1 : w1.cell? ⟨w.heap.size, 0, none⟩ = some (.bool r) := (blk_cell hi_ 0).trans rfl; have hfz1 := blk_frozen hi_ 0; have HB1 := Aside0.mk hb_; clear hi_ hb_)
 go_ret
 exact ⟨rfl, HB1.out⟩

/-! ### impl_numbered: function 85 -/
def impl_numbered.l0 : Nat → List Int → Int → Int → Option (List Int)
 | 0, _, _, _ => none
 | k + 1, x3, x8, x9 => if x9 < x8 then (if 0 ≤ x9 then (if x9 < (x3.length : Int) then (impl_numbered.l0 k (x3.set (x9 : Int).toNat x9) x8 (wrap64 (x9 + 1))) else (none)) else (none)) else (some x3)
def impl_numbered.f (k : Nat) (a0 : Int) : Option (List Int) := if 0 ≤ a0 then (if (a0 : Int).toNat ≤ 35184372088832 then ((some (List.replicate (a0 : Int).toNat 0 : List Int)).bind fun y222 => (impl_numbered.l0 k y222 (y222.length : Int) 0)) else (none)) else (none)
theorem impl_numbered.mono_l : ∀ k, (∀ y0 y1 y2, LeO (impl_numbered.l0 k y0 y1 y2) (impl_numbered.l0 (k + 1) y0 y1 y2))
 | 0 => fun _ _ _ r h => by simp [impl_numbered.l0] at h
 | k + 1 => by
  have ih0 := impl_numbered.mono_l k
  ·intro y0 y1 y2
   unfold impl_numbered.l0
   repeat' first
   | (with_reducible exact ih0 _ _ _)
   | (with_reducible exact LeO.refl _)
   | (with_reducible exact LeO.none _)
   | (with_reducible refine LeO.ite ?_ ?_)
   | (with_reducible refine LeO.bind ?_ (fun _ => ?_))
   | exact ih0 _ _ _
   | exact LeO.none _
   | refine LeO.ite ?_ ?_
   | refine LeO.bind ?_ (fun _ => ?_)
theorem impl_numbered.mono : ∀ a0 k, LeO (impl_numbered.f k a0) (impl_numbered.f (k + 1) a0) := by
 intro a0 k
 have ih0 := impl_numbered.mono_l k
 unfold impl_numbered.f
 repeat' first
   | (with_reducible exact ih0 _ _ _)
   | (with_reducible exact LeO.refl _)
   | (with_reducible exact LeO.none _)
   | (with_reducible refine LeO.ite ?_ ?_)
   | (with_reducible refine LeO.bind ?_ (fun _ => ?_))
   | exact ih0 _ _ _
   | exact LeO.none _
   | refine LeO.ite ?_ ?_
   | refine LeO.bind ?_ (fun _ => ?_)
set_option maxHeartbeats 8000000 in
set_option maxRecDepth 100000 in
theorem impl_numbered.calls (k : Nat) (a0 : Int) (r : List Int) (w : World) (h : impl_numbered.f k a0 = some r) :
  Calls Try.prog 85 #[.int .i64 a0] w fun e w' => ∃ v0_ : Value, e = .returned (v0_) ∧ Kd.R (Kd.int .i64) 3 w' w.heap.size (fun _ => True) v0_ r ∧ Below w.heap.size w w' := by
 have HB := Aside0.mk (Below.refl w.heap.size w)
 have H : (if 0 ≤ a0 then (if (a0 : Int).toNat ≤ 35184372088832 then ((some (List.replicate (a0 : Int).toNat 0 : List Int)).bind fun y222 => (impl_numbered.l0 k y222 (y222.length : Int) 0)) else (none)) else (none)) = some r := h
 clear h
 by_cases c2 : 0 ≤ a0
 ·rw [if_pos c2] at H
  have c2b0 := eq_true c2
  have c2b1 : decide (0 ≤ a0) = true := decide_eq_true c2
  clear c2
  by_cases c3 : (a0 : Int).toNat ≤ 35184372088832
  ·rw [if_pos c3] at H
   have c3b0 := eq_true c3
   have c3b1 : decide ((a0 : Int).toNat ≤ 35184372088832) = true := decide_eq_true c3
   clear c3
   obtain ⟨y222, hy222⟩ : ∃ y_ : List Int, y_ = (List.replicate (a0 : Int).toNat 0) := ⟨_, rfl⟩
   replace H : (impl_numbered.l0 k y222 (y222.length : Int) 0) = some r := by first | (rw [hy222]; with_reducible exact H) | (have H2_ := (Option.bind_some _ _).symm.trans H; rw [hy222]; with_reducible exact H2_) | (have H2_ := (Option.bind_some _ _).symm.trans H; with_reducible exact H2_) | with_reducible exact H | (rw [hy222]; exact H) | exact H
   have Ny222 := Aside0.mk hy222
   clear hy222
   have H' := Aside0.mk H
   clear H
   go_enter Try.func85, Try.ntmps85
   go_wp2_with (first | ((with_reducible refine gate_dst (N := 6) rfl ?_); refine Kd.R_make (Kd.int .i64) _ 3 rfl (N := 6) rfl 25 _ _ rfl a0 rfl rfl Try.underlying25 (.int .i64 0) 8 info3 rfl (by decide) (by omega) 0 (ok := fun _ => True) (okp := fun _ => True) rfl (fun _ hk => hk) trivial (of_decide_eq_true (by first | (with_reducible assumption) | assumption)) (Nat.le_trans (Nat.mul_le_mul_right _ (of_decide_eq_true (by first | (with_reducible assumption) | assumption) : a0.toNat ≤ 35184372088832)) (by omega)) (Below.refl _ _) (Nat.le_refl _) ?_; intro v223 w4 ho5 hb hg_ hnew_; clear hg_ hnew_; (first | rw [← Ny222.out] at ho5 | (simp only [Int.reduceToNat] at ho5; rw [← Ny222.out] at ho5)); have n0_ := Aside0.mk (Kd.R_lower ho5 (below_size (by repeat (first | (with_reducible first | exact HB.out | apply bwA | apply bwN | apply bwD) | exact HB.out)))); have n1_ := Aside0.mk (below_step (by repeat (first | (with_reducible first | exact HB.out | apply bwA | apply bwN | apply bwD) | exact HB.out)) hb); clear HB; have HO224 := n0_; have HB := n1_; clear n0_ n1_; clear hb ho5; obtain ⟨Ao6, co6, eo6⟩ := Kd.R_slice HO224.out; subst eo6))
   go_loopg [9] k (fun kq v9 w' => ∃ (x3_1 : List Int) (x9_1 : Int), v9 = .int .i64 x9_1 ∧ Aside0 (impl_numbered.l0 kq x3_1 (y222.length : Int) x9_1 = some r) ∧ Aside0 (kq ≤ k) ∧ Aside0 (Kd.R (Kd.int .i64) 3 w' w.heap.size (fun _ => True) (.slice Ao6 y222.length co6) x3_1) ∧ Aside0 (Below w.heap.size w w'))
   case atStart => exact ⟨(y222), (0), (by first | rfl | (simp; done) | (simp [*]; done)), H', ⟨Nat.le_refl _⟩, ⟨by (with_reducible repeat (first | apply Kd.R_alloc | apply Kd.R_drewN | apply Kd.R_drew)); exact HO224.out⟩, ⟨by repeat (first | (with_reducible first | exact HB.out | apply bwA | apply bwN | apply bwD) | exact HB.out)⟩⟩
   case round =>
    clear H'
    try clear c2
    try clear c2b0
    try clear c2b1
    try clear p2
    try clear c3
    try clear c3b0
    try clear c3b1
    obtain ⟨x3_1, x9_1, rfl, HA, HK1, HO_3, HB⟩ := hrel
    have hl3_1 := (Kd.R_reads' HO_3.out).1
    rw [hl3_1] at HO_3
    (try simp only [hl3_1])
    cases gk with
    | zero => exact absurd HA.out (by simp [impl_numbered.l0])
    | succ k1 =>
     have H := HA.out
     clear HA
     simp only [impl_numbered.l0] at H
     by_cases c7 : x9_1 < (y222.length : Int)
     ·rw [if_pos c7] at H
      have c7b0 : decide (x9_1 < (y222.length : Int)) = true := decide_eq_true c7
      clear c7
      by_cases c8 : 0 ≤ x9_1
      ·rw [if_pos c8] at H
       have c8b0 : decide (0 ≤ x9_1) = true := decide_eq_true c8
       clear c8
       by_cases c9 : x9_1 < (x3_1.length : Int)
       ·rw [if_pos c9] at H
        have c9b0 : decide (x9_1 < (x3_1.length : Int)) = true := decide_eq_true c9
        clear c9
        obtain ⟨y225, hy225⟩ : ∃ y_ : List Int, y_ = (x3_1.set (x9_1 : Int).toNat x9_1) := ⟨_, rfl⟩
        replace H : (impl_numbered.l0 k1 y225 (y222.length : Int) (wrap64 (x9_1 + 1))) = some r := by first | (rw [hy225]; with_reducible exact H) | (have H2_ := (Option.bind_some _ _).symm.trans H; rw [hy225]; with_reducible exact H2_) | (have H2_ := (Option.bind_some _ _).symm.trans H; with_reducible exact H2_) | with_reducible exact H | (rw [hy225]; exact H) | exact H
        have Ny225 := Aside0.mk hy225
        clear hy225
        have H' := Aside0.mk H
        clear H
        have p10 : 0 ≤ (x9_1 : Int) := of_decide_eq_true (by first | (with_reducible assumption) | assumption)
        have q10 : (x9_1 : Int) < ((x3_1.length : Int) : Int) := of_decide_eq_true (by first | (with_reducible assumption) | assumption)
        obtain ⟨go10, co10, eo10, gb10, gl10, cl10, HG10⟩ := Kd.R_form HO_3.out (by omega)
        (first | cases eo10 | (injection eo10 with ea_ en_ ec_; (first | subst ea_ | (injection ea_ with ea_; subst ea_)); subst ec_; clear en_))
        have GB10 := Aside0.mk gb10
        have GG10 := Aside0.mk HG10
        clear gb10 gl10 HG10
        obtain ⟨hx10_0, hf10_0⟩ := Kd.R_celln 0 HO_3.out (x9_1 : Int) p10 q10
        replace p10 := eq_true p10
        replace q10 := eq_true q10
        have HP11 := Kd.R_putg HO_3.out (x9_1 : Int) x9_1
        go_wp2_with (first | ((with_reducible refine gate_store (t := 3) (p := 15) rfl ?_); refine store_event (t := 3) (p := 15) (v := ?vo_w12) (w1 := (wr.setCell ⟨go10, (x9_1 : Int).toNat, none⟩ (.int .i64 x9_1))) ?hg ?ho ?hn ?hr ?_; (case ho => rfl); (case hg => rfl); (case hn => rfl); (case hr => first | (go_simp; done) | (go_simp; rfl)); intro w12 hw; have hg : wr.grownBy w12 (some go10) := (by rw [hw]; exact HP11.2); have hp_ : Kd.R (Kd.int .i64) 3 w12 w.heap.size (fun _ => True) (.slice (some ⟨go10, 0, none⟩) x3_1.length co6) y225 := (by rw [hw, Ny225.out]; exact HP11.1); clear HP11; have n0_ := Aside0.mk (hp_); have n1_ := Aside0.mk ((by rw [hw]; exact below_set (HB.out) GB10.out : Below w.heap.size w w12)); clear HO_3; clear HB; have HO_3 := n0_; have HB := n1_; clear n0_ n1_; clear hg hw hp_))
        (try simp only [← hl3_1])
        go_roundg k1
        case measure => have := HK1.out; omega
        case rel => exact ⟨(y225), (wrap64 (x9_1 + 1)), (by first | rfl | (simp; done) | (simp [*]; done)), H', ⟨by have := HK1.out; omega⟩, ⟨by (try simp only [hl3_1]); (with_reducible repeat (first | apply Kd.R_alloc | apply Kd.R_drewN | apply Kd.R_drew)); exact HO_3.out⟩, ⟨by repeat (first | (with_reducible first | exact HB.out | apply bwA | apply bwN | apply bwD) | exact HB.out)⟩⟩
       ·rw [if_neg c9] at H
        exact absurd H (by simp)
      ·rw [if_neg c8] at H
       exact absurd H (by simp)
     ·rw [if_neg c7] at H
      have c7b0 : decide (x9_1 < (y222.length : Int)) = false := decide_eq_false c7
      clear c7
      obtain rfl := Option.some.inj H
      (try rw [hl3_1] at c7b0)
      go_wp2
      go_ret
      exact ⟨_, by first | rfl | (simp [errW_none, errW_some] <;> rfl) | (simp [*, errW_none, errW_some] <;> rfl), by (with_reducible repeat (first | apply Kd.R_alloc | apply Kd.R_drewN | apply Kd.R_drew)); exact HO_3.out, by repeat (first | (with_reducible first | exact HB.out | apply bwA | apply bwN | apply bwD) | exact HB.out)⟩
  ·rw [if_neg c3] at H
   exact absurd H (by simp)
 ·rw [if_neg c2] at H
  exact absurd H (by simp)

/-! ### slices_IndexFunc_int_int_109: function 109 -/
set_option maxHeartbeats 400000 in
theorem slices_IndexFunc_int_int_109.calls (g : Nat) (lb : Array Value) (eg : ∀ args w, (callFunc g args).run Try.prog w = .ok (.enter g args) w)
  (A0 : Option Addr) (c0 : Nat) (l0 : List Int) (p : Int → Option Bool) (r : Int) (w : World) (hr0 : Kd.C (Kd.int .i64) w A0 l0.length l0)
  (hp : ∀ (i : Int), 0 ≤ i → i < l0.length → ∀ b, p i = some b → ∀ W, Below w.heap.size w W → Calls Try.prog g (#[.int .i64 (rd l0 i)] ++ lb) W fun e w' => e = .returned (.bool b) ∧ Below W.heap.size W w')
  (h : Copy.idxO p l0.length 0 = some r) :
  Calls Try.prog 109 #[.slice A0 l0.length c0, .func (.func g) #[] lb] w fun e w' => e = .returned (.int .i64 r) ∧ Below w.heap.size w w' := by
 have hn : l0.length ≤ 9223372036854775807 := hr0.2.1
 have HR0 := Aside0.mk hr0
 have HP := Aside0.mk hp
 have H := Aside0.mk h
 clear hp hr0 h
 go_enter Try.func109, Try.ntmps109
 go_wp2
 go_loopg [5, 8] l0.length (fun gg _ s8 wr => ∃ kk : Int, 0 ≤ kk ∧ kk ≤ (l0.length : Int) ∧ Aside0 (l0.length ≤ gg + kk) ∧ s8 = .int .i64 kk ∧ Aside0 (Below w.heap.size w wr) ∧ Aside0 (Copy.idxO p (l0.length - kk.toNat) kk = some r))
 case atStart => exact ⟨0, by omega, by omega, ⟨by omega⟩, rfl, ⟨Below.refl _ _⟩, H⟩
 case round =>
  clear H
  obtain ⟨kk, h0, hkk, hg, rfl, HB, A⟩ := hrel
  by_cases hlt : kk < (l0.length : Int)
  ·have hltb : decide (kk < (l0.length : Int)) = true := decide_eq_true hlt
   obtain ⟨ad, e1, hx0⟩ := Kd.at_int (Kd.C_below HR0.out HB.out) kk h0 hlt
   cases e1
   have hd : l0.length - kk.toNat = (l0.length - (kk + 1).toNat) + 1 := by omega
   have A1 := A.out
   rw [hd, Copy.idxO] at A1
   clear A hd
   obtain ⟨b, hq, A1⟩ := Option.bind_eq_some_iff.mp A1
   have hcall := Aside0.mk (HP.out kk h0 hlt b hq _ HB.out)
   have H0 := Aside0.mk h0
   replace h0 := eq_true h0
   clear hq
   cases b with
   | true =>
    rw [if_pos rfl] at A1
    obtain rfl := Option.some.inj A1
    clear A1
    go_wp2_with (go_at_fn g; refine hcall.out.mono ?_; rintro e w' ⟨rfl, HB1⟩)
    go_ret
    exact ⟨rfl, below_then HB.out HB.out.size HB1⟩
   | false =>
    have A' := Aside0.mk A1
    clear A1
    have hw : wrap64 (kk + 1) = kk + 1 := by have := H0.out; unfold wrap64; omega
    have HW := Aside0.mk hw
    clear hw
    go_wp2_with (go_at_fn g; refine hcall.out.mono ?_; rintro e w' ⟨rfl, HB1⟩)
    go_roundg (l0.length - (kk + 1).toNat)
    case measure => have := hg.out; have := H0.out; omega
    case rel => exact ⟨kk + 1, by have := H0.out; omega, by omega, ⟨by have := H0.out; omega⟩, by first | rfl | rw [HW.out], ⟨below_then HB.out HB.out.size HB1⟩, ⟨by have := A'.out; simpa using this⟩⟩
  ·have hltb : decide (kk < (l0.length : Int)) = false := decide_eq_false hlt
   have this : kk.toNat = l0.length := by omega
   have A1 := A.out
   rw [this, Nat.sub_self, Copy.idxO] at A1
   obtain rfl := Option.some.inj A1
   clear A A1 this
   go_wp2
   go_ret
   exact ⟨rfl, HB.out⟩

/-! ### slices_DeleteFunc_int_int: function 86 -/
theorem slices_DeleteFunc_int_int.take_succ (l : List Int) (i : Nat) (h : i < l.length) : l.take (i + 1) = l.take i ++ [rd l (i : Int)] := by
 rw [List.take_add_one, List.getElem?_eq_getElem h]
 show l.take i ++ [l[i]] = l.take i ++ [l.getD ((i : Int)).toNat 0]
 rw [Int.toNat_natCast, List.getD_eq_getElem?_getD, List.getElem?_eq_getElem h]
 rfl
theorem slices_DeleteFunc_int_int.idx_tot (p : Int → Bool) (l : List Int) : ∀ (d i : Nat), i + d = l.length → (l.take i).filter (fun x => !p x) = l.take i →
  ∃ r : Int, Copy.idxO (fun j => some (p (rd l j))) d (i : Int) = some r ∧ ((r = -1 ∧ l.filter (fun x => !p x) = l) ∨ ∃ k : Nat, r = (k : Int) ∧ k < l.length ∧ (l.take (k + 1)).filter (fun x => !p x) = l.take k) := by
 intro d
 induction d with
 | zero =>
  intro i hi hf
  refine ⟨-1, rfl, .inl ⟨rfl, ?_⟩⟩
  rwa [List.take_of_length_le (by omega)] at hf
 | succ d ih =>
  intro i hi hf
  have ht := slices_DeleteFunc_int_int.take_succ l i (by omega)
  rw [Copy.idxO]
  cases hp : p (rd l (i : Int)) with
  | true =>
   refine ⟨i, by simp, .inr ⟨i, rfl, by omega, ?_⟩⟩
   rw [ht, List.filter_append, hf]
   simp [hp]
  | false =>
   obtain ⟨r, h1, h2⟩ := ih (i + 1) (by omega) (by rw [ht, List.filter_append, hf]; simp [hp])
   exact ⟨r, by simpa using h1, h2⟩
theorem slices_DeleteFunc_int_int.clears {e base g n cap : Nat} {ok : Nat → Prop} : ∀ (m o : Nat) (W : World) (xs : List Int), Kd.R (Kd.int .i64) e W base ok (.slice (some ⟨g, 0, none⟩) n cap) xs →
  ∃ ys, Kd.R (Kd.int .i64) e (W.setCells g o (List.replicate m (.int .i64 0))) base ok (.slice (some ⟨g, 0, none⟩) n cap) ys ∧ ys.take o = xs.take o ∧ ys.length = xs.length ∧ W.grownBy (W.setCells g o (List.replicate m (.int .i64 0))) (some g) := by
 intro m
 induction m with
 | zero =>
  intro o W xs h
  exact ⟨xs, h, rfl, rfl, World.grownBy.refl W _⟩
 | succ m ih =>
  intro o W xs h
  obtain ⟨h1, h2⟩ := Kd.R_putg h (o : Int) 0
  rw [Int.toNat_natCast] at h1 h2
  obtain ⟨ys, k1, k2, k3, k4⟩ := ih (o + 1) _ _ h1
  refine ⟨ys, k1, ?_, by rw [k3, List.length_set], h2.trans k4⟩
  have := congrArg (List.take o) k2
  rw [List.take_take, List.take_take, Nat.min_eq_left (by omega)] at this
  rw [this, List.take_set, List.set_eq_of_length_le (by simp; omega)]
theorem slices_DeleteFunc_int_int.cut {e base g n cap : Nat} {ok : Nat → Prop} {W : World} {xs : List Int} (h : Kd.R (Kd.int .i64) e W base ok (.slice (some ⟨g, 0, none⟩) n cap) xs) (m : Nat) (hm : m ≤ n) : Kd.R (Kd.int .i64) e W base ok (.slice (some ⟨g, 0, none⟩) m cap) (xs.take m) := by
 have hn := (Kd.R_reads' h).1
 have hl : (xs.take m).length = m := by rw [List.length_take]; omega
 refine Kd.R_of_own ?_ h.1
 obtain ⟨h1, h2⟩ := Kd.own_of_R h
 refine ⟨by simp [encs], ?_⟩
 rcases h2 with ⟨e1, _⟩ | ⟨g', cap', cur, e1, hb, hh, hc, hx, hs, ht⟩
 ·cases e1
 ·cases e1
  refine .inr ⟨g, cap, cur, by rw [hl], hb, hh, by omega, hx, hs, ?_⟩
  rw [hl, Nat.mul_one]
  have := congrArg (List.take m) ht
  rw [List.take_take, Nat.min_eq_left (by omega)] at this
  rw [this]
  simp [encs]
def slices_DeleteFunc_int_int.Inv (p : Int → Bool) (l0 : List Int) (i j : Nat) (xs : List Int) : Prop :=
 xs.length = l0.length ∧ xs.take i = (l0.take j).filter (fun x => !p x) ∧ i ≤ xs.length ∧ ∀ t : Nat, j ≤ t → t < l0.length → rd xs (t : Int) = rd l0 (t : Int)
theorem slices_DeleteFunc_int_int.Inv.keep {p : Int → Bool} {l0 : List Int} {i j : Nat} {xs : List Int} (h : slices_DeleteFunc_int_int.Inv p l0 i j xs) (hij : i < j) (hj : j < l0.length) (hp : p (rd l0 (j : Int)) = false) : slices_DeleteFunc_int_int.Inv p l0 (i + 1) (j + 1) (xs.set i (rd l0 (j : Int))) := by
 obtain ⟨h1, h2, h3, h4⟩ := h
 refine ⟨by rw [List.length_set, h1], ?_, by rw [List.length_set]; omega, fun t ht htl => ?_⟩
 ·rw [slices_DeleteFunc_int_int.take_succ l0 j hj, List.filter_append, ← h2, List.take_add_one, List.take_set, List.set_eq_of_length_le (by simp [Nat.min_le_left]), List.getElem?_set_self (by omega)]
  simp [hp]
 ·rw [← h4 t (by omega) htl]
  show (xs.set i _).getD _ 0 = xs.getD _ 0
  rw [Int.toNat_natCast, List.getD_eq_getElem?_getD, List.getD_eq_getElem?_getD, List.getElem?_set_ne (by omega)]
theorem slices_DeleteFunc_int_int.Inv.skip {p : Int → Bool} {l0 : List Int} {i j : Nat} {xs : List Int} (h : slices_DeleteFunc_int_int.Inv p l0 i j xs) (hj : j < l0.length) (hp : p (rd l0 (j : Int)) = true) : slices_DeleteFunc_int_int.Inv p l0 i (j + 1) xs := by
 obtain ⟨h1, h2, h3, h4⟩ := h
 refine ⟨h1, ?_, h3, fun t ht htl => h4 t (by omega) htl⟩
 rw [slices_DeleteFunc_int_int.take_succ l0 j hj, List.filter_append, ← h2]
 simp [hp]
set_option maxHeartbeats 4000000 in
set_option maxRecDepth 100000 in
theorem slices_DeleteFunc_int_int.calls (g : Nat) (lb : Array Value) (eg : ∀ args w, (callFunc g args).run Try.prog w = .ok (.enter g args) w)
  (A0 : Option Addr) (c0 : Nat) (l0 : List Int) (p : Int → Bool) (w : World) (base : Nat) (ok : Nat → Prop) (hr0 : Kd.R (Kd.int .i64) 3 w base ok (.slice A0 l0.length c0) l0)
  (hp : ∀ (x : Int) (W : World), w.grownBy W (Value.slice A0 l0.length c0).ownBlock → Calls Try.prog g (#[.int .i64 x] ++ lb) W fun e w' => e = .returned (.bool (p x)) ∧ Below W.heap.size W w') :
  Calls Try.prog 86 #[.slice A0 l0.length c0, .func (.func g) #[] lb] w fun e w' => ∃ v : Value, e = .returned v ∧ v.ownBlock = (Value.slice A0 l0.length c0).ownBlock ∧ Kd.R (Kd.int .i64) 3 w' base ok v (l0.filter fun x => !p x) ∧ w.grownBy w' (Value.slice A0 l0.length c0).ownBlock := by
 obtain ⟨r, hx, hr⟩ := slices_DeleteFunc_int_int.idx_tot p l0 l0.length 0 (by omega) (by simp)
 have hI := slices_IndexFunc_int_int_109.calls g lb eg A0 c0 l0 (fun j => some (p (rd l0 j))) r w (Kd.R_reads' hr0).2.2 (fun i _ _ b hb W hW => by
  obtain rfl := Option.some.inj hb
  exact hp (rd l0 i) W (grown_of_below hW _)) hx
 have hlen : l0.length ≤ 9223372036854775807 := (Kd.R_reads' hr0).2.2.2.1
 rcases hr with ⟨rfl, hall⟩ | ⟨k0, rfl, hk0, hpre⟩
 ·rw [hall]
  have HR0 := Aside0.mk hr0
  have HI := Aside0.mk hI
  clear hI hr0 hp hx hall
  go_enter Try.func86, Try.ntmps86
  go_wp2_with (go_at_call 109; refine HI.out.mono ?_; rintro e w' ⟨rfl, HB1⟩)
  go_ret
  exact ⟨_, rfl, rfl, Kd.R_below HR0.out HB1, grown_of_below HB1 _⟩
 ·obtain ⟨go, c0_, eo, gb, gl, cells, hg⟩ := Kd.R_form hr0 (by omega)
  cases eo
  have hcap := (Kd.R_reads' hr0).2.1
  have HR0 := Aside0.mk hr0
  have HI := Aside0.mk hI
  have HP := Aside0.mk hp
  have HL := Aside0.mk hpre
  have zer_ : ∀ w, (zeroValue 3).run Try.prog w = .ok (.int .i64 0) w := by
   intro w
   go_simp
  have und_ : Try.prog.underlying 25 = some (.slice 3) := Try.underlying25
  clear hI hr0 hp hx hpre hg
  have hne1 : ((k0 : Int) == -1) = false := beq_eq_false_iff_ne.2 (by omega)
  go_enter Try.func86, Try.ntmps86
  go_wp2_with (go_at_call 109; refine HI.out.mono ?_; rintro e w' ⟨rfl, HB1⟩)
  have HO := Aside0.mk (Kd.R_below HR0.out HB1)
  have HG := Aside0.mk (grown_of_below HB1 (some go))
  clear HB1 HR0 HI
  go_loopg [5, 6, 7] l0.length (fun gg s5 s6 _ wr => ∃ (i j : Nat) (xs : List Int), s5 = .int .i64 i ∧ s6 = .int .i64 j ∧ j ≤ l0.length ∧ l0.length - j ≤ gg ∧ i < j ∧ Aside0 (Kd.R (Kd.int .i64) 3 wr base ok (.slice (some ⟨go, 0, none⟩) l0.length c0) xs) ∧ Aside0 (w.grownBy wr (some go)) ∧ Aside0 (slices_DeleteFunc_int_int.Inv p l0 i j xs))
  case atStart => exact ⟨k0, k0 + 1, l0, rfl, by go_num, by omega, by omega, by omega, HO, HG, ⟨⟨rfl, by rw [HL.out], by omega, fun _ _ _ => rfl⟩⟩⟩
  case round =>
   clear HO HG HL
   obtain ⟨i, j, xs, rfl, rfl, hjd, hgg, hij, HO, HG, HV⟩ := hrel
   by_cases hlt : j < l0.length
   ·have hltz : (j : Int) < (l0.length : Int) := by omega
    obtain ⟨cj, _⟩ := Kd.R_celln 0 HO.out (j : Int) (by omega) (by omega)
    have ej : rd xs (j : Int) = rd l0 (j : Int) := HV.out.2.2.2 j (Nat.le_refl _) hlt
    replace cj : wr.cell? ⟨go, j, none⟩ = some (.int .i64 (rd l0 (j : Int))) := by
     rw [← ej]
     exact cj
    have hcall := Aside0.mk (HP.out (rd l0 (j : Int)) wr HG.out)
    clear ej
    cases hq : p (rd l0 (j : Int)) with
    | false =>
     rw [hq] at hcall
     have HQ := Aside0.mk hq
     clear hq
     go_wp2_with (go_at_fn g; refine hcall.out.mono ?_; rintro e w' ⟨rfl, HB1⟩; have HO2 := Aside0.mk (Kd.R_below HO.out HB1); have HG2 := Aside0.mk (HG.out.trans (grown_of_below HB1 _)); obtain ⟨ci, fi⟩ := Kd.R_celln 0 HO2.out (i : Int) (by omega) (by omega); rw [Int.toNat_natCast] at ci fi; have HP2 := Aside0.mk (Kd.R_putg HO2.out (i : Int) (rd l0 (j : Int))); clear hcall HB1 HO HG)
     go_roundg (l0.length - (j + 1))
     case measure => omega
     case rel =>
      obtain ⟨h1, h2⟩ := HP2.out
      rw [Int.toNat_natCast] at h1 h2
      exact ⟨i + 1, j + 1, _, by go_num, by go_num, by omega, Nat.le_refl _, by omega, ⟨h1⟩, ⟨HG2.out.trans h2⟩, ⟨HV.out.keep hij hlt HQ.out⟩⟩
    | true =>
     rw [hq] at hcall
     have HQ := Aside0.mk hq
     clear hq
     go_wp2_with (go_at_fn g; refine hcall.out.mono ?_; rintro e w' ⟨rfl, HB1⟩; have HO2 := Aside0.mk (Kd.R_below HO.out HB1); have HG2 := Aside0.mk (HG.out.trans (grown_of_below HB1 _)); clear hcall HB1 HO HG)
     go_roundg (l0.length - (j + 1))
     case measure => omega
     case rel => exact ⟨i, j + 1, xs, rfl, by go_num, by omega, Nat.le_refl _, by omega, HO2, HG2, ⟨HV.out.skip hlt HQ.out⟩⟩
   ·obtain rfl : j = l0.length := by omega
    have hltz : ¬ (l0.length : Int) < (l0.length : Int) := by omega
    have hci := fun (t : Nat) (ht : t < l0.length) => Kd.R_celln 0 HO.out (t : Int) (by omega) (by omega)
    have hcl : ∀ ty, (Builtin.clear_ #[25] ty #[.slice (some ⟨go, i, none⟩) (l0.length - i) (c0 - i)]).run Try.prog wr = .ok (.tuple #[]) (wr.setCells go i (List.replicate (l0.length - i) (.int .i64 0))) :=
     fun ty => Lib.run_clear_slice wr _ _ ty _ und_ zer_ rfl rfl go i _ _ (by omega) (fun t ht => by rw [show (⟨go, i + t, none⟩ : Addr) = ⟨go, ((i + t : Nat) : Int).toNat, none⟩ by rw [Int.toNat_natCast], (hci (i + t) (by omega)).1]; rfl) (fun t ht => by rw [show (⟨go, i + t, none⟩ : Addr) = ⟨go, ((i + t : Nat) : Int).toNat, none⟩ by rw [Int.toNat_natCast]]; exact (hci (i + t) (by omega)).2)
    clear hci
    have hic : (i : Int) ≤ (c0 : Int) := by omega
    go_wp2
    go_ret
    obtain ⟨ys, y1, y2, y3, y4⟩ := slices_DeleteFunc_int_int.clears (l0.length - i) i _ _ HO.out
    obtain ⟨v1, v2, v3_, _⟩ := HV.out
    rw [List.take_length] at v2
    have := slices_DeleteFunc_int_int.cut y1 i (by omega)
    rw [y2, v2] at this
    exact ⟨_, rfl, rfl, this, HG.out.trans y4⟩

/-! ### slices_Clone_int_int: function 87 -/
def slices_Clone_int_int.f (l0 : List Int) : Option (List Int) := (some (([] : List Int) : List Int)).bind fun y226 => (if y226.length + l0.length < 17592186044416 then (some (y226 ++ l0)) else (none))
set_option maxHeartbeats 8000000 in
set_option maxRecDepth 100000 in
theorem slices_Clone_int_int.calls_s (Ad0 : Addr) (c0 : Nat) (l0 : List Int) (r : List Int) (w : World) (hr0 : Kd.C (Kd.int .i64) w (some Ad0) l0.length l0) (hc0 : l0.length ≤ c0) (h : slices_Clone_int_int.f l0 = some r) :
  Calls Try.prog 87 #[.slice (some Ad0) l0.length c0] w fun e w' => ∃ v0_ : Value, e = .returned (v0_) ∧ Kd.R (Kd.int .i64) 3 w' w.heap.size (fun _ => True) v0_ r ∧ Below w.heap.size w w' := by
 have HR0 := Aside0.mk hr0
 have HC0 := Aside0.mk hc0
 clear hr0 hc0
 have HB := Aside0.mk (Below.refl w.heap.size w)
 have H : ((some (([] : List Int) : List Int)).bind fun y226 => (if y226.length + l0.length < 17592186044416 then (some (y226 ++ l0)) else (none))) = some r := h
 clear h
 obtain ⟨y226, hy226⟩ : ∃ y_ : List Int, y_ = (([] : List Int)) := ⟨_, rfl⟩
 replace H : (if y226.length + l0.length < 17592186044416 then (some (y226 ++ l0)) else (none)) = some r := by first | (rw [hy226]; with_reducible exact H) | (have H2_ := (Option.bind_some _ _).symm.trans H; rw [hy226]; with_reducible exact H2_) | (have H2_ := (Option.bind_some _ _).symm.trans H; with_reducible exact H2_) | with_reducible exact H | (rw [hy226]; exact H) | exact H
 have Ny226 := Aside0.mk hy226
 clear hy226
 by_cases c2 : y226.length + l0.length < 17592186044416
 ·rw [if_pos c2] at H
  have LMc2 := Aside0.mk c2
  clear c2
  obtain ⟨y229, hy229⟩ : ∃ y_ : List Int, y_ = (y226 ++ l0) := ⟨_, rfl⟩
  replace H : (some y229) = some r := by first | (rw [hy229]; with_reducible exact H) | (have H2_ := (Option.bind_some _ _).symm.trans H; rw [hy229]; with_reducible exact H2_) | (have H2_ := (Option.bind_some _ _).symm.trans H; with_reducible exact H2_) | with_reducible exact H | (rw [hy229]; exact H) | exact H
  have Ny229 := Aside0.mk hy229
  clear hy229
  obtain rfl := Option.some.inj H
  have hun_ := fun (w_ : World) (A_ : Option Addr) (n_ c_ : Nat) => Copy.eql_nil (P := Try.prog) w_ 25 _ A_ n_ c_ Try.underlying25
  go_enter Try.func87, Try.ntmps87
  go_wp2_with (first | ((with_reducible refine gate_dst (N := 5) rfl ?_); refine Kd.R_lit (Kd.int .i64) _ 3 ?hg (N := 5) ?hd (xs := ([] : List Int)) (inner := []) (ok := fun _ => True) (okp := fun _ => True) ?hr ?hp (fun _ hk => hk) trivial (Below.refl _ _) (Nat.le_refl _) (by simp) ?_; (case hd => rfl); (case hg => rfl); (case hr => first | (go_simp; done) | (go_simp; rfl)); (case hp => exact (Reps.none _ _)); intro v227 w3 ho4 hb hg_ hnew_; clear hg_ hnew_; (first | rw [← Ny226.out] at ho4 | (simp only [Int.reduceToNat] at ho4; rw [← Ny226.out] at ho4)); have n0_ := Aside0.mk (Kd.R_lower ho4 (below_size (by repeat (first | (with_reducible first | exact HB.out | apply bwA | apply bwN | apply bwD) | exact HB.out)))); have n1_ := Aside0.mk (below_step (by repeat (first | (with_reducible first | exact HB.out | apply bwA | apply bwN | apply bwD) | exact HB.out)) hb); clear HB; have HO228 := n0_; have HB := n1_; clear n0_ n1_; clear hb ho4) | ((with_reducible refine gate_builtin (b := .append) (xs := #[.tmp 5, .tmp 6]) rfl ?_); at_builtin; refine Kd.R_append_rows (Kd.int .i64) (w0 := w) w.heap.size rfl (.tmp 5) (.tmp 6) 25 3 (.int .i64 0) 8 rfl Try.underlying25 info3 rfl (by decide) (by omega) v227 y226 l0 _ _ _ (fun _ => True) (fun _ => False) rfl rfl ?aO ?aR (fun _ _ h => h) (fun _ h => h.elim) ?aF ?aB ?aS ?aL ?_; (case aR => repeat (first | exact (Kd.C_below HR0.out HB.out) | (with_reducible refine Kd.C_alloc ?_ _) | (with_reducible refine Kd.C_drewN ?_ _) | (with_reducible refine Kd.C_drew ?_))); (case aB => exact (by repeat (first | (with_reducible first | exact HB.out | apply bwA | apply bwN | apply bwD) | exact HB.out))); (case aF => exact (fun _ _ => trivial)); (case aO => exact (by (with_reducible repeat (first | apply Kd.R_alloc | apply Kd.R_drewN | apply Kd.R_drew)); exact HO228.out)); (case aS => exact (below_size (by repeat (first | (with_reducible first | exact HB.out | apply bwA | apply bwN | apply bwD) | exact HB.out)))); (case aL => have := LMc2.out; omega); intro v230 w5 ho hb hg hat; rw [← Ny229.out] at ho; have n0_ := Aside0.mk (hb); have n1_ := Aside0.mk (ho); clear HB; clear HO228; have HB := n0_; have HO231 := n1_; clear n0_ n1_; clear ho hb hg hat))
  go_ret
  exact ⟨_, by first | rfl | (simp [errW_none, errW_some] <;> rfl) | (simp [*, errW_none, errW_some] <;> rfl), by (with_reducible repeat (first | apply Kd.R_alloc | apply Kd.R_drewN | apply Kd.R_drew)); exact HO231.out, by repeat (first | (with_reducible first | exact HB.out | apply bwA | apply bwN | apply bwD) | exact HB.out)⟩
 ·rw [if_neg c2] at H
  exact absurd H (by simp)
set_option maxHeartbeats 8000000 in
set_option maxRecDepth 100000 in
theorem slices_Clone_int_int.calls (A0 : Option Addr) (c0 : Nat) (l0 : List Int) (r : List Int) (w : World) (hr0 : Kd.C (Kd.int .i64) w A0 l0.length l0) (hc0 : l0.length ≤ c0) (h : slices_Clone_int_int.f l0 = some r) :
  Calls Try.prog 87 #[.slice A0 l0.length c0] w fun e w' => ∃ v0_ : Value, e = .returned (v0_) ∧ Kd.R (Kd.int .i64) 3 w' w.heap.size (fun _ => True) v0_ r ∧ Below w.heap.size w w' := by
 cases A0 with
 | some ad => exact slices_Clone_int_int.calls_s ad c0 l0 r w hr0 hc0 h
 | none =>
  have hl : l0 = [] := by
   have h_ := hr0
   cases l0 with
   | nil => rfl
   | cons x_ xs_ => obtain ⟨ad, e_, _⟩ := h_.2.2 (by simp); cases e_
  subst hl
  have hr_ : [] = r := Option.some.inj ((show slices_Clone_int_int.f [] = some [] by unfold slices_Clone_int_int.f; simp).symm.trans h)
  subst hr_
  clear hc0
  clear h hr0
  have hun_ := fun (w_ : World) (A_ : Option Addr) (n_ c_ : Nat) => Copy.eql_nil (P := Try.prog) w_ 25 _ A_ n_ c_ Try.underlying25
  go_enter Try.func87, Try.ntmps87
  go_wp2
  go_ret
  exact ⟨_, rfl, by first | exact Kd.R_nil _ _ _ _ _ | exact Kd.N_nil _ _ _ _ _, Below.refl _ _⟩

/-! ### impl_CoreOf: function 42 -/
def impl_CoreOf.less (l : List Int) (i : Int) : Option (List Int) := some (l.filter fun x_ => !(x_ == i))
theorem impl_CoreOf.visit (gb : Nat) (i x : Int) (W : World) (hW : W.heap[gb]? = some (.cells #[.int .i64 i] 3 (0, 0))) : Calls Try.prog 88 (#[.int .i64 x] ++ #[.pointer (some ⟨gb, 0, none⟩)]) W fun e w' => e = .returned (.bool (x == i)) ∧ Below W.heap.size W w' := by
 have hcz : W.cell? ⟨gb, 0, none⟩ = some (.int .i64 i) := (blk_cell hW 0).trans rfl
 have hfz := blk_frozen hW 0
 clear hW
 show Calls Try.prog 88 #[.int .i64 x, .pointer (some ⟨gb, 0, none⟩)] W _
 go_enter Try.func88, Try.ntmps88
 go_wp2
 go_ret
 exact ⟨rfl, Below.refl _ _⟩
mutual
def impl_CoreOf.j0 : Nat → Bool → Int → List (List Int) → Option (List Int)
 | 0, _, _, _ => none
 | k + 1, x18, x222000, x222001 => if x18 = true then (some ([] : List Int)) else ((impl_numbered.f k (x222001.length : Int)).bind fun t224 => (impl_CoreOf.l0 k t224 (x222001.length : Int) 0 x222000 x222001))
def impl_CoreOf.l0 : Nat → List Int → Int → Int → Int → List (List Int) → Option (List Int)
 | 0, _, _, _, _, _ => none
 | k + 1, x3, x25, x26, x222000, x222001 => if x26 < x25 then ((slices_Clone_int_int.f x3).bind fun t230 => ((impl_CoreOf.less t230 x26).bind fun t233 => (impl_CoreOf.l1 k x3 t233 ([] : List (List Int)) x25 x26 t233 (t233.length : Int) 0 x222000 x222001))) else ((impl_clone_int.f x3).bind fun t227 => (some t227))
def impl_CoreOf.l1 : Nat → List Int → List Int → List (List Int) → Int → Int → List Int → Int → Int → Int → List (List Int) → Option (List Int)
 | 0, _, _, _, _, _, _, _, _, _, _ => none
 | k + 1, x3, x5, x6, x25, x26, x33, x34, x35, x222000, x222001 => if x35 < x34 then (if 0 ≤ x35 then (if x35 < (x33.length : Int) then (if 0 ≤ (rd x33 x35) then (if (rd x33 x35) < (x222001.length : Int) then (if x6.length < 5864062014805 then (impl_CoreOf.l1 k x3 x5 (x6 ++ [rd_L1 x222001 (rd x33 x35)]) x25 x26 x33 x34 (wrap64 (x35 + 1)) x222000 x222001) else (none)) else (none)) else (none)) else (none)) else (none)) else ((impl_satisfiable.f k x222000 x6).bind fun t241 => (if t241 = true then (impl_CoreOf.l0 k x3 x25 (wrap64 (x26 + 1)) x222000 x222001) else (impl_CoreOf.l0 k x5 x25 (wrap64 (x26 + 1)) x222000 x222001)))
end
def impl_CoreOf.f (k : Nat) (a0_0 : Int) (l0_1 : List (List Int)) : Option (List Int) := (impl_freeOk.f k a0_0 l0_1).bind fun t222 => (if t222 = true then ((impl_satisfiable.f k a0_0 l0_1).bind fun t223 => (impl_CoreOf.j0 k t223 a0_0 l0_1)) else (impl_CoreOf.j0 k true a0_0 l0_1))
theorem impl_CoreOf.mono_l : ∀ k, (∀ y0 y1 y2, LeO (impl_CoreOf.j0 k y0 y1 y2) (impl_CoreOf.j0 (k + 1) y0 y1 y2)) ∧ (∀ y0 y1 y2 y3 y4, LeO (impl_CoreOf.l0 k y0 y1 y2 y3 y4) (impl_CoreOf.l0 (k + 1) y0 y1 y2 y3 y4)) ∧ (∀ y0 y1 y2 y3 y4 y5 y6 y7 y8 y9, LeO (impl_CoreOf.l1 k y0 y1 y2 y3 y4 y5 y6 y7 y8 y9) (impl_CoreOf.l1 (k + 1) y0 y1 y2 y3 y4 y5 y6 y7 y8 y9))
 | 0 => ⟨fun _ _ _ r h => by simp [impl_CoreOf.j0] at h, fun _ _ _ _ _ r h => by simp [impl_CoreOf.l0] at h, fun _ _ _ _ _ _ _ _ _ _ r h => by simp [impl_CoreOf.l1] at h⟩
 | k + 1 => by
  obtain ⟨ih0, ih1, ih2⟩ := impl_CoreOf.mono_l k
  refine ⟨?_, ?_, ?_⟩
  ·intro y0 y1 y2
   unfold impl_CoreOf.j0
   repeat' first
   | (with_reducible exact ih0 _ _ _)
   | (with_reducible exact ih1 _ _ _ _ _)
   | (with_reducible exact ih2 _ _ _ _ _ _ _ _ _ _)
   | (with_reducible exact impl_freeOk.mono _ _ _)
   | (with_reducible exact impl_numbered.mono _ _)
   | (with_reducible exact impl_satisfiable.mono _ _ _)
   | (with_reducible exact LeO.refl _)
   | (with_reducible exact LeO.none _)
   | (with_reducible refine LeO.ite ?_ ?_)
   | (with_reducible refine LeO.bind ?_ (fun _ => ?_))
   | exact ih0 _ _ _
   | exact ih1 _ _ _ _ _
   | exact ih2 _ _ _ _ _ _ _ _ _ _
   | exact impl_freeOk.mono _ _ _
   | exact impl_numbered.mono _ _
   | exact impl_satisfiable.mono _ _ _
   | exact LeO.none _
   | refine LeO.ite ?_ ?_
   | refine LeO.bind ?_ (fun _ => ?_)
  ·intro y0 y1 y2 y3 y4
   unfold impl_CoreOf.l0
   repeat' first
   | (with_reducible exact ih0 _ _ _)
   | (with_reducible exact ih1 _ _ _ _ _)
   | (with_reducible exact ih2 _ _ _ _ _ _ _ _ _ _)
   | (with_reducible exact impl_freeOk.mono _ _ _)
   | (with_reducible exact impl_numbered.mono _ _)
   | (with_reducible exact impl_satisfiable.mono _ _ _)
   | (with_reducible exact LeO.refl _)
   | (with_reducible exact LeO.none _)
   | (with_reducible refine LeO.ite ?_ ?_)
   | (with_reducible refine LeO.bind ?_ (fun _ => ?_))
   | exact ih0 _ _ _
   | exact ih1 _ _ _ _ _
   | exact ih2 _ _ _ _ _ _ _ _ _ _
   | exact impl_freeOk.mono _ _ _
   | exact impl_numbered.mono _ _
   | exact impl_satisfiable.mono _ _ _
   | exact LeO.none _
   | refine LeO.ite ?_ ?_
   | refine LeO.bind ?_ (fun _ => ?_)
  ·intro y0 y1 y2 y3 y4 y5 y6 y7 y8 y9
   unfold impl_CoreOf.l1
   repeat' first
   | (with_reducible exact ih0 _ _ _)
   | (with_reducible exact ih1 _ _ _ _ _)
   | (with_reducible exact ih2 _ _ _ _ _ _ _ _ _ _)
   | (with_reducible exact impl_freeOk.mono _ _ _)
   | (with_reducible exact impl_numbered.mono _ _)
   | (with_reducible exact impl_satisfiable.mono _ _ _)
   | (with_reducible exact LeO.refl _)
   | (with_reducible exact LeO.none _)
   | (with_reducible refine LeO.ite ?_ ?_)
   | (with_reducible refine LeO.bind ?_ (fun _ => ?_))
   | exact ih0 _ _ _
   | exact ih1 _ _ _ _ _
   | exact ih2 _ _ _ _ _ _ _ _ _ _
   | exact impl_freeOk.mono _ _ _
   | exact impl_numbered.mono _ _
   | exact impl_satisfiable.mono _ _ _
   | exact LeO.none _
   | refine LeO.ite ?_ ?_
   | refine LeO.bind ?_ (fun _ => ?_)
theorem impl_CoreOf.mono : ∀ a0 a1 k, LeO (impl_CoreOf.f k a0 a1) (impl_CoreOf.f (k + 1) a0 a1) := by
 intro a0 a1 k
 obtain ⟨ih0, ih1, ih2⟩ := impl_CoreOf.mono_l k
 unfold impl_CoreOf.f
 repeat' first
   | (with_reducible exact ih0 _ _ _)
   | (with_reducible exact ih1 _ _ _ _ _)
   | (with_reducible exact ih2 _ _ _ _ _ _ _ _ _ _)
   | (with_reducible exact impl_freeOk.mono _ _ _)
   | (with_reducible exact impl_numbered.mono _ _)
   | (with_reducible exact impl_satisfiable.mono _ _ _)
   | (with_reducible exact LeO.refl _)
   | (with_reducible exact LeO.none _)
   | (with_reducible refine LeO.ite ?_ ?_)
   | (with_reducible refine LeO.bind ?_ (fun _ => ?_))
   | exact ih0 _ _ _
   | exact ih1 _ _ _ _ _
   | exact ih2 _ _ _ _ _ _ _ _ _ _
   | exact impl_freeOk.mono _ _ _
   | exact impl_numbered.mono _ _
   | exact impl_satisfiable.mono _ _ _
   | exact LeO.none _
   | refine LeO.ite ?_ ?_
   | refine LeO.bind ?_ (fun _ => ?_)
set_option maxHeartbeats 8000000 in
set_option maxRecDepth 100000 in
theorem impl_CoreOf.calls (k : Nat) (a0_0 : Int) (P0_1_ : Nat → Prop) (A0_1 : Option Addr) (c0_1 : Nat) (l0_1 : List (List Int)) (r : List Int) (w : World) (hs0_1 : Kd.V (Kd.slice 3 (Kd.int .i64)) 25 w w.heap.size (fun k_ => P0_1_ k_) (.slice A0_1 l0_1.length c0_1) l0_1) (h : impl_CoreOf.f k a0_0 l0_1 = some r) :
  Calls Try.prog 42 #[.agg #[.int .i64 a0_0, .slice A0_1 l0_1.length c0_1]] w fun e w' => ∃ v0_ : Value, e = .returned (v0_) ∧ Kd.R (Kd.int .i64) 3 w' w.heap.size (fun k_ => (w.heap.size ≤ k_)) v0_ r ∧ Below w.heap.size w w' := by
 have hu_ := Try.underlying29
 have EG : Aside0 (∀ args w, (callFunc 88 args).run Try.prog w = .ok (.enter 88 args) w) := ⟨enters_of Try.func88 (by kernel_rfl) rfl⟩
 have HO0_1 := Aside0.mk (show Kd.V (Kd.slice 3 (Kd.int .i64)) 25 w w.heap.size (fun k_ => (P0_1_ k_ ∨ w.heap.size ≤ k_)) (.slice A0_1 l0_1.length c0_1) l0_1 from Kd.V_mono hs0_1 (fun k_ hk => .inl hk))
 have HB := Aside0.mk (Below.refl w.heap.size w)
 have H : ((impl_freeOk.f k a0_0 l0_1).bind fun t222 => (if t222 = true then ((impl_satisfiable.f k a0_0 l0_1).bind fun t223 => (impl_CoreOf.j0 k t223 a0_0 l0_1)) else (impl_CoreOf.j0 k true a0_0 l0_1))) = some r := h
 clear h
 have HC2 := Aside0.mk H
 clear H
 go_enter Try.func42, Try.ntmps42
 go_upto_region 1 with (first | ((with_reducible refine gate_dst (N := 1) rfl ?_); refine box_event ?hg (N := 1) ?hd (cs := #[.int .i64 a0_0, .slice A0_1 l0_1.length c0_1]) (t := 29) ?hr ?_; (case hd => rfl); (case hg => rfl); (case hr => first | (go_simp; done) | (go_simp; rfl)); intro gb221 hg w3 hbox hb; have n0_ := Aside0.mk (Kd.V_below (Kd.V_elderB (by (with_reducible repeat (first | apply Kd.V_alloc | apply Kd.V_drewN | apply Kd.V_drew)); exact HO0_1.out) gb221 (Nat.le_of_eq hg.symm)) hb); have n1_ := Aside0.mk (below_step (by repeat (first | (with_reducible first | exact HB.out | apply bwA | apply bwN | apply bwD) | exact HB.out)) hb); have n2_ := Aside0.mk (hbox); have n3_ := Aside0.mk ((by rw [hg]; exact (below_size (by repeat (first | (with_reducible first | exact HB.out | apply bwA | apply bwN | apply bwD) | exact HB.out))) : w.heap.size ≤ gb221)); have n4_ := Aside0.mk ((by rw [hg]; exact (below_size (by repeat (first | (with_reducible first | exact HB.out | apply bwA | apply bwN | apply bwD) | exact HB.out))) : w.heap.size ≤ gb221)); clear HO0_1; clear HB; have HO0_1 := n0_; have HB := n1_; have BK221 := n2_; have GW221 := n3_; have GE221 := n4_; clear n0_ n1_ n2_ n3_ n4_; clear hb hbox hg))
 (try simp only [Act.put, List.setIfInBounds_toArray, List.set_cons_zero, List.set_cons_succ])
 go_cut [18] (fun v18 wc => ∃ (kq : Nat) (x18_1 : Bool), v18 = .bool x18_1 ∧ Aside0 (impl_CoreOf.j0 kq x18_1 a0_0 l0_1 = some r) ∧ Aside0 (kq ≤ k) ∧ Aside0 (Kd.V (Kd.slice 3 (Kd.int .i64)) 25 wc w.heap.size (fun k_ => (P0_1_ k_ ∨ w.heap.size ≤ k_) ∧ k_ ≠ gb221) (.slice A0_1 l0_1.length c0_1) l0_1) ∧ Aside0 (wc.heap[gb221]? = some (.cells #[.int .i64 a0_0, (.slice A0_1 l0_1.length c0_1)] 29 (0, 0))) ∧ Aside0 (Below w.heap.size w wc))
 case first =>
  have H := HC2.out
  clear HC2
  replace H := Option.bind_eq_some_iff.mp H
  obtain ⟨t222, A40, H⟩ := H
  replace H : (if t222 = true then ((impl_satisfiable.f k a0_0 l0_1).bind fun t223 => (impl_CoreOf.j0 k t223 a0_0 l0_1)) else (impl_CoreOf.j0 k true a0_0 l0_1)) = some r := H
  have A4 := Aside0.mk A40
  clear A40
  by_cases c5 : t222 = true
  ·subst c5
   have H1 : ((impl_satisfiable.f k a0_0 l0_1).bind fun t223 => (impl_CoreOf.j0 k t223 a0_0 l0_1)) = some r := by rw [if_pos rfl] at H; exact H
   clear H
   have H := H1
   clear H1
   replace H := Option.bind_eq_some_iff.mp H
   obtain ⟨t223, A60, H⟩ := H
   replace H : (impl_CoreOf.j0 k t223 a0_0 l0_1) = some r := H
   have A6 := Aside0.mk A60
   clear A60
   have H' := Aside0.mk H
   clear H
   have hcz7_0 : w3.cell? ⟨gb221, 0, none⟩ = some (.int .i64 a0_0) := (blk_cell BK221.out 0).trans rfl
   have hcz7_1 : w3.cell? ⟨gb221, 1, none⟩ = some (.slice A0_1 l0_1.length c0_1) := (blk_cell BK221.out 1).trans rfl
   have hfz7_0 := blk_frozen BK221.out 0
   have hfz7_1 := blk_frozen BK221.out 1
   go_wp2_with (first | ((with_reducible refine gate_callee (f := 71) rfl ?_); refine goesL_ (some 10) rfl rfl Try.func71 (by kernel_rfl) rfl #[.agg #[.int .i64 a0_0, .slice A0_1 l0_1.length c0_1]] rfl (by (try simp only [List.map_toArray, List.map_cons, List.map_nil]); first | done | rfl | (simp only [List.length_drop, List.length_take]; rfl)) ?_; (with_reducible refine (impl_freeOk.calls k a0_0 _ _ l0_1 true _ ?side1 ?side2 A4.out).mono ?_); (case side1 => repeat (first | exact (Kd.V_reads' HO0_1.out).2.2 | (with_reducible refine Kd.C_alloc ?_ _) | (with_reducible refine Kd.C_drewN ?_ _) | (with_reducible refine Kd.C_drew ?_))); (case side2 => exact (Kd.V_reads' HO0_1.out).2.1); rintro e w8 ⟨rfl, hb⟩; refine ⟨_, rfl, ?_⟩; have n0_ := Aside0.mk (Kd.V_below (by (with_reducible repeat (first | apply Kd.V_alloc | apply Kd.V_drewN | apply Kd.V_drew)); exact HO0_1.out) hb); have n1_ := Aside0.mk (blk_below (g := gb221) (o := .cells #[.int .i64 a0_0, .slice A0_1 l0_1.length c0_1] 29 (0, 0)) (by (with_reducible repeat (first | refine blk_drewN ?_ _ | refine blk_drew ?_ | refine blk_alloc ?_ _)); exact BK221.out) hb); have n2_ := Aside0.mk (below_step (by repeat (first | (with_reducible first | exact HB.out | apply bwA | apply bwN | apply bwD | refine below_set ?_ GE221.out) | exact HB.out)) hb); clear HO0_1; clear BK221; clear HB; have HO0_1 := n0_; have BK221 := n1_; have HB := n2_; clear n0_ n1_ n2_; (try clear hb); (try clear hb2); (try clear hk); (try clear hi); have hcz9_0 : w8.cell? ⟨gb221, 0, none⟩ = some (.int .i64 a0_0) := (blk_cell BK221.out 0).trans rfl; have hcz9_1 : w8.cell? ⟨gb221, 1, none⟩ = some (.slice A0_1 l0_1.length c0_1) := (blk_cell BK221.out 1).trans rfl; have hfz9_0 := blk_frozen BK221.out 0; have hfz9_1 := blk_frozen BK221.out 1) | (go_at_call 73; (with_reducible refine (impl_satisfiable.calls k a0_0 _ _ l0_1 t223 _ ?side1 ?side2 A6.out).mono ?_); (case side1 => repeat (first | exact (Kd.V_reads' HO0_1.out).2.2 | (with_reducible refine Kd.C_alloc ?_ _) | (with_reducible refine Kd.C_drewN ?_ _) | (with_reducible refine Kd.C_drew ?_))); (case side2 => exact (Kd.V_reads' HO0_1.out).2.1); rintro e w10 ⟨rfl, hb⟩; have n0_ := Aside0.mk (Kd.V_below (by (with_reducible repeat (first | apply Kd.V_alloc | apply Kd.V_drewN | apply Kd.V_drew)); exact HO0_1.out) hb); have n1_ := Aside0.mk (blk_below (g := gb221) (o := .cells #[.int .i64 a0_0, .slice A0_1 l0_1.length c0_1] 29 (0, 0)) (by (with_reducible repeat (first | refine blk_drewN ?_ _ | refine blk_drew ?_ | refine blk_alloc ?_ _)); exact BK221.out) hb); have n2_ := Aside0.mk (below_step (by repeat (first | (with_reducible first | exact HB.out | apply bwA | apply bwN | apply bwD | refine below_set ?_ GE221.out) | exact HB.out)) hb); clear HO0_1; clear BK221; clear HB; have HO0_1 := n0_; have BK221 := n1_; have HB := n2_; clear n0_ n1_ n2_; (try clear hb); (try clear hb2); (try clear hk); (try clear hi)))
   go_meet
   case rel => exact ⟨_, (t223), (by first | rfl | (simp; done) | (simp [*]; done)), H', ⟨by first | omega | exact Nat.le_refl _⟩, ⟨by (with_reducible repeat (first | apply Kd.V_alloc | apply Kd.V_drewN | apply Kd.V_drew)); exact HO0_1.out⟩, ⟨by (with_reducible repeat (first | refine blk_drewN ?_ _ | refine blk_drew ?_ | refine blk_alloc ?_ _)); exact BK221.out⟩, ⟨by repeat (first | (with_reducible first | exact HB.out | apply bwA | apply bwN | apply bwD | refine below_set ?_ GE221.out) | exact HB.out)⟩⟩
  ·replace c5 := Bool.eq_false_iff.mpr c5
   subst c5
   have H1 : (impl_CoreOf.j0 k true a0_0 l0_1) = some r := by rw [if_neg (show ¬ (false = true) by decide)] at H; exact H
   clear H
   have H := H1
   clear H1
   have H' := Aside0.mk H
   clear H
   have hcz11_0 : w3.cell? ⟨gb221, 0, none⟩ = some (.int .i64 a0_0) := (blk_cell BK221.out 0).trans rfl
   have hcz11_1 : w3.cell? ⟨gb221, 1, none⟩ = some (.slice A0_1 l0_1.length c0_1) := (blk_cell BK221.out 1).trans rfl
   have hfz11_0 := blk_frozen BK221.out 0
   have hfz11_1 := blk_frozen BK221.out 1
   go_wp2_with (first | ((with_reducible refine gate_callee (f := 71) rfl ?_); refine goesL_ (some 10) rfl rfl Try.func71 (by kernel_rfl) rfl #[.agg #[.int .i64 a0_0, .slice A0_1 l0_1.length c0_1]] rfl (by (try simp only [List.map_toArray, List.map_cons, List.map_nil]); first | done | rfl | (simp only [List.length_drop, List.length_take]; rfl)) ?_; (with_reducible refine (impl_freeOk.calls k a0_0 _ _ l0_1 false _ ?side1 ?side2 A4.out).mono ?_); (case side1 => repeat (first | exact (Kd.V_reads' HO0_1.out).2.2 | (with_reducible refine Kd.C_alloc ?_ _) | (with_reducible refine Kd.C_drewN ?_ _) | (with_reducible refine Kd.C_drew ?_))); (case side2 => exact (Kd.V_reads' HO0_1.out).2.1); rintro e w12 ⟨rfl, hb⟩; refine ⟨_, rfl, ?_⟩; have n0_ := Aside0.mk (Kd.V_below (by (with_reducible repeat (first | apply Kd.V_alloc | apply Kd.V_drewN | apply Kd.V_drew)); exact HO0_1.out) hb); have n1_ := Aside0.mk (blk_below (g := gb221) (o := .cells #[.int .i64 a0_0, .slice A0_1 l0_1.length c0_1] 29 (0, 0)) (by (with_reducible repeat (first | refine blk_drewN ?_ _ | refine blk_drew ?_ | refine blk_alloc ?_ _)); exact BK221.out) hb); have n2_ := Aside0.mk (below_step (by repeat (first | (with_reducible first | exact HB.out | apply bwA | apply bwN | apply bwD | refine below_set ?_ GE221.out) | exact HB.out)) hb); clear HO0_1; clear BK221; clear HB; have HO0_1 := n0_; have BK221 := n1_; have HB := n2_; clear n0_ n1_ n2_; (try clear hb); (try clear hb2); (try clear hk); (try clear hi)))
   go_meet
   case rel => exact ⟨_, (true), (by first | rfl | (simp; done) | (simp [*]; done)), H', ⟨by first | omega | exact Nat.le_refl _⟩, ⟨by (with_reducible repeat (first | apply Kd.V_alloc | apply Kd.V_drewN | apply Kd.V_drew)); exact HO0_1.out⟩, ⟨by (with_reducible repeat (first | refine blk_drewN ?_ _ | refine blk_drew ?_ | refine blk_alloc ?_ _)); exact BK221.out⟩, ⟨by repeat (first | (with_reducible first | exact HB.out | apply bwA | apply bwN | apply bwD | refine below_set ?_ GE221.out) | exact HB.out)⟩⟩
 case rest =>
  clear HC2
  try clear p2
  try clear c4
  try clear c5
  try clear c7
  try clear hcz11_0
  try clear hcz11_1
  try clear hcz7_0
  try clear hcz7_1
  try clear hcz9_0
  try clear hcz9_1
  try clear hfz11_0
  try clear hfz11_1
  try clear hfz7_0
  try clear hfz7_1
  try clear hfz9_0
  try clear hfz9_1
  obtain ⟨kq, x18_1, rfl, HA, HJ1, HO_222001, BK221, HB⟩ := hcut
  cases kq with
  | zero => exact absurd HA.out (by simp [impl_CoreOf.j0])
  | succ kj1 =>
   have H := HA.out
   clear HA
   simp only [impl_CoreOf.j0] at H
   by_cases c13 : x18_1 = true
   ·subst c13
    have H1 : (some ([] : List Int)) = some r := by rw [if_pos rfl] at H; exact H
    clear H
    have H := H1
    clear H1
    obtain rfl := Option.some.inj H
    go_wp2
    go_ret
    exact ⟨_, by first | rfl | (simp [errW_none, errW_some] <;> rfl) | (simp [*, errW_none, errW_some] <;> rfl), by first | exact Kd.R_nil _ _ _ _ _ | exact Kd.N_nil _ _ _ _ _ | exact Kd.V_nil _ _ _ _ _ | exact Kd.Q_nil _ _ _ _ _ | exact Kd.S_nil _ _ _ _ _, by repeat (first | (with_reducible first | exact HB.out | apply bwA | apply bwN | apply bwD | refine below_set ?_ GE221.out) | exact HB.out)⟩
   ·replace c13 := Bool.eq_false_iff.mpr c13
    subst c13
    have H1 : ((impl_numbered.f kj1 (l0_1.length : Int)).bind fun t224 => (impl_CoreOf.l0 kj1 t224 (l0_1.length : Int) 0 a0_0 l0_1)) = some r := by rw [if_neg (show ¬ (false = true) by decide)] at H; exact H
    clear H
    have H := H1
    clear H1
    replace H := Option.bind_eq_some_iff.mp H
    obtain ⟨t224, A140, H⟩ := H
    replace H : (impl_CoreOf.l0 kj1 t224 (l0_1.length : Int) 0 a0_0 l0_1) = some r := H
    have A14 := Aside0.mk A140
    clear A140
    have H' := Aside0.mk H
    clear H
    have hcz15_0 : wc.cell? ⟨gb221, 0, none⟩ = some (.int .i64 a0_0) := (blk_cell BK221.out 0).trans rfl
    have hcz15_1 : wc.cell? ⟨gb221, 1, none⟩ = some (.slice A0_1 l0_1.length c0_1) := (blk_cell BK221.out 1).trans rfl
    have hfz15_0 := blk_frozen BK221.out 0
    have hfz15_1 := blk_frozen BK221.out 1
    go_wp2_with (first | ((with_reducible refine gate_callee (f := 85) rfl ?_); refine goesL_ (some 22) rfl rfl Try.func85 (by kernel_rfl) rfl #[.int .i64 (l0_1.length : Int)] rfl (by (try simp only [List.map_toArray, List.map_cons, List.map_nil]); first | done | rfl | (simp only [List.length_drop, List.length_take]; rfl)) ?_; (with_reducible refine (impl_numbered.calls kj1 (l0_1.length : Int) t224 _ A14.out).mono ?_); rintro e w16 ⟨v225, rfl, ho0, hb⟩; refine ⟨_, rfl, ?_⟩; have n0_ := Aside0.mk (Kd.V_elder' (by (with_reducible repeat (first | apply Kd.V_alloc | apply Kd.V_drewN | apply Kd.V_drew)); exact HO_222001.out) (Kd.R_base ho0) hb); have n1_ := Aside0.mk (Kd.R_lower (Kd.R_newM (M := fun k_ => (w.heap.size ≤ k_)) ho0 (below_size (by repeat (first | (with_reducible first | exact HB.out | apply bwA | apply bwN | apply bwD | refine below_set ?_ GE221.out) | exact HB.out))) (fun k_ h_ => h_)) (below_size (by repeat (first | (with_reducible first | exact HB.out | apply bwA | apply bwN | apply bwD | refine below_set ?_ GE221.out) | exact HB.out)))); have n2_ := Aside0.mk (blk_below (g := gb221) (o := .cells #[.int .i64 a0_0, .slice A0_1 l0_1.length c0_1] 29 (0, 0)) (by (with_reducible repeat (first | refine blk_drewN ?_ _ | refine blk_drew ?_ | refine blk_alloc ?_ _)); exact BK221.out) hb); have n3_ := Aside0.mk (below_step (by repeat (first | (with_reducible first | exact HB.out | apply bwA | apply bwN | apply bwD | refine below_set ?_ GE221.out) | exact HB.out)) hb); clear HO_222001; clear BK221; clear HB; have HO_222001 := n0_; have HO226 := n1_; have BK221 := n2_; have HB := n3_; clear n0_ n1_ n2_ n3_; (try clear hb); (try clear hb2); (try clear hk); (try clear hi); (try clear ho0); have hcz17_0 : w16.cell? ⟨gb221, 0, none⟩ = some (.int .i64 a0_0) := (blk_cell BK221.out 0).trans rfl; have hcz17_1 : w16.cell? ⟨gb221, 1, none⟩ = some (.slice A0_1 l0_1.length c0_1) := (blk_cell BK221.out 1).trans rfl; have hfz17_0 := blk_frozen BK221.out 0; have hfz17_1 := blk_frozen BK221.out 1))
    go_loopg [3, 26] kj1 (fun kq v3 v26 w' => ∃ (x3_2 : List Int) (x26_2 : Int), v26 = .int .i64 x26_2 ∧ Aside0 (impl_CoreOf.l0 kq x3_2 (l0_1.length : Int) x26_2 a0_0 l0_1 = some r) ∧ Aside0 (kq ≤ kj1) ∧ Aside0 (Kd.R (Kd.int .i64) 3 w' w.heap.size (fun k_ => (w.heap.size ≤ k_)) v3 x3_2) ∧ Aside0 (Kd.V (Kd.slice 3 (Kd.int .i64)) 25 w' w.heap.size (fun k_ => (P0_1_ k_ ∨ w.heap.size ≤ k_) ∧ some k_ ≠ (v3 : Value).ownBlock ∧ k_ ≠ gb221) (.slice A0_1 l0_1.length c0_1) l0_1) ∧ Aside0 (w'.heap[gb221]? = some (.cells #[.int .i64 a0_0, (.slice A0_1 l0_1.length c0_1)] 29 (0, 0))) ∧ Aside0 (Below w.heap.size w w'))
    case atStart => exact ⟨(t224), (0), (by first | rfl | (simp; done) | (simp [*]; done)), H', ⟨Nat.le_refl _⟩, ⟨by (with_reducible repeat (first | apply Kd.R_alloc | apply Kd.R_drewN | apply Kd.R_drew)); exact Kd.R_mono HO226.out (fun _ hk => hk.1)⟩, ⟨by (with_reducible repeat (first | apply Kd.V_alloc | apply Kd.V_drewN | apply Kd.V_drew)); exact Kd.V_mono HO_222001.out (fun _ hk => ⟨hk.1.1, ⟨hk.2, hk.1.2⟩⟩)⟩, ⟨by (with_reducible repeat (first | refine blk_drewN ?_ _ | refine blk_drew ?_ | refine blk_alloc ?_ _)); exact BK221.out⟩, ⟨by repeat (first | (with_reducible first | exact HB.out | apply bwA | apply bwN | apply bwD | refine below_set ?_ GE221.out) | exact HB.out)⟩⟩
    case round =>
     clear H'
     try clear c1
     try clear p2
     try clear c4
     try clear c5
     try clear c7
     try clear c8
     try clear c13
     try clear hcz11_0
     try clear hcz11_1
     try clear hcz15_0
     try clear hcz15_1
     try clear hcz17_0
     try clear hcz17_1
     try clear hcz7_0
     try clear hcz7_1
     try clear hcz9_0
     try clear hcz9_1
     try clear hfz11_0
     try clear hfz11_1
     try clear hfz15_0
     try clear hfz15_1
     try clear hfz17_0
     try clear hfz17_1
     try clear hfz7_0
     try clear hfz7_1
     try clear hfz9_0
     try clear hfz9_1
     try clear p2
     obtain ⟨x3_2, x26_2, rfl, HA, HK2, HO_3, HO_222001, BK221, HB⟩ := hrel
     cases gk with
     | zero => exact absurd HA.out (by simp [impl_CoreOf.l0])
     | succ k2 =>
      have H := HA.out
      clear HA
      simp only [impl_CoreOf.l0] at H
      by_cases c18 : x26_2 < (l0_1.length : Int)
      ·rw [if_pos c18] at H
       have c18b0 : decide (x26_2 < (l0_1.length : Int)) = true := decide_eq_true c18
       clear c18
       replace H := Option.bind_eq_some_iff.mp H
       obtain ⟨t230, A190, H⟩ := H
       replace H : ((impl_CoreOf.less t230 x26_2).bind fun t233 => (impl_CoreOf.l1 k2 x3_2 t233 ([] : List (List Int)) (l0_1.length : Int) x26_2 t233 (t233.length : Int) 0 a0_0 l0_1)) = some r := H
       have A19 := Aside0.mk A190
       clear A190
       replace H := Option.bind_eq_some_iff.mp H
       obtain ⟨t233, A200, H⟩ := H
       replace H : (impl_CoreOf.l1 k2 x3_2 t233 ([] : List (List Int)) (l0_1.length : Int) x26_2 t233 (t233.length : Int) 0 a0_0 l0_1) = some r := H
       have A20 := Aside0.mk A200
       clear A200
       have H' := Aside0.mk H
       clear H
       obtain ⟨Ao21, co21, eo21⟩ := Kd.R_slice HO_3.out
       subst eo21
       go_wp2_with (first | ((with_reducible refine gate_callee (f := 87) rfl ?_); refine goesL_ (some 30) rfl rfl Try.func87 (by kernel_rfl) rfl #[.slice Ao21 x3_2.length co21] rfl (by (try simp only [List.map_toArray, List.map_cons, List.map_nil]); first | done | rfl | (simp only [List.length_drop, List.length_take]; rfl)) ?_; (with_reducible refine (slices_Clone_int_int.calls _ _ x3_2 t230 _ ?side1 ?side2 A19.out).mono ?_); (case side1 => repeat (first | exact (Kd.R_reads' HO_3.out).2.2 | (with_reducible refine Kd.C_alloc ?_ _) | (with_reducible refine Kd.C_drewN ?_ _) | (with_reducible refine Kd.C_drew ?_))); (case side2 => exact (Kd.R_reads' HO_3.out).2.1); rintro e w22 ⟨v231, rfl, ho0, hb⟩; refine ⟨_, rfl, ?_⟩; have BKi := Aside0.mk (blk_below (blk_new _ (.cells #[.int .i64 x26_2] 3)) hb); have NEi : Aside0 (some wr.heap.size ≠ v231.ownBlock) := ⟨fun he => by have h1_ := Kd.R_base ho0 _ he.symm; simp at h1_; omega⟩; have NGi : Aside0 (some gb221 ≠ v231.ownBlock) := ⟨fun he => by have h1_ := Kd.R_base ho0 _ he.symm; have h2_ := blk_lt BK221.out; simp at h1_; omega⟩; have n0_ := Aside0.mk (Kd.R_elder' (by (with_reducible repeat (first | apply Kd.R_alloc | apply Kd.R_drewN | apply Kd.R_drew)); exact HO_3.out) (Kd.R_base ho0) hb); have n1_ := Aside0.mk (Kd.V_elder' (by (with_reducible repeat (first | apply Kd.V_alloc | apply Kd.V_drewN | apply Kd.V_drew)); exact HO_222001.out) (Kd.R_base ho0) hb); have n2_ := Aside0.mk (Kd.R_lower (Kd.R_new' (Kd.R_newM (M := fun k_ => (w.heap.size ≤ k_)) ho0 (below_size (by repeat (first | (with_reducible first | exact HB.out | apply bwA | apply bwN | apply bwD | refine below_set ?_ GE221.out) | exact HB.out))) (fun k_ h_ => h_)) (Kd.R_lt (by (with_reducible repeat (first | apply Kd.R_alloc | apply Kd.R_drewN | apply Kd.R_drew)); exact HO_3.out))) (below_size (by repeat (first | (with_reducible first | exact HB.out | apply bwA | apply bwN | apply bwD | refine below_set ?_ GE221.out) | exact HB.out)))); have n3_ := Aside0.mk (blk_below (g := gb221) (o := .cells #[.int .i64 a0_0, .slice A0_1 l0_1.length c0_1] 29 (0, 0)) (by (with_reducible repeat (first | refine blk_drewN ?_ _ | refine blk_drew ?_ | refine blk_alloc ?_ _)); exact BK221.out) hb); have n4_ := Aside0.mk (below_step (by repeat (first | (with_reducible first | exact HB.out | apply bwA | apply bwN | apply bwD | refine below_set ?_ GE221.out) | exact HB.out)) hb); clear HO_3; clear HO_222001; clear BK221; clear HB; have HO_3 := n0_; have HO_222001 := n1_; have HO232 := n2_; have BK221 := n3_; have HB := n4_; clear n0_ n1_ n2_ n3_ n4_; (try clear hb); (try clear hb2); (try clear hk); (try clear hi); (try clear ho0); obtain ⟨Ao23, co23, eo23⟩ := Kd.R_slice HO232.out; subst eo23) | (go_at_call 86; refine (slices_DeleteFunc_int_int.calls 88 _ EG.out Ao23 co23 t230 (fun x_ => x_ == x26_2) _ _ _ HO232.out (fun x_ W_ hW_ => impl_CoreOf.visit wr.heap.size x26_2 x_ W_ (blk_grown BKi.out hW_ NEi.out))).mono ?_; rintro e w24 ⟨v234, rfl, hown, ho0, hg_⟩; have et_ : (t230.filter fun x_ => !(x_ == x26_2)) = t233 := Option.some.inj A20.out; rw [et_] at ho0; clear et_; have n0_ := Aside0.mk (Kd.R_mono (Kd.R_after HO_3.out hg_ (.inl hown)) (fun k_ hk => ⟨⟨hk.1, by rw [← hown]; exact hk.2⟩, hk.2⟩) : Kd.R (Kd.int .i64) 3 w24 w.heap.size (fun k_ => ((w.heap.size ≤ k_) ∧ some k_ ≠ ((.slice Ao23 t230.length co23) : Value).ownBlock) ∧ some k_ ≠ v234.ownBlock) (.slice Ao21 x3_2.length co21) x3_2); have n1_ := Aside0.mk (Kd.V_mono (Kd.V_after HO_222001.out hg_ (.inl hown)) (fun k_ hk => ⟨⟨hk.1, by rw [← hown]; exact hk.2⟩, hk.2⟩) : Kd.V (Kd.slice 3 (Kd.int .i64)) 25 w24 w.heap.size (fun k_ => (((P0_1_ k_ ∨ w.heap.size ≤ k_) ∧ some k_ ≠ ((.slice Ao21 x3_2.length co21) : Value).ownBlock ∧ k_ ≠ gb221) ∧ some k_ ≠ ((.slice Ao23 t230.length co23) : Value).ownBlock) ∧ some k_ ≠ v234.ownBlock) (.slice A0_1 l0_1.length c0_1) l0_1); have n3_ := Aside0.mk (Kd.R_mono ho0 (fun k_ hk => ⟨⟨⟨hk.1.1, trivial⟩, hk.2⟩, trivial⟩) : Kd.R (Kd.int .i64) 3 w24 w.heap.size (fun k_ => ((w.heap.size ≤ k_ ∧ True) ∧ some k_ ≠ ((.slice Ao21 x3_2.length co21) : Value).ownBlock) ∧ True) v234 t233); have n4_ := Aside0.mk (blk_grown BK221.out hg_ NGi.out); have n5_ := Aside0.mk (HB.out.grown hg_ HB.out.size (Kd.R_base HO232.out)); clear HO_3 HO_222001 HO232 BK221 HB hg_ ho0 BKi NEi NGi hown; have HO_3 := n0_; have HO_222001 := n1_; have HO235 := n3_; have BK221 := n4_; have HB := n5_; clear n0_ n1_ n3_ n4_ n5_; obtain ⟨Ao25, co25, eo25⟩ := Kd.R_slice HO235.out; subst eo25))
       go_loopg [6, 35] k2 (fun kq v6 v35 w' => ∃ (x6_3 : List (List Int)) (x35_3 : Int), v35 = .int .i64 x35_3 ∧ Aside0 (impl_CoreOf.l1 kq x3_2 t233 x6_3 (l0_1.length : Int) x26_2 t233 (t233.length : Int) x35_3 a0_0 l0_1 = some r) ∧ Aside0 (kq ≤ k2) ∧ Aside0 (Kd.R (Kd.int .i64) 3 w' w.heap.size (fun k_ => (w.heap.size ≤ k_) ∧ some k_ ≠ ((.slice Ao25 t233.length co25) : Value).ownBlock ∧ some k_ ≠ ((.slice Ao25 t233.length co25) : Value).ownBlock) (.slice Ao21 x3_2.length co21) x3_2) ∧ Aside0 (Kd.R (Kd.int .i64) 3 w' w.heap.size (fun k_ => (w.heap.size ≤ k_) ∧ some k_ ≠ ((.slice Ao21 x3_2.length co21) : Value).ownBlock) (.slice Ao25 t233.length co25) t233) ∧ Aside0 (Kd.N (Kd.slice 3 (Kd.int .i64)) 25 w' w.heap.size (fun k_ => (P0_1_ k_ ∨ w.heap.size ≤ k_) ∧ some k_ ≠ ((.slice Ao21 x3_2.length co21) : Value).ownBlock ∧ some k_ ≠ ((.slice Ao25 t233.length co25) : Value).ownBlock ∧ some k_ ≠ ((.slice Ao25 t233.length co25) : Value).ownBlock ∧ k_ ≠ gb221) v6 x6_3) ∧ Aside0 (Kd.R (Kd.int .i64) 3 w' w.heap.size (fun k_ => (w.heap.size ≤ k_) ∧ some k_ ≠ ((.slice Ao21 x3_2.length co21) : Value).ownBlock) (.slice Ao25 t233.length co25) t233) ∧ Aside0 (Kd.V (Kd.slice 3 (Kd.int .i64)) 25 w' w.heap.size (fun k_ => (P0_1_ k_ ∨ w.heap.size ≤ k_) ∧ some k_ ≠ ((.slice Ao21 x3_2.length co21) : Value).ownBlock ∧ some k_ ≠ ((.slice Ao25 t233.length co25) : Value).ownBlock ∧ some k_ ≠ (v6 : Value).ownBlock ∧ some k_ ≠ ((.slice Ao25 t233.length co25) : Value).ownBlock ∧ k_ ≠ gb221) (.slice A0_1 l0_1.length c0_1) l0_1) ∧ Aside0 (w'.heap[gb221]? = some (.cells #[.int .i64 a0_0, (.slice A0_1 l0_1.length c0_1)] 29 (0, 0))) ∧ Aside0 (Below w.heap.size w w'))
       case atStart => exact ⟨(([] : List (List Int))), (0), (by first | rfl | (simp; done) | (simp [*]; done)), H', ⟨Nat.le_refl _⟩, ⟨by (with_reducible repeat (first | apply Kd.R_alloc | apply Kd.R_drewN | apply Kd.R_drew)); exact Kd.R_mono HO_3.out (fun _ hk => ⟨hk.1.1, ⟨hk.2, hk.2⟩⟩)⟩, ⟨by (with_reducible repeat (first | apply Kd.R_alloc | apply Kd.R_drewN | apply Kd.R_drew)); exact Kd.R_mono HO235.out (fun _ hk => ⟨hk.1.1.1, hk.1.2⟩)⟩, ⟨by first | exact Kd.S_nil _ _ _ _ _ | exact Kd.N_nil _ _ _ _ _ | exact Kd.V_nil _ _ _ _ _ | exact Kd.Q_nil _ _ _ _ _ | exact Kd.R_nil _ _ _ _ _⟩, ⟨by (with_reducible repeat (first | apply Kd.R_alloc | apply Kd.R_drewN | apply Kd.R_drew)); exact Kd.R_mono HO235.out (fun _ hk => ⟨hk.1.1.1, hk.1.2⟩)⟩, ⟨by (with_reducible repeat (first | apply Kd.V_alloc | apply Kd.V_drewN | apply Kd.V_drew)); exact Kd.V_mono HO_222001.out (fun _ hk => ⟨hk.1.1.1, ⟨hk.1.1.2.1, ⟨hk.2, ⟨(by simp [Value.ownBlock]), ⟨hk.2, hk.1.1.2.2⟩⟩⟩⟩⟩)⟩, ⟨by (with_reducible repeat (first | refine blk_drewN ?_ _ | refine blk_drew ?_ | refine blk_alloc ?_ _)); exact BK221.out⟩, ⟨by repeat (first | (with_reducible first | exact HB.out | apply bwA | apply bwN | apply bwD | refine below_set ?_ GE221.out) | exact HB.out)⟩⟩
       case round =>
        clear H'
        try clear c1
        try clear p2
        try clear c4
        try clear c5
        try clear c7
        try clear c8
        try clear c13
        try clear c18
        try clear c18b0
        try clear hcz11_0
        try clear hcz11_1
        try clear hcz15_0
        try clear hcz15_1
        try clear hcz17_0
        try clear hcz17_1
        try clear hcz7_0
        try clear hcz7_1
        try clear hcz9_0
        try clear hcz9_1
        try clear hfz11_0
        try clear hfz11_1
        try clear hfz15_0
        try clear hfz15_1
        try clear hfz17_0
        try clear hfz17_1
        try clear hfz7_0
        try clear hfz7_1
        try clear hfz9_0
        try clear hfz9_1
        try clear p2
        obtain ⟨x6_3, x35_3, rfl, HA, HK3, HO_3, HO_5, HO_6, HO_33, HO_222001, BK221, HB⟩ := hrel
        cases gk with
        | zero => exact absurd HA.out (by simp [impl_CoreOf.l1])
        | succ k3 =>
         have H := HA.out
         clear HA
         simp only [impl_CoreOf.l1] at H
         by_cases c26 : x35_3 < (t233.length : Int)
         ·rw [if_pos c26] at H
          have c26b0 : decide (x35_3 < (t233.length : Int)) = true := decide_eq_true c26
          clear c26
          by_cases c27 : 0 ≤ x35_3
          ·rw [if_pos c27] at H
           have c27b0 : decide (0 ≤ x35_3) = true := decide_eq_true c27
           clear c27
           by_cases c28 : x35_3 < (t233.length : Int)
           ·rw [if_pos c28] at H
            have c28b0 : decide (x35_3 < (t233.length : Int)) = true := decide_eq_true c28
            clear c28
            by_cases c29 : 0 ≤ (rd t233 x35_3)
            ·rw [if_pos c29] at H
             have c29b0 : decide (0 ≤ (rd t233 x35_3)) = true := decide_eq_true c29
             clear c29
             by_cases c30 : (rd t233 x35_3) < (l0_1.length : Int)
             ·rw [if_pos c30] at H
              have c30b0 : decide ((rd t233 x35_3) < (l0_1.length : Int)) = true := decide_eq_true c30
              clear c30
              by_cases c31 : x6_3.length < 5864062014805
              ·rw [if_pos c31] at H
               have LMc31 := Aside0.mk c31
               clear c31
               obtain ⟨y238, hy238⟩ : ∃ y_ : List (List Int), y_ = (x6_3 ++ [rd_L1 l0_1 (rd t233 x35_3)]) := ⟨_, rfl⟩
               replace H : (impl_CoreOf.l1 k3 x3_2 t233 y238 (l0_1.length : Int) x26_2 t233 (t233.length : Int) (wrap64 (x35_3 + 1)) a0_0 l0_1) = some r := by first | (rw [hy238]; with_reducible exact H) | (have H2_ := (Option.bind_some _ _).symm.trans H; rw [hy238]; with_reducible exact H2_) | (have H2_ := (Option.bind_some _ _).symm.trans H; with_reducible exact H2_) | with_reducible exact H | (rw [hy238]; exact H) | exact H
               have Ny238 := Aside0.mk hy238
               clear hy238
               have H' := Aside0.mk H
               clear H
               have p236 : 0 ≤ (x35_3 : Int) := of_decide_eq_true (by first | (with_reducible assumption) | assumption)
               have q236 : x35_3 < (t233.length : Int) := of_decide_eq_true (by first | (with_reducible assumption) | assumption)
               obtain ⟨ad236, e236, hx236_0⟩ := Kd.at_int (Kd.R_reads' HO_33.out).2.2 x35_3 p236 q236
               cases e236
               replace p236 := eq_true p236
               replace q236 := eq_true q236
               have hcz32_0 : wr.cell? ⟨gb221, 0, none⟩ = some (.int .i64 a0_0) := (blk_cell BK221.out 0).trans rfl
               have hcz32_1 : wr.cell? ⟨gb221, 1, none⟩ = some (.slice A0_1 l0_1.length c0_1) := (blk_cell BK221.out 1).trans rfl
               have hfz32_0 := blk_frozen BK221.out 0
               have hfz32_1 := blk_frozen BK221.out 1
               have p237 : 0 ≤ ((rd t233 x35_3) : Int) := of_decide_eq_true (by first | (with_reducible assumption) | assumption)
               have q237 : (rd t233 x35_3) < (l0_1.length : Int) := of_decide_eq_true (by first | (with_reducible assumption) | assumption)
               obtain ⟨ad237, A237_0, c237_0, e237, hx237_0, hl237_0, hi237_0⟩ := at_L1 (Kd.V_reads' HO_222001.out).2.2 (rd t233 x35_3) p237 q237
               cases e237
               obtain ⟨ce237, hce237, hMe237, hcc237⟩ := Kd.V_get HO_222001.out [] (rd t233 x35_3) p237 (by first | exact q237 | exact of_decide_eq_true (by first | (with_reducible assumption) | assumption) | (have e_ := (Kd.V_reads' HO_222001.out).1; omega))
               obtain ⟨ua237_0, uc237_0, rfl, ul237_0, ge237_0⟩ := Kd.FK_slice_open hMe237
               have hv237_0 := hcc237 0 _ rfl
               rw [Nat.add_zero, show ((Kd.slice 3 (Kd.int .i64))).sz = 1 from rfl, Nat.mul_one] at hv237_0
               replace hv237_0 := Option.some.inj (hv237_0.symm.trans hx237_0)
               injection hv237_0 with hva_ hvn_ hvc_
               rw [hva_] at ge237_0
               rw [hvc_] at ul237_0
               have HL237_0 := Aside0.mk (show Kd.V (Kd.int .i64) 3 _ w.heap.size _ _ (rd_L1 l0_1 (rd t233 x35_3)) from Kd.V_mk ul237_0 ge237_0)
               clear hva_ hvn_ hvc_ ge237_0 ul237_0
               clear hcc237 hce237
               have HR237_0 := Aside0.mk hi237_0
               have HC237_0 := Aside0.mk hl237_0
               clear hi237_0 hl237_0
               replace p237 := eq_true p237
               replace q237 := eq_true q237
               go_wp2_with (first | ((with_reducible refine gate_builtin (b := .append) (xs := #[.tmp 39, .tmp 45]) rfl ?_); at_builtin; refine Kd.N_append (Kd.slice 3 (Kd.int .i64)) (w0 := w) w.heap.size rfl (.tmp 39) (.tmp 45) 22 25 (.slice none 0 0) 24 rfl Try.underlying22 info25 rfl (by decide) (by omega) u6 x6_3 (rd_L1 l0_1 (rd t233 x35_3)) [.slice A237_0 (rd_L1 l0_1 (rd t233 x35_3)).length c237_0] (fun k_ => (P0_1_ k_ ∨ w.heap.size ≤ k_) ∧ some k_ ≠ (.slice Ao21 x3_2.length co21 : Value).ownBlock ∧ some k_ ≠ (.slice (some ad236) t233.length co25 : Value).ownBlock ∧ some k_ ≠ (.slice (some ad236) t233.length co25 : Value).ownBlock ∧ k_ ≠ gb221) (fun k_ => ((fun k_ => (P0_1_ k_ ∨ w.heap.size ≤ k_) ∧ some k_ ≠ (.slice Ao21 x3_2.length co21 : Value).ownBlock ∧ some k_ ≠ (.slice (some ad236) t233.length co25 : Value).ownBlock ∧ some k_ ≠ (.slice (some ad236) t233.length co25 : Value).ownBlock ∧ k_ ≠ gb221)) k_ ∧ some k_ ≠ (u6 : Value).ownBlock) rfl rfl ?aP (fun _ hk => hk) ?aF ?aO ?aB ?aS ?aL ?_; (case aP => exact (Kd.FK_slice_mk (Kd.V_reads' (Kd.V_mono (ok' := (fun k_ => ((fun k_ => (P0_1_ k_ ∨ w.heap.size ≤ k_) ∧ some k_ ≠ (.slice Ao21 x3_2.length co21 : Value).ownBlock ∧ some k_ ≠ (.slice (some ad236) t233.length co25 : Value).ownBlock ∧ some k_ ≠ (.slice (some ad236) t233.length co25 : Value).ownBlock ∧ k_ ≠ gb221)) k_ ∧ some k_ ≠ (u6 : Value).ownBlock)) (HL237_0.out) (fun k_ hk => ⟨⟨hk.1, ⟨hk.2.1, ⟨hk.2.2.1, ⟨hk.2.2.2.2.1, hk.2.2.2.2.2⟩⟩⟩⟩, hk.2.2.2.1⟩))).2.1 (Kd.V_F (Kd.V_mono (ok' := (fun k_ => ((fun k_ => (P0_1_ k_ ∨ w.heap.size ≤ k_) ∧ some k_ ≠ (.slice Ao21 x3_2.length co21 : Value).ownBlock ∧ some k_ ≠ (.slice (some ad236) t233.length co25 : Value).ownBlock ∧ some k_ ≠ (.slice (some ad236) t233.length co25 : Value).ownBlock ∧ k_ ≠ gb221)) k_ ∧ some k_ ≠ (u6 : Value).ownBlock)) (HL237_0.out) (fun k_ hk => ⟨⟨hk.1, ⟨hk.2.1, ⟨hk.2.2.1, ⟨hk.2.2.2.2.1, hk.2.2.2.2.2⟩⟩⟩⟩, hk.2.2.2.1⟩))))); (case aB => exact (by repeat (first | (with_reducible first | exact HB.out | apply bwA | apply bwN | apply bwD | refine below_set ?_ GE221.out) | exact HB.out))); (case aF => exact (fun k_ hk => ⟨(.inr (Nat.le_trans (below_size (by repeat (first | (with_reducible first | exact HB.out | apply bwA | apply bwN | apply bwD | refine below_set ?_ GE221.out) | exact HB.out))) hk)), Kd.fresh' (Kd.R_lt (by (with_reducible repeat (first | apply Kd.R_alloc | apply Kd.R_drewN | apply Kd.R_drew)); exact HO_3.out)) k_ hk, Kd.fresh' (Kd.R_lt (by (with_reducible repeat (first | apply Kd.R_alloc | apply Kd.R_drewN | apply Kd.R_drew)); exact HO_5.out)) k_ hk, Kd.fresh' (Kd.R_lt (by (with_reducible repeat (first | apply Kd.R_alloc | apply Kd.R_drewN | apply Kd.R_drew)); exact HO_33.out)) k_ hk, Kd.freshB (g := gb221) (o := .cells #[.int .i64 a0_0, .slice (some ad237) l0_1.length c0_1] 29 (0, 0)) (by (with_reducible repeat (first | refine blk_drewN ?_ _ | refine blk_drew ?_ | refine blk_alloc ?_ _)); exact BK221.out) k_ hk⟩)); (case aO => exact (by (with_reducible repeat (first | apply Kd.N_alloc | apply Kd.N_drewN | apply Kd.N_drew)); exact HO_6.out)); (case aS => exact (below_size (by repeat (first | (with_reducible first | exact HB.out | apply bwA | apply bwN | apply bwD | refine below_set ?_ GE221.out) | exact HB.out)))); (case aL => have := LMc31.out; omega); intro v239 w33 ho hb hg hat; rw [← Ny238.out] at ho; have n0_ := Aside0.mk (Kd.R_over' (by (with_reducible repeat (first | apply Kd.R_alloc | apply Kd.R_drewN | apply Kd.R_drew)); exact HO_3.out) (Kd.N_typed (by (with_reducible repeat (first | apply Kd.N_alloc | apply Kd.N_drewN | apply Kd.N_drew)); exact HO_6.out)) (by decide) hg); have n1_ := Aside0.mk (Kd.R_over' (by (with_reducible repeat (first | apply Kd.R_alloc | apply Kd.R_drewN | apply Kd.R_drew)); exact HO_5.out) (Kd.N_typed (by (with_reducible repeat (first | apply Kd.N_alloc | apply Kd.N_drewN | apply Kd.N_drew)); exact HO_6.out)) (by decide) hg); have n2_ := Aside0.mk (Kd.R_over' (by (with_reducible repeat (first | apply Kd.R_alloc | apply Kd.R_drewN | apply Kd.R_drew)); exact HO_33.out) (Kd.N_typed (by (with_reducible repeat (first | apply Kd.N_alloc | apply Kd.N_drewN | apply Kd.N_drew)); exact HO_6.out)) (by decide) hg); have n3_ := Aside0.mk (Kd.V_afterv (ok := (fun k_ => (P0_1_ k_ ∨ w.heap.size ≤ k_) ∧ some k_ ≠ (.slice Ao21 x3_2.length co21 : Value).ownBlock ∧ some k_ ≠ (.slice (some ad236) t233.length co25 : Value).ownBlock ∧ some k_ ≠ (.slice (some ad236) t233.length co25 : Value).ownBlock ∧ k_ ≠ gb221)) (by (with_reducible repeat (first | apply Kd.V_alloc | apply Kd.V_drewN | apply Kd.V_drew)); exact Kd.V_mono HO_222001.out (fun _ hk => ⟨⟨hk.1, ⟨hk.2.1, ⟨hk.2.2.1, ⟨hk.2.2.2.2.1, hk.2.2.2.2.2⟩⟩⟩⟩, hk.2.2.2.1⟩)) hg hat); have n4_ := Aside0.mk (blk_grown (g := gb221) (o := .cells #[.int .i64 a0_0, .slice (some ad237) l0_1.length c0_1] 29 (0, 0)) (by (with_reducible repeat (first | refine blk_drewN ?_ _ | refine blk_drew ?_ | refine blk_alloc ?_ _)); exact BK221.out) hg (Kd.N_ne HO_6.out BK221.out (by decide))); have n5_ := Aside0.mk (Kd.V_afterv (ok := (fun k_ => (P0_1_ k_ ∨ w.heap.size ≤ k_) ∧ some k_ ≠ (.slice Ao21 x3_2.length co21 : Value).ownBlock ∧ some k_ ≠ (.slice (some ad236) t233.length co25 : Value).ownBlock ∧ some k_ ≠ (.slice (some ad236) t233.length co25 : Value).ownBlock ∧ k_ ≠ gb221)) (by (with_reducible repeat (first | apply Kd.V_alloc | apply Kd.V_drewN | apply Kd.V_drew)); exact Kd.V_mono HL237_0.out (fun _ hk => ⟨⟨hk.1, ⟨hk.2.1, ⟨hk.2.2.1, ⟨hk.2.2.2.2.1, hk.2.2.2.2.2⟩⟩⟩⟩, hk.2.2.2.1⟩)) hg hat); have n6_ := Aside0.mk (hb); have n7_ := Aside0.mk (ho); clear HO_3; clear HO_5; clear HO_33; clear HO_222001; clear BK221; clear HL237_0; clear HB; clear HO_6; have HO_3 := n0_; have HO_5 := n1_; have HO_33 := n2_; have HO_222001 := n3_; have BK221 := n4_; have HL237_0 := n5_; have HB := n6_; have HO240 := n7_; clear n0_ n1_ n2_ n3_ n4_ n5_ n6_ n7_; clear ho hb hg hat))
               go_roundg k3
               case measure => have := HJ1.out; have := HK2.out; have := HK3.out; omega
               case rel => exact ⟨(y238), (wrap64 (x35_3 + 1)), (by first | rfl | (simp; done) | (simp [*]; done)), H', ⟨by have := HJ1.out; have := HK2.out; have := HK3.out; omega⟩, ⟨by (with_reducible repeat (first | apply Kd.R_alloc | apply Kd.R_drewN | apply Kd.R_drew)); exact HO_3.out⟩, ⟨by (with_reducible repeat (first | apply Kd.R_alloc | apply Kd.R_drewN | apply Kd.R_drew)); exact HO_5.out⟩, ⟨by (with_reducible repeat (first | apply Kd.N_alloc | apply Kd.N_drewN | apply Kd.N_drew)); exact HO240.out⟩, ⟨by (with_reducible repeat (first | apply Kd.R_alloc | apply Kd.R_drewN | apply Kd.R_drew)); exact HO_33.out⟩, ⟨by (with_reducible repeat (first | apply Kd.V_alloc | apply Kd.V_drewN | apply Kd.V_drew)); exact Kd.V_mono HO_222001.out (fun _ hk => ⟨hk.1.1, ⟨hk.1.2.1, ⟨hk.1.2.2.1, ⟨hk.2, ⟨hk.1.2.2.2.1, hk.1.2.2.2.2⟩⟩⟩⟩⟩)⟩, ⟨by (with_reducible repeat (first | refine blk_drewN ?_ _ | refine blk_drew ?_ | refine blk_alloc ?_ _)); exact BK221.out⟩, ⟨by repeat (first | (with_reducible first | exact HB.out | apply bwA | apply bwN | apply bwD | refine below_set ?_ GE221.out) | exact HB.out)⟩⟩
              ·rw [if_neg c31] at H
               exact absurd H (by simp)
             ·rw [if_neg c30] at H
              exact absurd H (by simp)
            ·rw [if_neg c29] at H
             exact absurd H (by simp)
           ·rw [if_neg c28] at H
            exact absurd H (by simp)
          ·rw [if_neg c27] at H
           exact absurd H (by simp)
         ·rw [if_neg c26] at H
          have c26b0 : decide (x35_3 < (t233.length : Int)) = false := decide_eq_false c26
          clear c26
          replace H := Option.bind_eq_some_iff.mp H
          obtain ⟨t241, A340, H⟩ := H
          replace H : (if t241 = true then (impl_CoreOf.l0 k3 x3_2 (l0_1.length : Int) (wrap64 (x26_2 + 1)) a0_0 l0_1) else (impl_CoreOf.l0 k3 t233 (l0_1.length : Int) (wrap64 (x26_2 + 1)) a0_0 l0_1)) = some r := H
          have A34 := Aside0.mk A340
          clear A340
          by_cases c35 : t241 = true
          ·subst c35
           have H1 : (impl_CoreOf.l0 k3 x3_2 (l0_1.length : Int) (wrap64 (x26_2 + 1)) a0_0 l0_1) = some r := by rw [if_pos rfl] at H; exact H
           clear H
           have H := H1
           clear H1
           have H' := Aside0.mk H
           clear H
           have hcz36_0 : wr.cell? ⟨gb221, 0, none⟩ = some (.int .i64 a0_0) := (blk_cell BK221.out 0).trans rfl
           have hcz36_1 : wr.cell? ⟨gb221, 1, none⟩ = some (.slice A0_1 l0_1.length c0_1) := (blk_cell BK221.out 1).trans rfl
           have hfz36_0 := blk_frozen BK221.out 0
           have hfz36_1 := blk_frozen BK221.out 1
           obtain ⟨Ao37, co37, eo37⟩ := Kd.N_slice HO_6.out
           subst eo37
           go_wp2_with (first | ((with_reducible refine gate_callee (f := 73) rfl ?_); refine goesL_ (some 51) rfl rfl Try.func73 (by kernel_rfl) rfl #[.int .i64 a0_0, .slice Ao37 x6_3.length co37] rfl (by (try simp only [List.map_toArray, List.map_cons, List.map_nil]); first | done | rfl | (simp only [List.length_drop, List.length_take]; rfl)) ?_; (with_reducible refine (impl_satisfiable.calls k3 a0_0 _ _ x6_3 true _ ?side1 ?side2 A34.out).mono ?_); (case side1 => repeat (first | exact (Kd.N_reads' HO_6.out).2.2 | (with_reducible refine Kd.C_alloc ?_ _) | (with_reducible refine Kd.C_drewN ?_ _) | (with_reducible refine Kd.C_drew ?_))); (case side2 => exact (Kd.N_reads' HO_6.out).2.1); rintro e w38 ⟨rfl, hb⟩; refine ⟨_, rfl, ?_⟩; have n0_ := Aside0.mk (Kd.R_below (by (with_reducible repeat (first | apply Kd.R_alloc | apply Kd.R_drewN | apply Kd.R_drew)); exact HO_3.out) hb); have n1_ := Aside0.mk (Kd.R_below (by (with_reducible repeat (first | apply Kd.R_alloc | apply Kd.R_drewN | apply Kd.R_drew)); exact HO_5.out) hb); have n2_ := Aside0.mk (Kd.N_below (by (with_reducible repeat (first | apply Kd.N_alloc | apply Kd.N_drewN | apply Kd.N_drew)); exact HO_6.out) hb); have n3_ := Aside0.mk (Kd.R_below (by (with_reducible repeat (first | apply Kd.R_alloc | apply Kd.R_drewN | apply Kd.R_drew)); exact HO_33.out) hb); have n4_ := Aside0.mk (Kd.V_below (by (with_reducible repeat (first | apply Kd.V_alloc | apply Kd.V_drewN | apply Kd.V_drew)); exact HO_222001.out) hb); have n5_ := Aside0.mk (blk_below (g := gb221) (o := .cells #[.int .i64 a0_0, .slice A0_1 l0_1.length c0_1] 29 (0, 0)) (by (with_reducible repeat (first | refine blk_drewN ?_ _ | refine blk_drew ?_ | refine blk_alloc ?_ _)); exact BK221.out) hb); have n6_ := Aside0.mk (below_step (by repeat (first | (with_reducible first | exact HB.out | apply bwA | apply bwN | apply bwD | refine below_set ?_ GE221.out) | exact HB.out)) hb); clear HO_3; clear HO_5; clear HO_6; clear HO_33; clear HO_222001; clear BK221; clear HB; have HO_3 := n0_; have HO_5 := n1_; have HO_6 := n2_; have HO_33 := n3_; have HO_222001 := n4_; have BK221 := n5_; have HB := n6_; clear n0_ n1_ n2_ n3_ n4_ n5_ n6_; (try clear hb); (try clear hb2); (try clear hk); (try clear hi)))
           go_roundg k3
           case measure => have := HJ1.out; have := HK2.out; have := HK3.out; omega
           case rel => exact ⟨(x3_2), (wrap64 (x26_2 + 1)), (by first | rfl | (simp; done) | (simp [*]; done)), H', ⟨by have := HJ1.out; have := HK2.out; have := HK3.out; omega⟩, ⟨by (with_reducible repeat (first | apply Kd.R_alloc | apply Kd.R_drewN | apply Kd.R_drew)); exact Kd.R_mono HO_3.out (fun _ hk => hk.1)⟩, ⟨by (with_reducible repeat (first | apply Kd.V_alloc | apply Kd.V_drewN | apply Kd.V_drew)); exact Kd.V_mono HO_222001.out (fun _ hk => ⟨hk.1, ⟨hk.2.1, hk.2.2.2.2.2⟩⟩)⟩, ⟨by (with_reducible repeat (first | refine blk_drewN ?_ _ | refine blk_drew ?_ | refine blk_alloc ?_ _)); exact BK221.out⟩, ⟨by repeat (first | (with_reducible first | exact HB.out | apply bwA | apply bwN | apply bwD | refine below_set ?_ GE221.out) | exact HB.out)⟩⟩
          ·replace c35 := Bool.eq_false_iff.mpr c35
           subst c35
           have H1 : (impl_CoreOf.l0 k3 t233 (l0_1.length : Int) (wrap64 (x26_2 + 1)) a0_0 l0_1) = some r := by rw [if_neg (show ¬ (false = true) by decide)] at H; exact H
           clear H
           have H := H1
           clear H1
           have H' := Aside0.mk H
           clear H
           have hcz39_0 : wr.cell? ⟨gb221, 0, none⟩ = some (.int .i64 a0_0) := (blk_cell BK221.out 0).trans rfl
           have hcz39_1 : wr.cell? ⟨gb221, 1, none⟩ = some (.slice A0_1 l0_1.length c0_1) := (blk_cell BK221.out 1).trans rfl
           have hfz39_0 := blk_frozen BK221.out 0
           have hfz39_1 := blk_frozen BK221.out 1
           obtain ⟨Ao40, co40, eo40⟩ := Kd.N_slice HO_6.out
           subst eo40
           go_wp2_with (first | ((with_reducible refine gate_callee (f := 73) rfl ?_); refine goesL_ (some 51) rfl rfl Try.func73 (by kernel_rfl) rfl #[.int .i64 a0_0, .slice Ao40 x6_3.length co40] rfl (by (try simp only [List.map_toArray, List.map_cons, List.map_nil]); first | done | rfl | (simp only [List.length_drop, List.length_take]; rfl)) ?_; (with_reducible refine (impl_satisfiable.calls k3 a0_0 _ _ x6_3 false _ ?side1 ?side2 A34.out).mono ?_); (case side1 => repeat (first | exact (Kd.N_reads' HO_6.out).2.2 | (with_reducible refine Kd.C_alloc ?_ _) | (with_reducible refine Kd.C_drewN ?_ _) | (with_reducible refine Kd.C_drew ?_))); (case side2 => exact (Kd.N_reads' HO_6.out).2.1); rintro e w41 ⟨rfl, hb⟩; refine ⟨_, rfl, ?_⟩; have n0_ := Aside0.mk (Kd.R_below (by (with_reducible repeat (first | apply Kd.R_alloc | apply Kd.R_drewN | apply Kd.R_drew)); exact HO_3.out) hb); have n1_ := Aside0.mk (Kd.R_below (by (with_reducible repeat (first | apply Kd.R_alloc | apply Kd.R_drewN | apply Kd.R_drew)); exact HO_5.out) hb); have n2_ := Aside0.mk (Kd.N_below (by (with_reducible repeat (first | apply Kd.N_alloc | apply Kd.N_drewN | apply Kd.N_drew)); exact HO_6.out) hb); have n3_ := Aside0.mk (Kd.R_below (by (with_reducible repeat (first | apply Kd.R_alloc | apply Kd.R_drewN | apply Kd.R_drew)); exact HO_33.out) hb); have n4_ := Aside0.mk (Kd.V_below (by (with_reducible repeat (first | apply Kd.V_alloc | apply Kd.V_drewN | apply Kd.V_drew)); exact HO_222001.out) hb); have n5_ := Aside0.mk (blk_below (g := gb221) (o := .cells #[.int .i64 a0_0, .slice A0_1 l0_1.length c0_1] 29 (0, 0)) (by (with_reducible repeat (first | refine blk_drewN ?_ _ | refine blk_drew ?_ | refine blk_alloc ?_ _)); exact BK221.out) hb); have n6_ := Aside0.mk (below_step (by repeat (first | (with_reducible first | exact HB.out | apply bwA | apply bwN | apply bwD | refine below_set ?_ GE221.out) | exact HB.out)) hb); clear HO_3; clear HO_5; clear HO_6; clear HO_33; clear HO_222001; clear BK221; clear HB; have HO_3 := n0_; have HO_5 := n1_; have HO_6 := n2_; have HO_33 := n3_; have HO_222001 := n4_; have BK221 := n5_; have HB := n6_; clear n0_ n1_ n2_ n3_ n4_ n5_ n6_; (try clear hb); (try clear hb2); (try clear hk); (try clear hi)))
           go_roundg k3
           case measure => have := HJ1.out; have := HK2.out; have := HK3.out; omega
           case rel => exact ⟨(t233), (wrap64 (x26_2 + 1)), (by first | rfl | (simp; done) | (simp [*]; done)), H', ⟨by have := HJ1.out; have := HK2.out; have := HK3.out; omega⟩, ⟨by (with_reducible repeat (first | apply Kd.R_alloc | apply Kd.R_drewN | apply Kd.R_drew)); exact Kd.R_mono HO_5.out (fun _ hk => hk.1)⟩, ⟨by (with_reducible repeat (first | apply Kd.V_alloc | apply Kd.V_drewN | apply Kd.V_drew)); exact Kd.V_mono HO_222001.out (fun _ hk => ⟨hk.1, ⟨hk.2.2.1, hk.2.2.2.2.2⟩⟩)⟩, ⟨by (with_reducible repeat (first | refine blk_drewN ?_ _ | refine blk_drew ?_ | refine blk_alloc ?_ _)); exact BK221.out⟩, ⟨by repeat (first | (with_reducible first | exact HB.out | apply bwA | apply bwN | apply bwD | refine below_set ?_ GE221.out) | exact HB.out)⟩⟩
      ·rw [if_neg c18] at H
       have c18b0 : decide (x26_2 < (l0_1.length : Int)) = false := decide_eq_false c18
       clear c18
       replace H := Option.bind_eq_some_iff.mp H
       obtain ⟨t227, A420, H⟩ := H
       replace H : (some t227) = some r := H
       have A42 := Aside0.mk A420
       clear A420
       obtain rfl := Option.some.inj H
       obtain ⟨Ao43, co43, eo43⟩ := Kd.R_slice HO_3.out
       subst eo43
       (try rw [hl237_0] at c18b0)
       (try rw [hl237_0] at c18b0)
       go_wp2_with (first | ((with_reducible refine gate_callee (f := 54) rfl ?_); refine goesL_ (some 56) rfl rfl Try.func54 (by kernel_rfl) rfl #[.slice Ao43 x3_2.length co43] rfl (by (try simp only [List.map_toArray, List.map_cons, List.map_nil]); first | done | rfl | (simp only [List.length_drop, List.length_take]; rfl)) ?_; (with_reducible refine (impl_clone_int.calls _ _ x3_2 t227 _ ?side1 ?side2 A42.out).mono ?_); (case side1 => repeat (first | exact (Kd.R_reads' HO_3.out).2.2 | (with_reducible refine Kd.C_alloc ?_ _) | (with_reducible refine Kd.C_drewN ?_ _) | (with_reducible refine Kd.C_drew ?_))); (case side2 => exact (Kd.R_reads' HO_3.out).2.1); rintro e w44 ⟨v228, rfl, ho0, hb⟩; refine ⟨_, rfl, ?_⟩; have n0_ := Aside0.mk (Kd.R_elder' (by (with_reducible repeat (first | apply Kd.R_alloc | apply Kd.R_drewN | apply Kd.R_drew)); exact HO_3.out) (Kd.R_base ho0) hb); have n1_ := Aside0.mk (Kd.V_elder' (by (with_reducible repeat (first | apply Kd.V_alloc | apply Kd.V_drewN | apply Kd.V_drew)); exact HO_222001.out) (Kd.R_base ho0) hb); have n2_ := Aside0.mk (Kd.R_lower (Kd.R_new' (Kd.R_newM (M := fun k_ => (w.heap.size ≤ k_)) ho0 (below_size (by repeat (first | (with_reducible first | exact HB.out | apply bwA | apply bwN | apply bwD | refine below_set ?_ GE221.out) | exact HB.out))) (fun k_ h_ => h_)) (Kd.R_lt (by (with_reducible repeat (first | apply Kd.R_alloc | apply Kd.R_drewN | apply Kd.R_drew)); exact HO_3.out))) (below_size (by repeat (first | (with_reducible first | exact HB.out | apply bwA | apply bwN | apply bwD | refine below_set ?_ GE221.out) | exact HB.out)))); have n3_ := Aside0.mk (blk_below (g := gb221) (o := .cells #[.int .i64 a0_0, .slice A0_1 l0_1.length c0_1] 29 (0, 0)) (by (with_reducible repeat (first | refine blk_drewN ?_ _ | refine blk_drew ?_ | refine blk_alloc ?_ _)); exact BK221.out) hb); have n4_ := Aside0.mk (below_step (by repeat (first | (with_reducible first | exact HB.out | apply bwA | apply bwN | apply bwD | refine below_set ?_ GE221.out) | exact HB.out)) hb); clear HO_3; clear HO_222001; clear BK221; clear HB; have HO_3 := n0_; have HO_222001 := n1_; have HO229 := n2_; have BK221 := n3_; have HB := n4_; clear n0_ n1_ n2_ n3_ n4_; (try clear hb); (try clear hb2); (try clear hk); (try clear hi); (try clear ho0)))
       go_ret
       exact ⟨_, by first | rfl | (simp [errW_none, errW_some] <;> rfl) | (simp [*, errW_none, errW_some] <;> rfl), by (with_reducible repeat (first | apply Kd.R_alloc | apply Kd.R_drewN | apply Kd.R_drew)); exact Kd.R_mono HO229.out (fun _ hk => hk.1.1), by repeat (first | (with_reducible first | exact HB.out | apply bwA | apply bwN | apply bwD | refine below_set ?_ GE221.out) | exact HB.out)⟩


end Go.Proofs.Ytkfmgfdbdgjfiaa.QFnExactCoreOf
