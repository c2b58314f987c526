-- Written by a program of this session (mk.py). Lean checks it.
import Derived.Test.YtdigdhckbhlkmaaQFnGuessNextx0
import Derived.Test.YtdigdhckbhlkmaaQFnGuessNextx4
import Derived.Test.YtdigdhckbhlkmaaQFnGuessNextx5
import Derived.Test.YtdigdhckbhlkmaaQFnGuessNextx6
namespace Go.Proofs.Ytdigdhckbhlkmaa.QFnGuessNext
open Go.RowKit Go.Proofs.YtdigdhckbhlkmaaW.PrintWords Go.Proofs.YtdigdhckbhlkmaaW.PrintLast Go.Proofs.YtdigdhckbhlkmaaW.PrintMore
attribute [local go_sem] max2_int min2_int max_two min_two max_three min_three max_four min_four   -- for this text's walks alone
set_option linter.unusedVariables false
set_option linter.unusedSimpArgs false

/-! ### impl_truths: function 54 -/
def impl_truths.l0 : Nat → List Int → List Int → Int → List (S37) → Int → Int → Option (List Int)
 | 0, _, _, _, _, _, _ => none
 | k + 1, x9, x10, x11, x30, x31, x32 => if x32 < x31 then (if 0 ≤ x32 then (if x32 < (x30.length : Int) then (if ((rd_T37 x30 x32).f0) = 0 then (if x32 < (x10.length : Int) then (impl_truths.l0 k x9 (x10.set (x32 : Int).toNat 1) x11 x30 x31 (wrap64 (x32 + 1))) else (none)) else (if ((rd_T37 x30 x32).f0) = 1 then (if 0 ≤ ((rd_T37 x30 x32).f1) then (if ((rd_T37 x30 x32).f1) < (x9.length : Int) then (if x32 < (x10.length : Int) then (impl_truths.l0 k x9 (x10.set (x32 : Int).toNat (rd x9 ((rd_T37 x30 x32).f1))) x11 x30 x31 (wrap64 (x32 + 1))) else (none)) else (none)) else (none)) else (if ((rd_T37 x30 x32).f0) = 2 then (if 0 ≤ ((rd_T37 x30 x32).f2) then (if ((rd_T37 x30 x32).f2) < (x10.length : Int) then (if x32 < (x10.length : Int) then (impl_truths.l0 k x9 (x10.set (x32 : Int).toNat (wrap64 (1 - (rd x10 ((rd_T37 x30 x32).f2))))) x11 x30 x31 (wrap64 (x32 + 1))) else (none)) else (none)) else (none)) else (if ((rd_T37 x30 x32).f0) = 3 then (if 0 ≤ ((rd_T37 x30 x32).f2) then (if ((rd_T37 x30 x32).f2) < (x10.length : Int) then (if 0 ≤ ((rd_T37 x30 x32).f3) then (if ((rd_T37 x30 x32).f3) < (x10.length : Int) then (if x32 < (x10.length : Int) then (impl_truths.l0 k x9 (x10.set (x32 : Int).toNat (Go.bits .and .i64 (rd x10 ((rd_T37 x30 x32).f2)) (rd x10 ((rd_T37 x30 x32).f3)))) x11 x30 x31 (wrap64 (x32 + 1))) else (none)) else (none)) else (none)) else (none)) else (none)) else (if ((rd_T37 x30 x32).f0) = 4 then (if 0 ≤ ((rd_T37 x30 x32).f2) then (if ((rd_T37 x30 x32).f2) < (x10.length : Int) then (if 0 ≤ ((rd_T37 x30 x32).f3) then (if ((rd_T37 x30 x32).f3) < (x10.length : Int) then (if x32 < (x10.length : Int) then (impl_truths.l0 k x9 (x10.set (x32 : Int).toNat (Go.bits .or .i64 (rd x10 ((rd_T37 x30 x32).f2)) (rd x10 ((rd_T37 x30 x32).f3)))) x11 x30 x31 (wrap64 (x32 + 1))) else (none)) else (none)) else (none)) else (none)) else (none)) else (if 0 ≤ x11 then (if x11 < (x9.length : Int) then (if x32 < (x10.length : Int) then (impl_truths.l0 k x9 (x10.set (x32 : Int).toNat (rd x9 x11)) (wrap64 (x11 + 1)) x30 x31 (wrap64 (x32 + 1))) else (none)) else (none)) else (none))))))) else (none)) else (none)) else (some x10)
def impl_truths.f (k : Nat) (l0 : List (S37)) (a1 : Int) (a2 : Int) : Option (List Int) := (impl_guessed.f k l0 a1).bind fun bt245 => ((impl_valueBits.f k a2 (wrap64 (a1 + (bt245.1.length : Int)))).bind fun t249 => (if 0 ≤ (l0.length : Int) then (if ((l0.length : Int) : Int).toNat ≤ 35184372088832 then (impl_truths.l0 k t249 (List.replicate ((l0.length : Int) : Int).toNat 0) a1 l0 (l0.length : Int) 0) else (none)) else (none)))
theorem impl_truths.mono_l : ∀ k, (∀ y0 y1 y2 y3 y4 y5, LeO (impl_truths.l0 k y0 y1 y2 y3 y4 y5) (impl_truths.l0 (k + 1) y0 y1 y2 y3 y4 y5))
 | 0 => fun _ _ _ _ _ _ r h => by simp [impl_truths.l0] at h
 | k + 1 => by
  have ih0 := impl_truths.mono_l k
  ·intro y0 y1 y2 y3 y4 y5
   unfold impl_truths.l0
   repeat' first
   | (with_reducible exact ih0 _ _ _ _ _ _)
   | (with_reducible exact impl_guessed.mono _ _ _)
   | (with_reducible exact impl_valueBits.mono _ _ _)
   | (with_reducible exact LeO.refl _)
   | (with_reducible exact LeO.none _)
   | (with_reducible refine LeO.ite ?_ ?_)
   | (with_reducible refine LeO.bind ?_ (fun _ => ?_))
   | exact ih0 _ _ _ _ _ _
   | exact impl_guessed.mono _ _ _
   | exact impl_valueBits.mono _ _ _
   | exact LeO.none _
   | refine LeO.ite ?_ ?_
   | refine LeO.bind ?_ (fun _ => ?_)
theorem impl_truths.mono : ∀ a0 a1 a2 k, LeO (impl_truths.f k a0 a1 a2) (impl_truths.f (k + 1) a0 a1 a2) := by
 intro a0 a1 a2 k
 have ih0 := impl_truths.mono_l k
 unfold impl_truths.f
 repeat' first
   | (with_reducible exact ih0 _ _ _ _ _ _)
   | (with_reducible exact impl_guessed.mono _ _ _)
   | (with_reducible exact impl_valueBits.mono _ _ _)
   | (with_reducible exact LeO.refl _)
   | (with_reducible exact LeO.none _)
   | (with_reducible refine LeO.ite ?_ ?_)
   | (with_reducible refine LeO.bind ?_ (fun _ => ?_))
   | exact ih0 _ _ _ _ _ _
   | exact impl_guessed.mono _ _ _
   | exact impl_valueBits.mono _ _ _
   | exact LeO.none _
   | refine LeO.ite ?_ ?_
   | refine LeO.bind ?_ (fun _ => ?_)
def impl_truths.T18 : Bool × List (List Nat × List Nat) := (true, [([], []), ([], []), ([], []), ([], []), ([3], [3]), ([2, 4], [2, 4]), ([5], [5]), ([], []), ([], []), ([8], [8]), ([7, 9], [7, 9]), ([10], [10]), ([6, 11], [6, 11]), ([0, 1, 0, 1, 2, 3, 4, 5, 6, 7, 8, 9, 10, 11, 12], [0, 1]), ([13, 12, 0, 1, 2, 3, 4, 5, 6, 7, 8, 9, 10, 11, 12], [12, 13])])
def impl_truths.B18 : List Nat := [0, 0, 0, 0, 8, 28, 60, 0, 0, 256, 896, 1920, 4092, 8191, 16383]
theorem impl_truths.tab18 : rtab .any (opsOf Try.f54 18) = impl_truths.T18 := by kernel_rfl
theorem impl_truths.bits18 : waitsOk impl_truths.T18.2 impl_truths.B18 = true := by kernel_rfl
def impl_truths.T20 : Bool × List (List Nat × List Nat) := (true, [([], []), ([], []), ([], []), ([], []), ([3], [3]), ([2, 4], [2, 4]), ([5], [5]), ([], []), ([], []), ([8], [8]), ([7, 9], [7, 9]), ([10], [10]), ([6, 11], [6, 11]), ([0, 1, 0, 1, 2, 3, 4, 5, 6, 7, 8, 9, 10, 11, 12], [0, 1]), ([13, 12, 0, 1, 2, 3, 4, 5, 6, 7, 8, 9, 10, 11, 12], [12, 13])])
def impl_truths.B20 : List Nat := [0, 0, 0, 0, 8, 28, 60, 0, 0, 256, 896, 1920, 4092, 8191, 16383]
theorem impl_truths.tab20 : rtab .any (opsOf Try.f54 20) = impl_truths.T20 := by kernel_rfl
theorem impl_truths.bits20 : waitsOk impl_truths.T20.2 impl_truths.B20 = true := by kernel_rfl
set_option maxHeartbeats 8000000 in
set_option maxRecDepth 100000 in
theorem impl_truths.calls (k : Nat) (A0 : Option Addr) (c0 : Nat) (l0 : List (S37)) (a1 : Int) (a2 : Int) (r : List Int) (w : World) (hr0 : Kd.C k37 w A0 l0.length l0) (hc0 : l0.length ≤ c0) (h : impl_truths.f k l0 a1 a2 = some r) :
  Calls Try.prog 54 #[.slice A0 l0.length c0, .int .i64 a1, .int .i64 a2] w fun e w' => ∃ v0_ : Value, e = .returned (v0_) ∧ Kd.R (Kd.int .i64) 3 w' w.heap.size (fun _ => True) v0_ r ∧ Below w.heap.size w w' := by
 have hu37 := Try.underlying37
 have HR0 := Aside0.mk hr0
 have HC0 := Aside0.mk hc0
 clear hr0 hc0
 have HB := Aside0.mk (Below.refl w.heap.size w)
 have H : ((impl_guessed.f k l0 a1).bind fun bt245 => ((impl_valueBits.f k a2 (wrap64 (a1 + (bt245.1.length : Int)))).bind fun t249 => (if 0 ≤ (l0.length : Int) then (if ((l0.length : Int) : Int).toNat ≤ 35184372088832 then (impl_truths.l0 k t249 (List.replicate ((l0.length : Int) : Int).toNat 0) a1 l0 (l0.length : Int) 0) else (none)) else (none)))) = some r := h
 clear h
 replace H := Option.bind_eq_some_iff.mp H
 obtain ⟨⟨t245, t246⟩, A40, H⟩ := H
 replace H : ((impl_valueBits.f k a2 (wrap64 (a1 + (t245.length : Int)))).bind fun t249 => (if 0 ≤ (l0.length : Int) then (if ((l0.length : Int) : Int).toNat ≤ 35184372088832 then (impl_truths.l0 k t249 (List.replicate ((l0.length : Int) : Int).toNat 0) a1 l0 (l0.length : Int) 0) else (none)) else (none))) = some r := H
 have A4 := Aside0.mk A40
 clear A40
 replace H := Option.bind_eq_some_iff.mp H
 obtain ⟨t249, A50, H⟩ := H
 replace H : (if 0 ≤ (l0.length : Int) then (if ((l0.length : Int) : Int).toNat ≤ 35184372088832 then (impl_truths.l0 k t249 (List.replicate ((l0.length : Int) : Int).toNat 0) a1 l0 (l0.length : Int) 0) else (none)) else (none)) = some r := H
 have A5 := Aside0.mk A50
 clear A50
 by_cases c6 : 0 ≤ (l0.length : Int)
 ·rw [if_pos c6] at H
  have c6b0 := eq_true c6
  have c6b1 : decide (0 ≤ (l0.length : Int)) = true := decide_eq_true c6
  clear c6
  by_cases c7 : ((l0.length : Int) : Int).toNat ≤ 35184372088832
  ·rw [if_pos c7] at H
   have c7b0 := eq_true c7
   have c7b1 : decide (((l0.length : Int) : Int).toNat ≤ 35184372088832) = true := decide_eq_true c7
   clear c7
   obtain ⟨y252, hy252⟩ : ∃ y_ : List Int, y_ = (List.replicate ((l0.length : Int) : Int).toNat 0) := ⟨_, rfl⟩
   replace H : (impl_truths.l0 k t249 y252 a1 l0 (l0.length : Int) 0) = some r := by first | (rw [hy252]; with_reducible exact H) | (have H2_ := (Option.bind_some _ _).symm.trans H; rw [hy252]; with_reducible exact H2_) | (have H2_ := (Option.bind_some _ _).symm.trans H; with_reducible exact H2_) | with_reducible exact H | (rw [hy252]; exact H) | exact H
   have Ny252 := Aside0.mk hy252
   clear hy252
   have H' := Aside0.mk H
   clear H
   go_enter Try.func54, Try.ntmps54
   go_wp2_with (first | ((with_reducible refine gate_callee (f := 57) rfl ?_); refine goesL_ (some 17) rfl rfl Try.func57 (by kernel_rfl) rfl #[.slice A0 l0.length c0, .int .i64 a1] rfl lmB ?_; (with_reducible refine (impl_guessed.calls k _ _ l0 a1 t245 t246 _ ?side1 ?side2 A4.out).mono ?_); (case side1 => repeat (first | exact HR0.out | (with_reducible refine Kd.C_alloc ?_ _) | (with_reducible refine Kd.C_drewN ?_ _) | (with_reducible refine Kd.C_drew ?_))); (case side2 => exact HC0.out); rintro e w8 ⟨v247, rfl, ho0, hb⟩; refine ⟨_, rfl, ?_⟩; have n0_ := Aside0.mk (Kd.R_lower ho0 (below_size (by repeat (first | (with_reducible first | exact HB.out | apply bwA | apply bwN | apply bwD) | exact HB.out)))); have n1_ := Aside0.mk (below_step (by repeat (first | (with_reducible first | exact HB.out | apply bwA | apply bwN | apply bwD) | exact HB.out)) hb); clear HB; have HO248 := n0_; have HB := n1_; clear n0_ n1_; (try clear hb); (try clear hb2); (try clear hk); (try clear hi); (try clear ho0); obtain ⟨Ao9, co9, eo9⟩ := Kd.R_slice HO248.out; subst eo9) | ((with_reducible refine gate_callee (f := 62) rfl ?_); refine goesL_ (some 25) rfl rfl Try.func62 (by kernel_rfl) rfl #[.int .i64 a2, .int .i64 (wrap64 (a1 + (t245.length : Int)))] rfl lmB ?_; (with_reducible refine (impl_valueBits.calls k a2 (wrap64 (a1 + (t245.length : Int))) t249 _ A5.out).mono ?_); rintro e w10 ⟨v250, rfl, ho0, hb⟩; refine ⟨_, rfl, ?_⟩; have n0_ := Aside0.mk (Kd.R_elder' (rvR HO248.out) (Kd.R_base ho0) hb); have n1_ := Aside0.mk (Kd.R_lower (Kd.R_new' ho0 (Kd.R_lt (rvR HO248.out))) (below_size (by repeat (first | (with_reducible first | exact HB.out | apply bwA | apply bwN | apply bwD) | exact HB.out)))); have n2_ := Aside0.mk (below_step (by repeat (first | (with_reducible first | exact HB.out | apply bwA | apply bwN | apply bwD) | exact HB.out)) hb); clear HO248; clear HB; have HO248 := n0_; have HO251 := n1_; have HB := n2_; clear n0_ n1_ n2_; (try clear hb); (try clear hb2); (try clear hk); (try clear hi); (try clear ho0)) | ((with_reducible refine gate_dst (N := 28) rfl ?_); refine Kd.R_make (Kd.int .i64) _ 3 rfl (N := 28) rfl 33 _ _ rfl (l0.length : Int) rfl rfl Try.underlying33 (.int .i64 0) 8 info3 rfl (by decide) (by omega) 0 (ok := fun _ => True) (okp := fun _ => True) rfl (fun _ hk => hk) trivial (oda) (Nat.le_trans (Nat.mul_le_mul_right _ (oda : (l0.length : Int).toNat ≤ 35184372088832)) (by omega)) (Below.refl _ _) (Nat.le_refl _) ?_; intro v253 w11 ho12 hb hg_ hnew_; clear hg_ hnew_; (first | rw [← Ny252.out] at ho12 | (simp only [Int.reduceToNat] at ho12; rw [← Ny252.out] at ho12)); have n0_ := Aside0.mk (Kd.R_elder' (rvR HO248.out) (Kd.R_base ho12) hb); have n1_ := Aside0.mk (Kd.R_elder' (rvR HO251.out) (Kd.R_base ho12) hb); have n2_ := Aside0.mk (Kd.R_lower (Kd.R_new' (Kd.R_new' ho12 (Kd.R_lt (rvR HO248.out))) (Kd.R_lt (rvR HO251.out))) (below_size (by repeat (first | (with_reducible first | exact HB.out | apply bwA | apply bwN | apply bwD) | exact HB.out)))); have n3_ := Aside0.mk (below_step (by repeat (first | (with_reducible first | exact HB.out | apply bwA | apply bwN | apply bwD) | exact HB.out)) hb); clear HO248; clear HO251; clear HB; have HO248 := n0_; have HO251 := n1_; have HO254 := n2_; have HB := n3_; clear n0_ n1_ n2_ n3_; clear hb ho12))
   go_loopg [11, 32] k (fun kq v11 v32 w' => ∃ (x10_1 : List Int) (x11_1 : Int) (x32_1 : Int), v11 = .int .i64 x11_1 ∧ v32 = .int .i64 x32_1 ∧ Aside0 (impl_truths.l0 kq t249 x10_1 x11_1 l0 (l0.length : Int) x32_1 = some r) ∧ Aside0 (kq ≤ k) ∧ Aside0 (Kd.R (Kd.int .i64) 3 w' w.heap.size (fun k_ => some k_ ≠ (v253 : Value).ownBlock) v250 t249) ∧ Aside0 (Kd.R (Kd.int .i64) 3 w' w.heap.size (fun k_ => some k_ ≠ (v250 : Value).ownBlock) v253 x10_1) ∧ Aside0 (Below w.heap.size w w'))
   case atStart => exact ⟨(y252), (a1), (0), rsd, rsd, H', ⟨Nat.le_refl _⟩, ⟨by (with_reducible repeat (first | apply Kd.R_alloc | apply Kd.R_drewN | apply Kd.R_drew)); exact Kd.R_mono HO251.out (fun _ hk => by first | exact hk.2 | exact trivial | exact hk)⟩, ⟨by (with_reducible repeat (first | apply Kd.R_alloc | apply Kd.R_drewN | apply Kd.R_drew)); exact Kd.R_mono HO254.out (fun _ hk => by first | exact hk.2 | exact trivial | exact hk)⟩, ⟨by repeat (first | (with_reducible first | exact HB.out | apply bwA | apply bwN | apply bwD) | exact HB.out)⟩⟩
   case round =>
    clear H'
    try clear p2
    try clear c5
    try clear c6
    try clear c6b0
    try clear c6b1
    try clear p6
    try clear c7
    try clear c7b0
    try clear c7b1
    obtain ⟨x10_1, x11_1, x32_1, rfl, rfl, HA, HK1, HO_9, HO_10, HB⟩ := hrel
    cases gk with
    | zero => exact absurd HA.out (by simp [impl_truths.l0])
    | succ k1 =>
     have H := HA.out
     clear HA
     simp only [impl_truths.l0] at H
     by_cases c13 : x32_1 < (l0.length : Int)
     ·rw [if_pos c13] at H
      have c13b0 : decide (x32_1 < (l0.length : Int)) = true := decide_eq_true c13
      clear c13
      by_cases c14 : 0 ≤ x32_1
      ·rw [if_pos c14] at H
       have c14b0 : decide (0 ≤ x32_1) = true := decide_eq_true c14
       clear c14
       by_cases c15 : x32_1 < (l0.length : Int)
       ·rw [if_pos c15] at H
        have c15b0 : decide (x32_1 < (l0.length : Int)) = true := decide_eq_true c15
        clear c15
        by_cases c16 : ((rd_T37 l0 x32_1).f0) = 0
        ·rw [if_pos c16] at H
         have c16b0 : (((rd_T37 l0 x32_1).f0) == 0) = true := beq_iff_eq.mpr c16
         have c16b1 : (((rd_T37 l0 x32_1).f0) != 0) = false := bne_eq_false_iff_eq.mpr c16
         clear c16
         by_cases c17 : x32_1 < (x10_1.length : Int)
         ·rw [if_pos c17] at H
          have c17b0 : decide (x32_1 < (x10_1.length : Int)) = true := decide_eq_true c17
          clear c17
          obtain ⟨y257, hy257⟩ : ∃ y_ : List Int, y_ = (x10_1.set (x32_1 : Int).toNat 1) := ⟨_, rfl⟩
          replace H : (impl_truths.l0 k1 t249 y257 x11_1 l0 (l0.length : Int) (wrap64 (x32_1 + 1))) = some r := by first | (rw [hy257]; with_reducible exact H) | (have H2_ := (Option.bind_some _ _).symm.trans H; rw [hy257]; with_reducible exact H2_) | (have H2_ := (Option.bind_some _ _).symm.trans H; with_reducible exact H2_) | with_reducible exact H | (rw [hy257]; exact H) | exact H
          have Ny257 := Aside0.mk hy257
          clear hy257
          have H' := Aside0.mk H
          clear H
          have p255 : 0 ≤ (x32_1 : Int) := oda
          have q255 : x32_1 < (l0.length : Int) := oda
          obtain ⟨ad255, e255, hx255_0, hx255_1, hx255_2, hx255_3⟩ := at_T37 HR0.out x32_1 p255 q255
          cases e255
          try replace hx255_0 := bct HB.out hx255_0
          try replace hx255_1 := bct HB.out hx255_1
          try replace hx255_2 := bct HB.out hx255_2
          try replace hx255_3 := bct HB.out hx255_3
          replace p255 := eq_true p255
          replace q255 := eq_true q255
          go_wp2_with (first | ((with_reducible refine gate_dst (N := 13) rfl ?_); refine box_event ?hg (N := 13) ?hd (cs := #[.int .i64 0, .int .i64 0, .int .i64 0, .int .i64 0]) (t := 37) ?hr ?_; (case hd => rfl); (case hg => rfl); (case hr => first | (go_simp; done) | (go_simp; rfl)); intro gb256 hg w19 hbox hb; have n0_ := Aside0.mk (Kd.R_below (rvR HO_9.out) hb); have n1_ := Aside0.mk (Kd.R_below (rvR HO_10.out) hb); have n2_ := Aside0.mk (below_step (by repeat (first | (with_reducible first | exact HB.out | apply bwA | apply bwN | apply bwD) | exact HB.out)) hb); have n3_ := Aside0.mk (hbox); have n4_ := Aside0.mk ((by rw [hg]; exact (below_size (by repeat (first | (with_reducible first | exact HB.out | apply bwA | apply bwN | apply bwD) | exact HB.out))) : w.heap.size ≤ gb256)); have n5_ := Aside0.mk ((by rw [hg]; exact (below_size (by repeat (first | (with_reducible first | exact HB.out | apply bwA | apply bwN | apply bwD) | exact HB.out))) : w.heap.size ≤ gb256)); clear HO_9; clear HO_10; clear HB; have HO_9 := n0_; have HO_10 := n1_; have HB := n2_; have BK256 := n3_; have GW256 := n4_; have GE256 := n5_; clear n0_ n1_ n2_ n3_ n4_ n5_; clear hb hbox hg; have hcz20_0 : w19.cell? ⟨gb256, 0, none⟩ = some (.int .i64 0) := (blk_cell BK256.out 0).trans rfl; have hcz20_1 : w19.cell? ⟨gb256, 1, none⟩ = some (.int .i64 0) := (blk_cell BK256.out 1).trans rfl; have hcz20_2 : w19.cell? ⟨gb256, 2, none⟩ = some (.int .i64 0) := (blk_cell BK256.out 2).trans rfl; have hcz20_3 : w19.cell? ⟨gb256, 3, none⟩ = some (.int .i64 0) := (blk_cell BK256.out 3).trans rfl; have hfz20_0 := blk_frozen BK256.out 0; have hfz20_1 := blk_frozen BK256.out 1; have hfz20_2 := blk_frozen BK256.out 2; have hfz20_3 := blk_frozen BK256.out 3) | ((with_reducible refine gate_store (t := 37) (p := 13) rfl ?_); refine store_event (t := 37) (p := 13) (v := ?vo_w21) (w1 := ((((w19.setCell ⟨gb256, 0, none⟩ (.int .i64 ((rd_T37 l0 x32_1).f0))).setCell ⟨gb256, 1, none⟩ (.int .i64 ((rd_T37 l0 x32_1).f1))).setCell ⟨gb256, 2, none⟩ (.int .i64 ((rd_T37 l0 x32_1).f2))).setCell ⟨gb256, 3, none⟩ (.int .i64 ((rd_T37 l0 x32_1).f3)))) ?hg ?ho ?hn ?hr ?_; (case ho => rfl); (case hg => rfl); (case hn => rfl); (case hr => first | (go_simp; done) | (go_simp; rfl)); intro w21 hw; have n0_ : Aside0 (Kd.R (Kd.int .i64) 3 w21 w.heap.size (fun k_ => some k_ ≠ (v253 : Value).ownBlock) v250 t249) := ⟨(by rw [hw]; exact (by (with_reducible repeat (first | apply Kd.R_alloc | apply Kd.R_drewN | apply Kd.R_drew)); exact Kd.R_mono (Kd.R_far (p := ⟨gb256, 3, none⟩) (Kd.R_far (p := ⟨gb256, 2, none⟩) (Kd.R_far (p := ⟨gb256, 1, none⟩) (Kd.R_far (p := ⟨gb256, 0, none⟩) (Kd.R_types HO_9.out BK256.out (by decide)) (fun _ hk => hk.2) (.int .i64 ((rd_T37 l0 x32_1).f0))) (fun _ hk => hk.2) (.int .i64 ((rd_T37 l0 x32_1).f1))) (fun _ hk => hk.2) (.int .i64 ((rd_T37 l0 x32_1).f2))) (fun _ hk => hk.2) (.int .i64 ((rd_T37 l0 x32_1).f3))) (fun _ hk => hk.1)))⟩; have n1_ : Aside0 (Kd.R (Kd.int .i64) 3 w21 w.heap.size (fun k_ => some k_ ≠ (v250 : Value).ownBlock) v253 x10_1) := ⟨(by rw [hw]; exact (by (with_reducible repeat (first | apply Kd.R_alloc | apply Kd.R_drewN | apply Kd.R_drew)); exact Kd.R_mono (Kd.R_far (p := ⟨gb256, 3, none⟩) (Kd.R_far (p := ⟨gb256, 2, none⟩) (Kd.R_far (p := ⟨gb256, 1, none⟩) (Kd.R_far (p := ⟨gb256, 0, none⟩) (Kd.R_types HO_10.out BK256.out (by decide)) (fun _ hk => hk.2) (.int .i64 ((rd_T37 l0 x32_1).f0))) (fun _ hk => hk.2) (.int .i64 ((rd_T37 l0 x32_1).f1))) (fun _ hk => hk.2) (.int .i64 ((rd_T37 l0 x32_1).f2))) (fun _ hk => hk.2) (.int .i64 ((rd_T37 l0 x32_1).f3))) (fun _ hk => hk.1)))⟩; have n2_ : Aside0 (w21.heap[gb256]? = some (.cells #[.int .i64 ((rd_T37 l0 x32_1).f0), .int .i64 ((rd_T37 l0 x32_1).f1), .int .i64 ((rd_T37 l0 x32_1).f2), .int .i64 ((rd_T37 l0 x32_1).f3)] 37 (0, 0))) := ⟨(by rw [hw]; exact (by (with_reducible repeat (first | refine blk_drewN ?_ _ | refine blk_drew ?_ | refine blk_alloc ?_ _)); refine blk_put (cs := #[.int .i64 ((rd_T37 l0 x32_1).f0), .int .i64 ((rd_T37 l0 x32_1).f1), .int .i64 ((rd_T37 l0 x32_1).f2), .int .i64 0]) ?_ 3 _ rfl; (with_reducible repeat (first | refine blk_drewN ?_ _ | refine blk_drew ?_ | refine blk_alloc ?_ _)); refine blk_put (cs := #[.int .i64 ((rd_T37 l0 x32_1).f0), .int .i64 ((rd_T37 l0 x32_1).f1), .int .i64 0, .int .i64 0]) ?_ 2 _ rfl; (with_reducible repeat (first | refine blk_drewN ?_ _ | refine blk_drew ?_ | refine blk_alloc ?_ _)); refine blk_put (cs := #[.int .i64 ((rd_T37 l0 x32_1).f0), .int .i64 0, .int .i64 0, .int .i64 0]) ?_ 1 _ rfl; (with_reducible repeat (first | refine blk_drewN ?_ _ | refine blk_drew ?_ | refine blk_alloc ?_ _)); refine blk_put (cs := #[.int .i64 0, .int .i64 0, .int .i64 0, .int .i64 0]) ?_ 0 _ rfl; (with_reducible repeat (first | refine blk_drewN ?_ _ | refine blk_drew ?_ | refine blk_alloc ?_ _)); exact BK256.out))⟩; have n3_ : Aside0 (Below w.heap.size w w21) := ⟨(by rw [hw]; exact (by repeat (first | (with_reducible first | exact HB.out | apply bwA | apply bwN | apply bwD | refine below_set ?_ GE256.out) | exact HB.out)))⟩; clear hw; clear HO_9; clear HO_10; clear BK256; clear HB; have HO_9 := n0_; have HO_10 := n1_; have BK256 := n2_; have HB := n3_; clear n0_ n1_ n2_ n3_; have hcz22_0 : w21.cell? ⟨gb256, 0, none⟩ = some (.int .i64 ((rd_T37 l0 x32_1).f0)) := (blk_cell BK256.out 0).trans rfl; have hcz22_1 : w21.cell? ⟨gb256, 1, none⟩ = some (.int .i64 ((rd_T37 l0 x32_1).f1)) := (blk_cell BK256.out 1).trans rfl; have hcz22_2 : w21.cell? ⟨gb256, 2, none⟩ = some (.int .i64 ((rd_T37 l0 x32_1).f2)) := (blk_cell BK256.out 2).trans rfl; have hcz22_3 : w21.cell? ⟨gb256, 3, none⟩ = some (.int .i64 ((rd_T37 l0 x32_1).f3)) := (blk_cell BK256.out 3).trans rfl; have hfz22_0 := blk_frozen BK256.out 0; have hfz22_1 := blk_frozen BK256.out 1; have hfz22_2 := blk_frozen BK256.out 2; have hfz22_3 := blk_frozen BK256.out 3; have p18 : 0 ≤ (x32_1 : Int) := oda; have q18 : (x32_1 : Int) < ((x10_1.length : Int) : Int) := oda; obtain ⟨go18, co18, eo18, gb18, gl18, cl18, HG18⟩ := Kd.R_form HO_10.out (by omega); (first | cases eo18 | (injection eo18 with ea_ en_ ec_; (first | subst ea_ | (injection ea_ with ea_; subst ea_)); subst ec_; clear en_)); have GB18 := Aside0.mk gb18; have GG18 := Aside0.mk HG18; clear gb18 gl18 HG18; obtain ⟨hx18_0, hf18_0⟩ := Kd.R_celln 0 HO_10.out (x32_1 : Int) p18 q18; replace p18 := eq_true p18; replace q18 := eq_true q18; obtain ⟨hy23_, hz23_⟩ := Kd.R_celln 0 HO_10.out (x32_1 : Int) (oda) (oda); have HP23 := Kd.R_putg HO_10.out (x32_1 : Int) 1) | ((with_reducible refine gate_store (t := 3) (p := 52) rfl ?_); refine store_event (t := 3) (p := 52) (v := ?vo_w24) (w1 := (w21.setCell ⟨go18, (x32_1 : Int).toNat, none⟩ (.int .i64 1))) ?hg ?ho ?hn ?hr ?_; (case ho => rfl); (case hg => rfl); (case hn => rfl); (case hr => first | (go_simp; done) | (go_simp; rfl)); intro w24 hw; have hg : w21.grownBy w24 (some go18) := (by rw [hw]; exact HP23.2); have hp_ : Kd.R (Kd.int .i64) 3 w24 w.heap.size (fun k_ => some k_ ≠ (v250 : Value).ownBlock) (.slice (some ⟨go18, 0, none⟩) x10_1.length co18) y257 := (by rw [hw, Ny257.out]; exact HP23.1); clear HP23; have n0_ := Aside0.mk (Kd.R_after (v := (.slice (some ⟨go18, 0, none⟩) x10_1.length co18)) (v1 := (.slice (some ⟨go18, 0, none⟩) x10_1.length co18)) (ok := (fun _ => True)) (by (with_reducible repeat (first | apply Kd.R_alloc | apply Kd.R_drewN | apply Kd.R_drew)); exact Kd.R_mono HO_9.out (fun _ hk => ⟨trivial, hk⟩)) hg (.inl rfl)); have n1_ := Aside0.mk (hp_); have n2_ := Aside0.mk (blk_grown (g := gb256) (o := .cells #[.int .i64 ((rd_T37 l0 x32_1).f0), .int .i64 ((rd_T37 l0 x32_1).f1), .int .i64 ((rd_T37 l0 x32_1).f2), .int .i64 ((rd_T37 l0 x32_1).f3)] 37 (0, 0)) (bvK BK256.out) hg (Kd.R_ne HO_10.out BK256.out (by decide))); have n3_ := Aside0.mk ((by rw [hw]; exact below_set (HB.out) GB18.out : Below w.heap.size w w24)); clear HO_9; clear HO_10; clear BK256; clear HB; have HO_9 := n0_; have HO_10 := n1_; have BK256 := n2_; have HB := n3_; clear n0_ n1_ n2_ n3_; clear hg hw hp_))
          go_roundg k1
          case measure => have := HK1.out; omega
          case rel => exact ⟨(y257), (x11_1), (wrap64 (x32_1 + 1)), rsd, rsd, H', ⟨by have := HK1.out; omega⟩, ⟨by (with_reducible repeat (first | apply Kd.R_alloc | apply Kd.R_drewN | apply Kd.R_drew)); exact Kd.R_mono HO_9.out (fun _ hk => hk.2)⟩, ⟨rvR HO_10.out⟩, ⟨by repeat (first | (with_reducible first | exact HB.out | apply bwA | apply bwN | apply bwD | refine below_set ?_ GE256.out) | exact HB.out)⟩⟩
         ·rw [if_neg c17] at H
          exact absurd H (by simp)
        ·rw [if_neg c16] at H
         have c16b0 : (((rd_T37 l0 x32_1).f0) == 0) = false := beq_eq_false_iff_ne.mpr c16
         have c16b1 : (((rd_T37 l0 x32_1).f0) != 0) = true := bne_iff_ne.mpr c16
         by_cases c25 : ((rd_T37 l0 x32_1).f0) = 1
         ·rw [if_pos c25] at H
          have c25b0 : (((rd_T37 l0 x32_1).f0) == 1) = true := beq_iff_eq.mpr c25
          have c25b1 : (((rd_T37 l0 x32_1).f0) != 1) = false := bne_eq_false_iff_eq.mpr c25
          clear c25
          by_cases c26 : 0 ≤ ((rd_T37 l0 x32_1).f1)
          ·rw [if_pos c26] at H
           have c26b0 : decide (0 ≤ ((rd_T37 l0 x32_1).f1)) = true := decide_eq_true c26
           clear c26
           by_cases c27 : ((rd_T37 l0 x32_1).f1) < (t249.length : Int)
           ·rw [if_pos c27] at H
            have c27b0 : decide (((rd_T37 l0 x32_1).f1) < (t249.length : Int)) = true := decide_eq_true c27
            clear c27
            by_cases c28 : x32_1 < (x10_1.length : Int)
            ·rw [if_pos c28] at H
             have c28b0 : decide (x32_1 < (x10_1.length : Int)) = true := decide_eq_true c28
             clear c28
             obtain ⟨y259, hy259⟩ : ∃ y_ : List Int, y_ = (x10_1.set (x32_1 : Int).toNat (rd t249 ((rd_T37 l0 x32_1).f1))) := ⟨_, rfl⟩
             replace H : (impl_truths.l0 k1 t249 y259 x11_1 l0 (l0.length : Int) (wrap64 (x32_1 + 1))) = some r := by first | (rw [hy259]; with_reducible exact H) | (have H2_ := (Option.bind_some _ _).symm.trans H; rw [hy259]; with_reducible exact H2_) | (have H2_ := (Option.bind_some _ _).symm.trans H; with_reducible exact H2_) | with_reducible exact H | (rw [hy259]; exact H) | exact H
             have Ny259 := Aside0.mk hy259
             clear hy259
             have H' := Aside0.mk H
             clear H
             have p255 : 0 ≤ (x32_1 : Int) := oda
             have q255 : x32_1 < (l0.length : Int) := oda
             obtain ⟨ad255, e255, hx255_0, hx255_1, hx255_2, hx255_3⟩ := at_T37 HR0.out x32_1 p255 q255
             cases e255
             try replace hx255_0 := bct HB.out hx255_0
             try replace hx255_1 := bct HB.out hx255_1
             try replace hx255_2 := bct HB.out hx255_2
             try replace hx255_3 := bct HB.out hx255_3
             replace p255 := eq_true p255
             replace q255 := eq_true q255
             go_wp2_with (first | ((with_reducible refine gate_dst (N := 13) rfl ?_); refine box_event ?hg (N := 13) ?hd (cs := #[.int .i64 0, .int .i64 0, .int .i64 0, .int .i64 0]) (t := 37) ?hr ?_; (case hd => rfl); (case hg => rfl); (case hr => first | (go_simp; done) | (go_simp; rfl)); intro gb256 hg w30 hbox hb; have n0_ := Aside0.mk (Kd.R_below (rvR HO_9.out) hb); have n1_ := Aside0.mk (Kd.R_below (rvR HO_10.out) hb); have n2_ := Aside0.mk (below_step (by repeat (first | (with_reducible first | exact HB.out | apply bwA | apply bwN | apply bwD) | exact HB.out)) hb); have n3_ := Aside0.mk (hbox); have n4_ := Aside0.mk ((by rw [hg]; exact (below_size (by repeat (first | (with_reducible first | exact HB.out | apply bwA | apply bwN | apply bwD) | exact HB.out))) : w.heap.size ≤ gb256)); have n5_ := Aside0.mk ((by rw [hg]; exact (below_size (by repeat (first | (with_reducible first | exact HB.out | apply bwA | apply bwN | apply bwD) | exact HB.out))) : w.heap.size ≤ gb256)); clear HO_9; clear HO_10; clear HB; have HO_9 := n0_; have HO_10 := n1_; have HB := n2_; have BK256 := n3_; have GW256 := n4_; have GE256 := n5_; clear n0_ n1_ n2_ n3_ n4_ n5_; clear hb hbox hg; have hcz31_0 : w30.cell? ⟨gb256, 0, none⟩ = some (.int .i64 0) := (blk_cell BK256.out 0).trans rfl; have hcz31_1 : w30.cell? ⟨gb256, 1, none⟩ = some (.int .i64 0) := (blk_cell BK256.out 1).trans rfl; have hcz31_2 : w30.cell? ⟨gb256, 2, none⟩ = some (.int .i64 0) := (blk_cell BK256.out 2).trans rfl; have hcz31_3 : w30.cell? ⟨gb256, 3, none⟩ = some (.int .i64 0) := (blk_cell BK256.out 3).trans rfl; have hfz31_0 := blk_frozen BK256.out 0; have hfz31_1 := blk_frozen BK256.out 1; have hfz31_2 := blk_frozen BK256.out 2; have hfz31_3 := blk_frozen BK256.out 3) | ((with_reducible refine gate_store (t := 37) (p := 13) rfl ?_); refine store_event (t := 37) (p := 13) (v := ?vo_w32) (w1 := ((((w30.setCell ⟨gb256, 0, none⟩ (.int .i64 ((rd_T37 l0 x32_1).f0))).setCell ⟨gb256, 1, none⟩ (.int .i64 ((rd_T37 l0 x32_1).f1))).setCell ⟨gb256, 2, none⟩ (.int .i64 ((rd_T37 l0 x32_1).f2))).setCell ⟨gb256, 3, none⟩ (.int .i64 ((rd_T37 l0 x32_1).f3)))) ?hg ?ho ?hn ?hr ?_; (case ho => rfl); (case hg => rfl); (case hn => rfl); (case hr => first | (go_simp; done) | (go_simp; rfl)); intro w32 hw; have n0_ : Aside0 (Kd.R (Kd.int .i64) 3 w32 w.heap.size (fun k_ => some k_ ≠ (v253 : Value).ownBlock) v250 t249) := ⟨(by rw [hw]; exact (by (with_reducible repeat (first | apply Kd.R_alloc | apply Kd.R_drewN | apply Kd.R_drew)); exact Kd.R_mono (Kd.R_far (p := ⟨gb256, 3, none⟩) (Kd.R_far (p := ⟨gb256, 2, none⟩) (Kd.R_far (p := ⟨gb256, 1, none⟩) (Kd.R_far (p := ⟨gb256, 0, none⟩) (Kd.R_types HO_9.out BK256.out (by decide)) (fun _ hk => hk.2) (.int .i64 ((rd_T37 l0 x32_1).f0))) (fun _ hk => hk.2) (.int .i64 ((rd_T37 l0 x32_1).f1))) (fun _ hk => hk.2) (.int .i64 ((rd_T37 l0 x32_1).f2))) (fun _ hk => hk.2) (.int .i64 ((rd_T37 l0 x32_1).f3))) (fun _ hk => hk.1)))⟩; have n1_ : Aside0 (Kd.R (Kd.int .i64) 3 w32 w.heap.size (fun k_ => some k_ ≠ (v250 : Value).ownBlock) v253 x10_1) := ⟨(by rw [hw]; exact (by (with_reducible repeat (first | apply Kd.R_alloc | apply Kd.R_drewN | apply Kd.R_drew)); exact Kd.R_mono (Kd.R_far (p := ⟨gb256, 3, none⟩) (Kd.R_far (p := ⟨gb256, 2, none⟩) (Kd.R_far (p := ⟨gb256, 1, none⟩) (Kd.R_far (p := ⟨gb256, 0, none⟩) (Kd.R_types HO_10.out BK256.out (by decide)) (fun _ hk => hk.2) (.int .i64 ((rd_T37 l0 x32_1).f0))) (fun _ hk => hk.2) (.int .i64 ((rd_T37 l0 x32_1).f1))) (fun _ hk => hk.2) (.int .i64 ((rd_T37 l0 x32_1).f2))) (fun _ hk => hk.2) (.int .i64 ((rd_T37 l0 x32_1).f3))) (fun _ hk => hk.1)))⟩; have n2_ : Aside0 (w32.heap[gb256]? = some (.cells #[.int .i64 ((rd_T37 l0 x32_1).f0), .int .i64 ((rd_T37 l0 x32_1).f1), .int .i64 ((rd_T37 l0 x32_1).f2), .int .i64 ((rd_T37 l0 x32_1).f3)] 37 (0, 0))) := ⟨(by rw [hw]; exact (by (with_reducible repeat (first | refine blk_drewN ?_ _ | refine blk_drew ?_ | refine blk_alloc ?_ _)); refine blk_put (cs := #[.int .i64 ((rd_T37 l0 x32_1).f0), .int .i64 ((rd_T37 l0 x32_1).f1), .int .i64 ((rd_T37 l0 x32_1).f2), .int .i64 0]) ?_ 3 _ rfl; (with_reducible repeat (first | refine blk_drewN ?_ _ | refine blk_drew ?_ | refine blk_alloc ?_ _)); refine blk_put (cs := #[.int .i64 ((rd_T37 l0 x32_1).f0), .int .i64 ((rd_T37 l0 x32_1).f1), .int .i64 0, .int .i64 0]) ?_ 2 _ rfl; (with_reducible repeat (first | refine blk_drewN ?_ _ | refine blk_drew ?_ | refine blk_alloc ?_ _)); refine blk_put (cs := #[.int .i64 ((rd_T37 l0 x32_1).f0), .int .i64 0, .int .i64 0, .int .i64 0]) ?_ 1 _ rfl; (with_reducible repeat (first | refine blk_drewN ?_ _ | refine blk_drew ?_ | refine blk_alloc ?_ _)); refine blk_put (cs := #[.int .i64 0, .int .i64 0, .int .i64 0, .int .i64 0]) ?_ 0 _ rfl; (with_reducible repeat (first | refine blk_drewN ?_ _ | refine blk_drew ?_ | refine blk_alloc ?_ _)); exact BK256.out))⟩; have n3_ : Aside0 (Below w.heap.size w w32) := ⟨(by rw [hw]; exact (by repeat (first | (with_reducible first | exact HB.out | apply bwA | apply bwN | apply bwD | refine below_set ?_ GE256.out) | exact HB.out)))⟩; clear hw; clear HO_9; clear HO_10; clear BK256; clear HB; have HO_9 := n0_; have HO_10 := n1_; have BK256 := n2_; have HB := n3_; clear n0_ n1_ n2_ n3_; have hcz33_0 : w32.cell? ⟨gb256, 0, none⟩ = some (.int .i64 ((rd_T37 l0 x32_1).f0)) := (blk_cell BK256.out 0).trans rfl; have hcz33_1 : w32.cell? ⟨gb256, 1, none⟩ = some (.int .i64 ((rd_T37 l0 x32_1).f1)) := (blk_cell BK256.out 1).trans rfl; have hcz33_2 : w32.cell? ⟨gb256, 2, none⟩ = some (.int .i64 ((rd_T37 l0 x32_1).f2)) := (blk_cell BK256.out 2).trans rfl; have hcz33_3 : w32.cell? ⟨gb256, 3, none⟩ = some (.int .i64 ((rd_T37 l0 x32_1).f3)) := (blk_cell BK256.out 3).trans rfl; have hfz33_0 := blk_frozen BK256.out 0; have hfz33_1 := blk_frozen BK256.out 1; have hfz33_2 := blk_frozen BK256.out 2; have hfz33_3 := blk_frozen BK256.out 3; obtain ⟨Ao34, co34, eo34⟩ := Kd.R_slice HO_9.out; subst eo34; have p258 : 0 ≤ (((rd_T37 l0 x32_1).f1) : Int) := oda; have q258 : ((rd_T37 l0 x32_1).f1) < (t249.length : Int) := oda; obtain ⟨ad258, e258, hx258_0⟩ := Kd.at_int (Kd.R_reads' HO_9.out).2.2 ((rd_T37 l0 x32_1).f1) p258 q258; cases e258; replace p258 := eq_true p258; replace q258 := eq_true q258; have p29 : 0 ≤ (x32_1 : Int) := oda; have q29 : (x32_1 : Int) < ((x10_1.length : Int) : Int) := oda; obtain ⟨go29, co29, eo29, gb29, gl29, cl29, HG29⟩ := Kd.R_form HO_10.out (by omega); (first | cases eo29 | (injection eo29 with ea_ en_ ec_; (first | subst ea_ | (injection ea_ with ea_; subst ea_)); subst ec_; clear en_)); have GB29 := Aside0.mk gb29; have GG29 := Aside0.mk HG29; clear gb29 gl29 HG29; obtain ⟨hx29_0, hf29_0⟩ := Kd.R_celln 0 HO_10.out (x32_1 : Int) p29 q29; replace p29 := eq_true p29; replace q29 := eq_true q29; obtain ⟨hy35_, hz35_⟩ := Kd.R_celln 0 HO_10.out (x32_1 : Int) (oda) (oda); have HP35 := Kd.R_putg HO_10.out (x32_1 : Int) (rd t249 ((rd_T37 l0 x32_1).f1))) | ((with_reducible refine gate_store (t := 3) (p := 62) rfl ?_); refine store_event (t := 3) (p := 62) (v := ?vo_w36) (w1 := (w32.setCell ⟨go29, (x32_1 : Int).toNat, none⟩ (.int .i64 (rd t249 ((rd_T37 l0 x32_1).f1))))) ?hg ?ho ?hn ?hr ?_; (case ho => rfl); (case hg => rfl); (case hn => rfl); (case hr => first | (go_simp; done) | (go_simp; rfl)); intro w36 hw; have hg : w32.grownBy w36 (some go29) := (by rw [hw]; exact HP35.2); have hp_ : Kd.R (Kd.int .i64) 3 w36 w.heap.size (fun k_ => some k_ ≠ (.slice (some ad258) t249.length co34 : Value).ownBlock) (.slice (some ⟨go29, 0, none⟩) x10_1.length co29) y259 := (by rw [hw, Ny259.out]; exact HP35.1); clear HP35; have n0_ := Aside0.mk (Kd.R_after (v := (.slice (some ⟨go29, 0, none⟩) x10_1.length co29)) (v1 := (.slice (some ⟨go29, 0, none⟩) x10_1.length co29)) (ok := (fun _ => True)) (by (with_reducible repeat (first | apply Kd.R_alloc | apply Kd.R_drewN | apply Kd.R_drew)); exact Kd.R_mono HO_9.out (fun _ hk => ⟨trivial, hk⟩)) hg (.inl rfl)); have n1_ := Aside0.mk (hp_); have n2_ := Aside0.mk (blk_grown (g := gb256) (o := .cells #[.int .i64 ((rd_T37 l0 x32_1).f0), .int .i64 ((rd_T37 l0 x32_1).f1), .int .i64 ((rd_T37 l0 x32_1).f2), .int .i64 ((rd_T37 l0 x32_1).f3)] 37 (0, 0)) (bvK BK256.out) hg (Kd.R_ne HO_10.out BK256.out (by decide))); have n3_ := Aside0.mk ((by rw [hw]; exact below_set (HB.out) GB29.out : Below w.heap.size w w36)); clear HO_9; clear HO_10; clear BK256; clear HB; have HO_9 := n0_; have HO_10 := n1_; have BK256 := n2_; have HB := n3_; clear n0_ n1_ n2_ n3_; clear hg hw hp_))
             go_roundg k1
             case measure => have := HK1.out; omega
             case rel => exact ⟨(y259), (x11_1), (wrap64 (x32_1 + 1)), rsd, rsd, H', ⟨by have := HK1.out; omega⟩, ⟨by (with_reducible repeat (first | apply Kd.R_alloc | apply Kd.R_drewN | apply Kd.R_drew)); exact Kd.R_mono HO_9.out (fun _ hk => hk.2)⟩, ⟨rvR HO_10.out⟩, ⟨by repeat (first | (with_reducible first | exact HB.out | apply bwA | apply bwN | apply bwD | refine below_set ?_ GE256.out) | exact HB.out)⟩⟩
            ·rw [if_neg c28] at H
             exact absurd H (by simp)
           ·rw [if_neg c27] at H
            exact absurd H (by simp)
          ·rw [if_neg c26] at H
           exact absurd H (by simp)
         ·rw [if_neg c25] at H
          have c25b0 : (((rd_T37 l0 x32_1).f0) == 1) = false := beq_eq_false_iff_ne.mpr c25
          have c25b1 : (((rd_T37 l0 x32_1).f0) != 1) = true := bne_iff_ne.mpr c25
          by_cases c37 : ((rd_T37 l0 x32_1).f0) = 2
          ·rw [if_pos c37] at H
           have c37b0 : (((rd_T37 l0 x32_1).f0) == 2) = true := beq_iff_eq.mpr c37
           have c37b1 : (((rd_T37 l0 x32_1).f0) != 2) = false := bne_eq_false_iff_eq.mpr c37
           clear c37
           by_cases c38 : 0 ≤ ((rd_T37 l0 x32_1).f2)
           ·rw [if_pos c38] at H
            have c38b0 : decide (0 ≤ ((rd_T37 l0 x32_1).f2)) = true := decide_eq_true c38
            clear c38
            by_cases c39 : ((rd_T37 l0 x32_1).f2) < (x10_1.length : Int)
            ·rw [if_pos c39] at H
             have c39b0 : decide (((rd_T37 l0 x32_1).f2) < (x10_1.length : Int)) = true := decide_eq_true c39
             clear c39
             by_cases c40 : x32_1 < (x10_1.length : Int)
             ·rw [if_pos c40] at H
              have c40b0 : decide (x32_1 < (x10_1.length : Int)) = true := decide_eq_true c40
              clear c40
              obtain ⟨y261, hy261⟩ : ∃ y_ : List Int, y_ = (x10_1.set (x32_1 : Int).toNat (wrap64 (1 - (rd x10_1 ((rd_T37 l0 x32_1).f2))))) := ⟨_, rfl⟩
              replace H : (impl_truths.l0 k1 t249 y261 x11_1 l0 (l0.length : Int) (wrap64 (x32_1 + 1))) = some r := by first | (rw [hy261]; with_reducible exact H) | (have H2_ := (Option.bind_some _ _).symm.trans H; rw [hy261]; with_reducible exact H2_) | (have H2_ := (Option.bind_some _ _).symm.trans H; with_reducible exact H2_) | with_reducible exact H | (rw [hy261]; exact H) | exact H
              have Ny261 := Aside0.mk hy261
              clear hy261
              have H' := Aside0.mk H
              clear H
              have p255 : 0 ≤ (x32_1 : Int) := oda
              have q255 : x32_1 < (l0.length : Int) := oda
              obtain ⟨ad255, e255, hx255_0, hx255_1, hx255_2, hx255_3⟩ := at_T37 HR0.out x32_1 p255 q255
              cases e255
              try replace hx255_0 := bct HB.out hx255_0
              try replace hx255_1 := bct HB.out hx255_1
              try replace hx255_2 := bct HB.out hx255_2
              try replace hx255_3 := bct HB.out hx255_3
              replace p255 := eq_true p255
              replace q255 := eq_true q255
              go_wp2_with (first | ((with_reducible refine gate_dst (N := 13) rfl ?_); refine box_event ?hg (N := 13) ?hd (cs := #[.int .i64 0, .int .i64 0, .int .i64 0, .int .i64 0]) (t := 37) ?hr ?_; (case hd => rfl); (case hg => rfl); (case hr => first | (go_simp; done) | (go_simp; rfl)); intro gb256 hg w42 hbox hb; have n0_ := Aside0.mk (Kd.R_below (rvR HO_9.out) hb); have n1_ := Aside0.mk (Kd.R_below (rvR HO_10.out) hb); have n2_ := Aside0.mk (below_step (by repeat (first | (with_reducible first | exact HB.out | apply bwA | apply bwN | apply bwD) | exact HB.out)) hb); have n3_ := Aside0.mk (hbox); have n4_ := Aside0.mk ((by rw [hg]; exact (below_size (by repeat (first | (with_reducible first | exact HB.out | apply bwA | apply bwN | apply bwD) | exact HB.out))) : w.heap.size ≤ gb256)); have n5_ := Aside0.mk ((by rw [hg]; exact (below_size (by repeat (first | (with_reducible first | exact HB.out | apply bwA | apply bwN | apply bwD) | exact HB.out))) : w.heap.size ≤ gb256)); clear HO_9; clear HO_10; clear HB; have HO_9 := n0_; have HO_10 := n1_; have HB := n2_; have BK256 := n3_; have GW256 := n4_; have GE256 := n5_; clear n0_ n1_ n2_ n3_ n4_ n5_; clear hb hbox hg; have hcz43_0 : w42.cell? ⟨gb256, 0, none⟩ = some (.int .i64 0) := (blk_cell BK256.out 0).trans rfl; have hcz43_1 : w42.cell? ⟨gb256, 1, none⟩ = some (.int .i64 0) := (blk_cell BK256.out 1).trans rfl; have hcz43_2 : w42.cell? ⟨gb256, 2, none⟩ = some (.int .i64 0) := (blk_cell BK256.out 2).trans rfl; have hcz43_3 : w42.cell? ⟨gb256, 3, none⟩ = some (.int .i64 0) := (blk_cell BK256.out 3).trans rfl; have hfz43_0 := blk_frozen BK256.out 0; have hfz43_1 := blk_frozen BK256.out 1; have hfz43_2 := blk_frozen BK256.out 2; have hfz43_3 := blk_frozen BK256.out 3) | ((with_reducible refine gate_store (t := 37) (p := 13) rfl ?_); refine store_event (t := 37) (p := 13) (v := ?vo_w44) (w1 := ((((w42.setCell ⟨gb256, 0, none⟩ (.int .i64 ((rd_T37 l0 x32_1).f0))).setCell ⟨gb256, 1, none⟩ (.int .i64 ((rd_T37 l0 x32_1).f1))).setCell ⟨gb256, 2, none⟩ (.int .i64 ((rd_T37 l0 x32_1).f2))).setCell ⟨gb256, 3, none⟩ (.int .i64 ((rd_T37 l0 x32_1).f3)))) ?hg ?ho ?hn ?hr ?_; (case ho => rfl); (case hg => rfl); (case hn => rfl); (case hr => first | (go_simp; done) | (go_simp; rfl)); intro w44 hw; have n0_ : Aside0 (Kd.R (Kd.int .i64) 3 w44 w.heap.size (fun k_ => some k_ ≠ (v253 : Value).ownBlock) v250 t249) := ⟨(by rw [hw]; exact (by (with_reducible repeat (first | apply Kd.R_alloc | apply Kd.R_drewN | apply Kd.R_drew)); exact Kd.R_mono (Kd.R_far (p := ⟨gb256, 3, none⟩) (Kd.R_far (p := ⟨gb256, 2, none⟩) (Kd.R_far (p := ⟨gb256, 1, none⟩) (Kd.R_far (p := ⟨gb256, 0, none⟩) (Kd.R_types HO_9.out BK256.out (by decide)) (fun _ hk => hk.2) (.int .i64 ((rd_T37 l0 x32_1).f0))) (fun _ hk => hk.2) (.int .i64 ((rd_T37 l0 x32_1).f1))) (fun _ hk => hk.2) (.int .i64 ((rd_T37 l0 x32_1).f2))) (fun _ hk => hk.2) (.int .i64 ((rd_T37 l0 x32_1).f3))) (fun _ hk => hk.1)))⟩; have n1_ : Aside0 (Kd.R (Kd.int .i64) 3 w44 w.heap.size (fun k_ => some k_ ≠ (v250 : Value).ownBlock) v253 x10_1) := ⟨(by rw [hw]; exact (by (with_reducible repeat (first | apply Kd.R_alloc | apply Kd.R_drewN | apply Kd.R_drew)); exact Kd.R_mono (Kd.R_far (p := ⟨gb256, 3, none⟩) (Kd.R_far (p := ⟨gb256, 2, none⟩) (Kd.R_far (p := ⟨gb256, 1, none⟩) (Kd.R_far (p := ⟨gb256, 0, none⟩) (Kd.R_types HO_10.out BK256.out (by decide)) (fun _ hk => hk.2) (.int .i64 ((rd_T37 l0 x32_1).f0))) (fun _ hk => hk.2) (.int .i64 ((rd_T37 l0 x32_1).f1))) (fun _ hk => hk.2) (.int .i64 ((rd_T37 l0 x32_1).f2))) (fun _ hk => hk.2) (.int .i64 ((rd_T37 l0 x32_1).f3))) (fun _ hk => hk.1)))⟩; have n2_ : Aside0 (w44.heap[gb256]? = some (.cells #[.int .i64 ((rd_T37 l0 x32_1).f0), .int .i64 ((rd_T37 l0 x32_1).f1), .int .i64 ((rd_T37 l0 x32_1).f2), .int .i64 ((rd_T37 l0 x32_1).f3)] 37 (0, 0))) := ⟨(by rw [hw]; exact (by (with_reducible repeat (first | refine blk_drewN ?_ _ | refine blk_drew ?_ | refine blk_alloc ?_ _)); refine blk_put (cs := #[.int .i64 ((rd_T37 l0 x32_1).f0), .int .i64 ((rd_T37 l0 x32_1).f1), .int .i64 ((rd_T37 l0 x32_1).f2), .int .i64 0]) ?_ 3 _ rfl; (with_reducible repeat (first | refine blk_drewN ?_ _ | refine blk_drew ?_ | refine blk_alloc ?_ _)); refine blk_put (cs := #[.int .i64 ((rd_T37 l0 x32_1).f0), .int .i64 ((rd_T37 l0 x32_1).f1), .int .i64 0, .int .i64 0]) ?_ 2 _ rfl; (with_reducible repeat (first | refine blk_drewN ?_ _ | refine blk_drew ?_ | refine blk_alloc ?_ _)); refine blk_put (cs := #[.int .i64 ((rd_T37 l0 x32_1).f0), .int .i64 0, .int .i64 0, .int .i64 0]) ?_ 1 _ rfl; (with_reducible repeat (first | refine blk_drewN ?_ _ | refine blk_drew ?_ | refine blk_alloc ?_ _)); refine blk_put (cs := #[.int .i64 0, .int .i64 0, .int .i64 0, .int .i64 0]) ?_ 0 _ rfl; (with_reducible repeat (first | refine blk_drewN ?_ _ | refine blk_drew ?_ | refine blk_alloc ?_ _)); exact BK256.out))⟩; have n3_ : Aside0 (Below w.heap.size w w44) := ⟨(by rw [hw]; exact (by repeat (first | (with_reducible first | exact HB.out | apply bwA | apply bwN | apply bwD | refine below_set ?_ GE256.out) | exact HB.out)))⟩; clear hw; clear HO_9; clear HO_10; clear BK256; clear HB; have HO_9 := n0_; have HO_10 := n1_; have BK256 := n2_; have HB := n3_; clear n0_ n1_ n2_ n3_; have hcz45_0 : w44.cell? ⟨gb256, 0, none⟩ = some (.int .i64 ((rd_T37 l0 x32_1).f0)) := (blk_cell BK256.out 0).trans rfl; have hcz45_1 : w44.cell? ⟨gb256, 1, none⟩ = some (.int .i64 ((rd_T37 l0 x32_1).f1)) := (blk_cell BK256.out 1).trans rfl; have hcz45_2 : w44.cell? ⟨gb256, 2, none⟩ = some (.int .i64 ((rd_T37 l0 x32_1).f2)) := (blk_cell BK256.out 2).trans rfl; have hcz45_3 : w44.cell? ⟨gb256, 3, none⟩ = some (.int .i64 ((rd_T37 l0 x32_1).f3)) := (blk_cell BK256.out 3).trans rfl; have hfz45_0 := blk_frozen BK256.out 0; have hfz45_1 := blk_frozen BK256.out 1; have hfz45_2 := blk_frozen BK256.out 2; have hfz45_3 := blk_frozen BK256.out 3; obtain ⟨Ao46, co46, eo46⟩ := Kd.R_slice HO_10.out; subst eo46; have p260 : 0 ≤ (((rd_T37 l0 x32_1).f2) : Int) := oda; have q260 : ((rd_T37 l0 x32_1).f2) < (x10_1.length : Int) := oda; obtain ⟨ad260, e260, hx260_0⟩ := Kd.at_int (Kd.R_reads' HO_10.out).2.2 ((rd_T37 l0 x32_1).f2) p260 q260; cases e260; replace p260 := eq_true p260; replace q260 := eq_true q260; have p41 : 0 ≤ (x32_1 : Int) := oda; have q41 : (x32_1 : Int) < ((x10_1.length : Int) : Int) := oda; obtain ⟨go41, co41, eo41, gb41, gl41, cl41, HG41⟩ := Kd.R_form HO_10.out (by omega); (first | cases eo41 | (injection eo41 with ea_ en_ ec_; (first | subst ea_ | (injection ea_ with ea_; subst ea_)); subst ec_; clear en_)); have GB41 := Aside0.mk gb41; have GG41 := Aside0.mk HG41; clear gb41 gl41 HG41; (first | simp only [add_plain] at hx260_0 | skip); obtain ⟨hx41_0, hf41_0⟩ := Kd.R_celln 0 HO_10.out (x32_1 : Int) p41 q41; replace p41 := eq_true p41; replace q41 := eq_true q41; obtain ⟨hy47_, hz47_⟩ := Kd.R_celln 0 HO_10.out (x32_1 : Int) (oda) (oda); have HP47 := Kd.R_putg HO_10.out (x32_1 : Int) (wrap64 (1 - (rd x10_1 ((rd_T37 l0 x32_1).f2))))) | ((with_reducible refine gate_store (t := 3) (p := 73) rfl ?_); refine store_event (t := 3) (p := 73) (v := ?vo_w48) (w1 := (w44.setCell ⟨go41, (x32_1 : Int).toNat, none⟩ (.int .i64 (wrap64 (1 - (rd x10_1 ((rd_T37 l0 x32_1).f2))))))) ?hg ?ho ?hn ?hr ?_; (case ho => rfl); (case hg => rfl); (case hn => rfl); (case hr => first | (go_simp; done) | (go_simp; rfl)); intro w48 hw; have hg : w44.grownBy w48 (some go41) := (by rw [hw]; exact HP47.2); have hp_ : Kd.R (Kd.int .i64) 3 w48 w.heap.size (fun k_ => some k_ ≠ (v250 : Value).ownBlock) (.slice (some ⟨go41, 0, none⟩) x10_1.length co46) y261 := (by rw [hw, Ny261.out]; exact HP47.1); clear HP47; have n0_ := Aside0.mk (Kd.R_after (v := (.slice (some ⟨go41, 0, none⟩) x10_1.length co46)) (v1 := (.slice (some ⟨go41, 0, none⟩) x10_1.length co46)) (ok := (fun _ => True)) (by (with_reducible repeat (first | apply Kd.R_alloc | apply Kd.R_drewN | apply Kd.R_drew)); exact Kd.R_mono HO_9.out (fun _ hk => ⟨trivial, hk⟩)) hg (.inl rfl)); have n1_ := Aside0.mk (hp_); have n2_ := Aside0.mk (blk_grown (g := gb256) (o := .cells #[.int .i64 ((rd_T37 l0 x32_1).f0), .int .i64 ((rd_T37 l0 x32_1).f1), .int .i64 ((rd_T37 l0 x32_1).f2), .int .i64 ((rd_T37 l0 x32_1).f3)] 37 (0, 0)) (bvK BK256.out) hg (Kd.R_ne HO_10.out BK256.out (by decide))); have n3_ := Aside0.mk ((by rw [hw]; exact below_set (HB.out) GB41.out : Below w.heap.size w w48)); clear HO_9; clear HO_10; clear BK256; clear HB; have HO_9 := n0_; have HO_10 := n1_; have BK256 := n2_; have HB := n3_; clear n0_ n1_ n2_ n3_; clear hg hw hp_))
              go_roundg k1
              case measure => have := HK1.out; omega
              case rel => exact ⟨(y261), (x11_1), (wrap64 (x32_1 + 1)), rsd, rsd, H', ⟨by have := HK1.out; omega⟩, ⟨by (with_reducible repeat (first | apply Kd.R_alloc | apply Kd.R_drewN | apply Kd.R_drew)); exact Kd.R_mono HO_9.out (fun _ hk => hk.2)⟩, ⟨rvR HO_10.out⟩, ⟨by repeat (first | (with_reducible first | exact HB.out | apply bwA | apply bwN | apply bwD | refine below_set ?_ GE256.out) | exact HB.out)⟩⟩
             ·rw [if_neg c40] at H
              exact absurd H (by simp)
            ·rw [if_neg c39] at H
             exact absurd H (by simp)
           ·rw [if_neg c38] at H
            exact absurd H (by simp)
          ·rw [if_neg c37] at H
           have c37b0 : (((rd_T37 l0 x32_1).f0) == 2) = false := beq_eq_false_iff_ne.mpr c37
           have c37b1 : (((rd_T37 l0 x32_1).f0) != 2) = true := bne_iff_ne.mpr c37
           by_cases c49 : ((rd_T37 l0 x32_1).f0) = 3
           ·rw [if_pos c49] at H
            have c49b0 : (((rd_T37 l0 x32_1).f0) == 3) = true := beq_iff_eq.mpr c49
            have c49b1 : (((rd_T37 l0 x32_1).f0) != 3) = false := bne_eq_false_iff_eq.mpr c49
            clear c49
            by_cases c50 : 0 ≤ ((rd_T37 l0 x32_1).f2)
            ·rw [if_pos c50] at H
             have c50b0 : decide (0 ≤ ((rd_T37 l0 x32_1).f2)) = true := decide_eq_true c50
             clear c50
             by_cases c51 : ((rd_T37 l0 x32_1).f2) < (x10_1.length : Int)
             ·rw [if_pos c51] at H
              have c51b0 : decide (((rd_T37 l0 x32_1).f2) < (x10_1.length : Int)) = true := decide_eq_true c51
              clear c51
              by_cases c52 : 0 ≤ ((rd_T37 l0 x32_1).f3)
              ·rw [if_pos c52] at H
               have c52b0 : decide (0 ≤ ((rd_T37 l0 x32_1).f3)) = true := decide_eq_true c52
               clear c52
               by_cases c53 : ((rd_T37 l0 x32_1).f3) < (x10_1.length : Int)
               ·rw [if_pos c53] at H
                have c53b0 : decide (((rd_T37 l0 x32_1).f3) < (x10_1.length : Int)) = true := decide_eq_true c53
                clear c53
                by_cases c54 : x32_1 < (x10_1.length : Int)
                ·rw [if_pos c54] at H
                 have c54b0 : decide (x32_1 < (x10_1.length : Int)) = true := decide_eq_true c54
                 clear c54
                 obtain ⟨y264, hy264⟩ : ∃ y_ : List Int, y_ = (x10_1.set (x32_1 : Int).toNat (Go.bits .and .i64 (rd x10_1 ((rd_T37 l0 x32_1).f2)) (rd x10_1 ((rd_T37 l0 x32_1).f3)))) := ⟨_, rfl⟩
                 replace H : (impl_truths.l0 k1 t249 y264 x11_1 l0 (l0.length : Int) (wrap64 (x32_1 + 1))) = some r := by first | (rw [hy264]; with_reducible exact H) | (have H2_ := (Option.bind_some _ _).symm.trans H; rw [hy264]; with_reducible exact H2_) | (have H2_ := (Option.bind_some _ _).symm.trans H; with_reducible exact H2_) | with_reducible exact H | (rw [hy264]; exact H) | exact H
                 have Ny264 := Aside0.mk hy264
                 clear hy264
                 have H' := Aside0.mk H
                 clear H
                 have p255 : 0 ≤ (x32_1 : Int) := oda
                 have q255 : x32_1 < (l0.length : Int) := oda
                 obtain ⟨ad255, e255, hx255_0, hx255_1, hx255_2, hx255_3⟩ := at_T37 HR0.out x32_1 p255 q255
                 cases e255
                 try replace hx255_0 := bct HB.out hx255_0
                 try replace hx255_1 := bct HB.out hx255_1
                 try replace hx255_2 := bct HB.out hx255_2
                 try replace hx255_3 := bct HB.out hx255_3
                 replace p255 := eq_true p255
                 replace q255 := eq_true q255
                 try go_wp2_with (first | ((with_reducible refine gate_dst (N := 13) rfl ?_); refine box_event ?hg (N := 13) ?hd (cs := #[.int .i64 0, .int .i64 0, .int .i64 0, .int .i64 0]) (t := 37) ?hr ?_; (case hd => rfl); (case hg => rfl); (case hr => first | (go_simp; done) | (go_simp; rfl)); intro gb256 hg w56 hbox hb; have n0_ := Aside0.mk (Kd.R_below (rvR HO_9.out) hb); have n1_ := Aside0.mk (Kd.R_below (rvR HO_10.out) hb); have n2_ := Aside0.mk (below_step (by repeat (first | (with_reducible first | exact HB.out | apply bwA | apply bwN | apply bwD) | exact HB.out)) hb); have n3_ := Aside0.mk (hbox); have n4_ := Aside0.mk ((by rw [hg]; exact (below_size (by repeat (first | (with_reducible first | exact HB.out | apply bwA | apply bwN | apply bwD) | exact HB.out))) : w.heap.size ≤ gb256)); have n5_ := Aside0.mk ((by rw [hg]; exact (below_size (by repeat (first | (with_reducible first | exact HB.out | apply bwA | apply bwN | apply bwD) | exact HB.out))) : w.heap.size ≤ gb256)); clear HO_9; clear HO_10; clear HB; have HO_9 := n0_; have HO_10 := n1_; have HB := n2_; have BK256 := n3_; have GW256 := n4_; have GE256 := n5_; clear n0_ n1_ n2_ n3_ n4_ n5_; clear hb hbox hg; have hcz57_0 : w56.cell? ⟨gb256, 0, none⟩ = some (.int .i64 0) := (blk_cell BK256.out 0).trans rfl; have hcz57_1 : w56.cell? ⟨gb256, 1, none⟩ = some (.int .i64 0) := (blk_cell BK256.out 1).trans rfl; have hcz57_2 : w56.cell? ⟨gb256, 2, none⟩ = some (.int .i64 0) := (blk_cell BK256.out 2).trans rfl; have hcz57_3 : w56.cell? ⟨gb256, 3, none⟩ = some (.int .i64 0) := (blk_cell BK256.out 3).trans rfl; have hfz57_0 := blk_frozen BK256.out 0; have hfz57_1 := blk_frozen BK256.out 1; have hfz57_2 := blk_frozen BK256.out 2; have hfz57_3 := blk_frozen BK256.out 3))
                 have n0_ : Aside0 (Kd.R (Kd.int .i64) 3 ((((w56.setCell ⟨gb256, 0, none⟩ (.int .i64 ((rd_T37 l0 x32_1).f0))).setCell ⟨gb256, 1, none⟩ (.int .i64 ((rd_T37 l0 x32_1).f1))).setCell ⟨gb256, 2, none⟩ (.int .i64 ((rd_T37 l0 x32_1).f2))).setCell ⟨gb256, 3, none⟩ (.int .i64 ((rd_T37 l0 x32_1).f3))) w.heap.size (fun k_ => some k_ ≠ (v253 : Value).ownBlock) v250 t249) := ⟨by (with_reducible repeat (first | apply Kd.R_alloc | apply Kd.R_drewN | apply Kd.R_drew)); exact Kd.R_mono (Kd.R_far (p := ⟨gb256, 3, none⟩) (Kd.R_far (p := ⟨gb256, 2, none⟩) (Kd.R_far (p := ⟨gb256, 1, none⟩) (Kd.R_far (p := ⟨gb256, 0, none⟩) (Kd.R_types HO_9.out BK256.out (by decide)) (fun _ hk => hk.2) (.int .i64 ((rd_T37 l0 x32_1).f0))) (fun _ hk => hk.2) (.int .i64 ((rd_T37 l0 x32_1).f1))) (fun _ hk => hk.2) (.int .i64 ((rd_T37 l0 x32_1).f2))) (fun _ hk => hk.2) (.int .i64 ((rd_T37 l0 x32_1).f3))) (fun _ hk => hk.1)⟩
                 have n1_ : Aside0 (Kd.R (Kd.int .i64) 3 ((((w56.setCell ⟨gb256, 0, none⟩ (.int .i64 ((rd_T37 l0 x32_1).f0))).setCell ⟨gb256, 1, none⟩ (.int .i64 ((rd_T37 l0 x32_1).f1))).setCell ⟨gb256, 2, none⟩ (.int .i64 ((rd_T37 l0 x32_1).f2))).setCell ⟨gb256, 3, none⟩ (.int .i64 ((rd_T37 l0 x32_1).f3))) w.heap.size (fun k_ => some k_ ≠ (v250 : Value).ownBlock) v253 x10_1) := ⟨by (with_reducible repeat (first | apply Kd.R_alloc | apply Kd.R_drewN | apply Kd.R_drew)); exact Kd.R_mono (Kd.R_far (p := ⟨gb256, 3, none⟩) (Kd.R_far (p := ⟨gb256, 2, none⟩) (Kd.R_far (p := ⟨gb256, 1, none⟩) (Kd.R_far (p := ⟨gb256, 0, none⟩) (Kd.R_types HO_10.out BK256.out (by decide)) (fun _ hk => hk.2) (.int .i64 ((rd_T37 l0 x32_1).f0))) (fun _ hk => hk.2) (.int .i64 ((rd_T37 l0 x32_1).f1))) (fun _ hk => hk.2) (.int .i64 ((rd_T37 l0 x32_1).f2))) (fun _ hk => hk.2) (.int .i64 ((rd_T37 l0 x32_1).f3))) (fun _ hk => hk.1)⟩
                 have n2_ : Aside0 (((((w56.setCell ⟨gb256, 0, none⟩ (.int .i64 ((rd_T37 l0 x32_1).f0))).setCell ⟨gb256, 1, none⟩ (.int .i64 ((rd_T37 l0 x32_1).f1))).setCell ⟨gb256, 2, none⟩ (.int .i64 ((rd_T37 l0 x32_1).f2))).setCell ⟨gb256, 3, none⟩ (.int .i64 ((rd_T37 l0 x32_1).f3))).heap[gb256]? = some (.cells #[.int .i64 ((rd_T37 l0 x32_1).f0), .int .i64 ((rd_T37 l0 x32_1).f1), .int .i64 ((rd_T37 l0 x32_1).f2), .int .i64 ((rd_T37 l0 x32_1).f3)] 37 (0, 0))) := ⟨by (with_reducible repeat (first | refine blk_drewN ?_ _ | refine blk_drew ?_ | refine blk_alloc ?_ _)); refine blk_put (cs := #[.int .i64 ((rd_T37 l0 x32_1).f0), .int .i64 ((rd_T37 l0 x32_1).f1), .int .i64 ((rd_T37 l0 x32_1).f2), .int .i64 0]) ?_ 3 _ rfl; (with_reducible repeat (first | refine blk_drewN ?_ _ | refine blk_drew ?_ | refine blk_alloc ?_ _)); refine blk_put (cs := #[.int .i64 ((rd_T37 l0 x32_1).f0), .int .i64 ((rd_T37 l0 x32_1).f1), .int .i64 0, .int .i64 0]) ?_ 2 _ rfl; (with_reducible repeat (first | refine blk_drewN ?_ _ | refine blk_drew ?_ | refine blk_alloc ?_ _)); refine blk_put (cs := #[.int .i64 ((rd_T37 l0 x32_1).f0), .int .i64 0, .int .i64 0, .int .i64 0]) ?_ 1 _ rfl; (with_reducible repeat (first | refine blk_drewN ?_ _ | refine blk_drew ?_ | refine blk_alloc ?_ _)); refine blk_put (cs := #[.int .i64 0, .int .i64 0, .int .i64 0, .int .i64 0]) ?_ 0 _ rfl; (with_reducible repeat (first | refine blk_drewN ?_ _ | refine blk_drew ?_ | refine blk_alloc ?_ _)); exact BK256.out⟩
                 have n3_ : Aside0 (Below w.heap.size w ((((w56.setCell ⟨gb256, 0, none⟩ (.int .i64 ((rd_T37 l0 x32_1).f0))).setCell ⟨gb256, 1, none⟩ (.int .i64 ((rd_T37 l0 x32_1).f1))).setCell ⟨gb256, 2, none⟩ (.int .i64 ((rd_T37 l0 x32_1).f2))).setCell ⟨gb256, 3, none⟩ (.int .i64 ((rd_T37 l0 x32_1).f3)))) := ⟨by repeat (first | (with_reducible first | exact HB.out | apply bwA | apply bwN | apply bwD | refine below_set ?_ GE256.out) | exact HB.out)⟩
                 (try clear HO_9)
                 (try clear HO_10)
                 (try clear BK256)
                 (try clear HB)
                 generalize ((((w56.setCell ⟨gb256, 0, none⟩ (.int .i64 ((rd_T37 l0 x32_1).f0))).setCell ⟨gb256, 1, none⟩ (.int .i64 ((rd_T37 l0 x32_1).f1))).setCell ⟨gb256, 2, none⟩ (.int .i64 ((rd_T37 l0 x32_1).f2))).setCell ⟨gb256, 3, none⟩ (.int .i64 ((rd_T37 l0 x32_1).f3))) = w58 at n0_ n1_ n2_ n3_ ⊢
                 have HO_9 := n0_
                 have HO_10 := n1_
                 have BK256 := n2_
                 have HB := n3_
                 clear n0_ n1_ n2_ n3_
                 have n0_ := Aside0.mk (Kd.R_drew HO_9.out)
                 have n1_ := Aside0.mk (Kd.R_drew HO_10.out)
                 have n2_ := Aside0.mk (blk_drew BK256.out)
                 have n3_ := Aside0.mk (below_drew1 HB.out)
                 clear HO_9
                 clear HO_10
                 clear BK256
                 clear HB
                 have HO_9 := n0_
                 have HO_10 := n1_
                 have BK256 := n2_
                 have HB := n3_
                 clear n0_ n1_ n2_ n3_
                 obtain ⟨Ao60, co60, eo60⟩ := Kd.R_slice HO_10.out
                 (first | subst eo60 | (injection eo60 with f1_ f2_ f3_; have f4_ := f1_.symm; have f5_ := f3_.symm; clear f1_ f2_ f3_; subst f4_; subst f5_))
                 have p262 : 0 ≤ (((rd_T37 l0 x32_1).f2) : Int) := oda
                 have q262 : ((rd_T37 l0 x32_1).f2) < (x10_1.length : Int) := oda
                 obtain ⟨ad262, e262, hx262_0⟩ := Kd.at_int (Kd.R_reads' HO_10.out).2.2 ((rd_T37 l0 x32_1).f2) p262 q262
                 cases e262
                 replace p262 := eq_true p262
                 replace q262 := eq_true q262
                 have p263 : 0 ≤ (((rd_T37 l0 x32_1).f3) : Int) := oda
                 have q263 : ((rd_T37 l0 x32_1).f3) < (x10_1.length : Int) := oda
                 obtain ⟨ad263, e263, hx263_0⟩ := Kd.at_int (Kd.R_reads' HO_10.out).2.2 ((rd_T37 l0 x32_1).f3) p263 q263
                 obtain rfl : ad262 = ad263 := (by injection e263)
                 replace p263 := eq_true p263
                 replace q263 := eq_true q263
                 have p55 : 0 ≤ (x32_1 : Int) := oda
                 have q55 : (x32_1 : Int) < ((x10_1.length : Int) : Int) := oda
                 obtain ⟨go55, co55, eo55, gb55, gl55, cl55, HG55⟩ := Kd.R_form HO_10.out (by omega)
                 (first | cases eo55 | (injection eo55 with ea_ en_ ec_; (first | subst ea_ | (injection ea_ with ea_; subst ea_)); subst ec_; clear en_))
                 have GB55 := Aside0.mk gb55
                 have GG55 := Aside0.mk HG55
                 clear gb55 gl55 HG55
                 (first | simp only [add_plain] at hx262_0 | skip)
                 (first | simp only [add_plain] at hx263_0 | skip)
                 obtain ⟨hx55_0, hf55_0⟩ := Kd.R_celln 0 HO_10.out (x32_1 : Int) p55 q55
                 replace p55 := eq_true p55
                 replace q55 := eq_true q55
                 have HP61 := Kd.R_putn HO_10.out (x32_1 : Int) (Go.bits .and .i64 (rd x10_1 ((rd_T37 l0 x32_1).f2)) (rd x10_1 ((rd_T37 l0 x32_1).f3)))
                 rw [← Ny264.out] at HP61
                 have HQ61 := Aside0.mk HP61
                 clear HP61
                 refine start_ (n := 15) (S := fun w' => w'.cell? ⟨gb256, 0, none⟩ = some (.int .i64 ((rd_T37 l0 x32_1).f0)) ∧ w'.cell? ⟨gb256, 1, none⟩ = some (.int .i64 ((rd_T37 l0 x32_1).f1)) ∧ w'.cell? ⟨gb256, 2, none⟩ = some (.int .i64 ((rd_T37 l0 x32_1).f2)) ∧ w'.cell? ⟨gb256, 3, none⟩ = some (.int .i64 ((rd_T37 l0 x32_1).f3)) ∧ w'.cell? ⟨go55, (((rd_T37 l0 x32_1).f2)).toNat, none⟩ = some (.int .i64 (rd x10_1 ((rd_T37 l0 x32_1).f2))) ∧ w'.cell? ⟨go55, (((rd_T37 l0 x32_1).f3)).toNat, none⟩ = some (.int .i64 (rd x10_1 ((rd_T37 l0 x32_1).f3)))) (ds := [14]) #[false, false, false, false, false, false, false, false, false, false, false, false, false, false, false] (by kernel_rfl) rfl rfl ⟨(blk_cell BK256.out 0).trans rfl, (blk_cell BK256.out 1).trans rfl, (blk_cell BK256.out 2).trans rfl, (blk_cell BK256.out 3).trans rfl, hx262_0, hx263_0⟩ (fun hHeld => ?_); refine with_tabW impl_truths.tab18 impl_truths.bits18 (fun HT_ HW_ => ?_)
                 generalize w58.drew = w59 at HO_9 HO_10 BK256 HB GG55 HQ61 hf55_0 hx262_0 hx263_0 hx55_0 hHeld ⊢
                 refine pure_ (i := 0) (N := some 76) (v := ?_) (a' := ?_) #[true, false, false, false, false, false, false, false, false, false, false, false, false, false, false] rfl rfl (any_of HT_.out (by kernel_rfl)) (fun _ _ _ h => h) (Or.inl ⟨by rfl, ?_⟩) ?_ ?_
                 rotate_left
                 ·intro w'
                  go_simp
                  with_reducible rfl
                 rotate_left
                 ·simp only [Act.put, List.setIfInBounds_toArray, List.set_cons_zero, List.set_cons_succ, i64_w, i32_w]
                  rfl
                 refine pure_ (i := 1) (N := some 77) (v := ?_) (a' := ?_) #[true, true, false, false, false, false, false, false, false, false, false, false, false, false, false] rfl rfl (any_of HT_.out (by kernel_rfl)) (fun _ _ _ h => h) (Or.inl ⟨by rfl, ?_⟩) ?_ ?_
                 rotate_left
                 ·intro w'
                  go_simp
                  with_reducible rfl
                 rotate_left
                 ·simp only [Act.put, List.setIfInBounds_toArray, List.set_cons_zero, List.set_cons_succ, i64_w, i32_w]
                  rfl
                 refine pure_ (i := 2) (N := some 78) (v := ?_) (a' := ?_) #[true, true, true, false, false, false, false, false, false, false, false, false, false, false, false] rfl rfl (any_of HT_.out (by kernel_rfl)) (fun _ _ _ h => h) (Or.inl ⟨by rfl, ?_⟩) ?_ ?_
                 rotate_left
                 ·intro w'
                  go_simp
                  with_reducible rfl
                 rotate_left
                 ·simp only [Act.put, List.setIfInBounds_toArray, List.set_cons_zero, List.set_cons_succ, i64_w, i32_w]
                  rfl
                 refine pure_ (i := 3) (N := some 79) (v := ?_) (a' := ?_) #[true, true, true, true, false, false, false, false, false, false, false, false, false, false, false] rfl rfl (any_of HT_.out (by kernel_rfl)) (fun _ _ _ h => h) (Or.inl ⟨by rfl, ?_⟩) ?_ ?_
                 rotate_left
                 ·intro w'
                  go_simp
                  with_reducible rfl
                 rotate_left
                 ·simp only [Act.put, List.setIfInBounds_toArray, List.set_cons_zero, List.set_cons_succ, i64_w, i32_w]
                  rfl
                 refine pure_ (i := 7) (N := some 83) (v := ?_) (a' := ?_) #[true, true, true, true, false, false, false, true, false, false, false, false, false, false, false] rfl rfl (any_of HT_.out (by kernel_rfl)) (fun _ _ _ h => h) (Or.inl ⟨by rfl, ?_⟩) ?_ ?_
                 rotate_left
                 ·intro w'
                  go_simp
                  with_reducible rfl
                 rotate_left
                 ·simp only [Act.put, List.setIfInBounds_toArray, List.set_cons_zero, List.set_cons_succ, i64_w, i32_w]
                  rfl
                 refine pure_ (i := 8) (N := some 84) (v := ?_) (a' := ?_) #[true, true, true, true, false, false, false, true, true, false, false, false, false, false, false] rfl rfl (any_of HT_.out (by kernel_rfl)) (fun _ _ _ h => h) (Or.inl ⟨by rfl, ?_⟩) ?_ ?_
                 rotate_left
                 ·intro w'
                  go_simp
                  with_reducible rfl
                 rotate_left
                 ·simp only [Act.put, List.setIfInBounds_toArray, List.set_cons_zero, List.set_cons_succ, i64_w, i32_w]
                  rfl
                 refine take_ (i := 4) (N := some 80) (v := ?_) (a' := ?_) #[true, true, true, true, true, false, false, true, true, false, false, false, false, false, false] rfl rfl (take_ofW HT_.out HW_.out (by kernel_rfl)) (fun _ _ _ h => h) (Or.inl ⟨by rfl, ?_⟩) hHeld ?_ ?_
                 rotate_left
                 ·rintro w' ⟨s0, s1, s2, s3, s4, s5⟩
                  go_simp
                  with_reducible rfl
                 rotate_left
                 ·simp only [Act.put, List.setIfInBounds_toArray, List.set_cons_zero, List.set_cons_succ, i64_w, i32_w]
                  rfl
                 refine pure_ (i := 5) (N := some 81) (v := ?_) (a' := ?_) #[true, true, true, true, true, true, false, true, true, false, false, false, false, false, false] rfl rfl (any_of HT_.out (by kernel_rfl)) (fun _ _ _ h => h) (Or.inl ⟨by rfl, ?_⟩) ?_ ?_
                 rotate_left
                 ·intro w'
                  go_simp
                  with_reducible rfl
                 rotate_left
                 ·simp only [Act.put, List.setIfInBounds_toArray, List.set_cons_zero, List.set_cons_succ, i64_w, i32_w]
                  rfl
                 refine take_ (i := 6) (N := some 82) (v := ?_) (a' := ?_) #[true, true, true, true, true, true, true, true, true, false, false, false, false, false, false] rfl rfl (take_ofW HT_.out HW_.out (by kernel_rfl)) (fun _ _ _ h => h) (Or.inl ⟨by rfl, ?_⟩) hHeld ?_ ?_
                 rotate_left
                 ·rintro w' ⟨s0, s1, s2, s3, s4, s5⟩
                  go_simp
                  with_reducible rfl
                 rotate_left
                 ·simp only [Act.put, List.setIfInBounds_toArray, List.set_cons_zero, List.set_cons_succ, i64_w, i32_w]
                  rfl
                 refine take_ (i := 9) (N := some 85) (v := ?_) (a' := ?_) #[true, true, true, true, true, true, true, true, true, true, false, false, false, false, false] rfl rfl (take_ofW HT_.out HW_.out (by kernel_rfl)) (fun _ _ _ h => h) (Or.inl ⟨by rfl, ?_⟩) hHeld ?_ ?_
                 rotate_left
                 ·rintro w' ⟨s0, s1, s2, s3, s4, s5⟩
                  go_simp
                  with_reducible rfl
                 rotate_left
                 ·simp only [Act.put, List.setIfInBounds_toArray, List.set_cons_zero, List.set_cons_succ, i64_w, i32_w]
                  rfl
                 refine pure_ (i := 10) (N := some 86) (v := ?_) (a' := ?_) #[true, true, true, true, true, true, true, true, true, true, true, false, false, false, false] rfl rfl (any_of HT_.out (by kernel_rfl)) (fun _ _ _ h => h) (Or.inl ⟨by rfl, ?_⟩) ?_ ?_
                 rotate_left
                 ·intro w'
                  go_simp
                  with_reducible rfl
                 rotate_left
                 ·simp only [Act.put, List.setIfInBounds_toArray, List.set_cons_zero, List.set_cons_succ, i64_w, i32_w]
                  rfl
                 refine take_ (i := 11) (N := some 87) (v := ?_) (a' := ?_) #[true, true, true, true, true, true, true, true, true, true, true, true, false, false, false] rfl rfl (take_ofW HT_.out HW_.out (by kernel_rfl)) (fun _ _ _ h => h) (Or.inl ⟨by rfl, ?_⟩) hHeld ?_ ?_
                 rotate_left
                 ·rintro w' ⟨s0, s1, s2, s3, s4, s5⟩
                  go_simp
                  with_reducible rfl
                 rotate_left
                 ·simp only [Act.put, List.setIfInBounds_toArray, List.set_cons_zero, List.set_cons_succ, i64_w, i32_w]
                  rfl
                 refine pure_ (i := 12) (N := some 88) (v := ?_) (a' := ?_) #[true, true, true, true, true, true, true, true, true, true, true, true, true, false, false] rfl rfl (any_of HT_.out (by kernel_rfl)) (fun _ _ _ h => h) (Or.inl ⟨by rfl, ?_⟩) ?_ ?_
                 rotate_left
                 ·intro w'
                  go_simp
                  with_reducible rfl
                 rotate_left
                 ·simp only [Act.put, List.setIfInBounds_toArray, List.set_cons_zero, List.set_cons_succ, i64_w, i32_w]
                  rfl
                 refine pure_ (i := 13) (N := some 89) (v := ?_) (a' := ?_) #[true, true, true, true, true, true, true, true, true, true, true, true, true, true, false] rfl rfl (any_of HT_.out (by kernel_rfl)) (fun _ _ _ h => h) (Or.inl ⟨by rfl, ?_⟩) ?_ ?_
                 rotate_left
                 ·intro w'
                  go_simp
                  with_reducible rfl
                 rotate_left
                 ·simp only [Act.put, List.setIfInBounds_toArray, List.set_cons_zero, List.set_cons_succ, i64_w, i32_w]
                  rfl
                 refine last_ (i := 14) (N := none) #[true, true, true, true, true, true, true, true, true, true, true, true, true, true, true] rfl rfl (one_of HT_.out (by kernel_rfl)) (by decide) (fun K hK => ?_)
                 refine skip_ (w1 := ?_) (by rfl) rfl ?_ ?_
                 rotate_left
                 ·go_simp
                  rfl
                 refine hK.out _ _ ?_
                 clear hK K
                 refine done_ (done_of HT_.out (by kernel_rfl)) ?_
                 try go_wp2
                 go_roundg k1
                 case measure => have := HK1.out; omega
                 case rel => exact ⟨(y264), (x11_1), (wrap64 (x32_1 + 1)), rsd, rsd, H', ⟨by have := HK1.out; omega⟩, ⟨by (with_reducible repeat (first | apply Kd.R_alloc | apply Kd.R_drewN | apply Kd.R_drew)); exact Kd.R_mono (Kd.R_far (p := ⟨go55, (x32_1 : Int).toNat, none⟩) (Kd.R_mono HO_9.out (fun k_ hk => (⟨hk, fun e_ => hk (by rw [e_]; rfl)⟩ : _ ∧ k_ ≠ go55))) (fun _ hk => hk.2) (.int .i64 (Go.bits .and .i64 (rd x10_1 ((rd_T37 l0 x32_1).f2)) (rd x10_1 ((rd_T37 l0 x32_1).f3))))) (fun _ hk => hk.1)⟩, ⟨rvR HQ61.out⟩, ⟨by repeat (first | (with_reducible first | exact HB.out | apply bwA | apply bwN | apply bwD | refine below_set ?_ GB55.out | refine below_set ?_ GE256.out) | exact HB.out)⟩⟩
                ·rw [if_neg c54] at H
                 exact absurd H (by simp)
               ·rw [if_neg c53] at H
                exact absurd H (by simp)
              ·rw [if_neg c52] at H
               exact absurd H (by simp)
             ·rw [if_neg c51] at H
              exact absurd H (by simp)
            ·rw [if_neg c50] at H
             exact absurd H (by simp)
           ·rw [if_neg c49] at H
            have c49b0 : (((rd_T37 l0 x32_1).f0) == 3) = false := beq_eq_false_iff_ne.mpr c49
            have c49b1 : (((rd_T37 l0 x32_1).f0) != 3) = true := bne_iff_ne.mpr c49
            by_cases c62 : ((rd_T37 l0 x32_1).f0) = 4
            ·rw [if_pos c62] at H
             have c62b0 : (((rd_T37 l0 x32_1).f0) == 4) = true := beq_iff_eq.mpr c62
             have c62b1 : (((rd_T37 l0 x32_1).f0) != 4) = false := bne_eq_false_iff_eq.mpr c62
             clear c62
             by_cases c63 : 0 ≤ ((rd_T37 l0 x32_1).f2)
             ·rw [if_pos c63] at H
              have c63b0 : decide (0 ≤ ((rd_T37 l0 x32_1).f2)) = true := decide_eq_true c63
              clear c63
              by_cases c64 : ((rd_T37 l0 x32_1).f2) < (x10_1.length : Int)
              ·rw [if_pos c64] at H
               have c64b0 : decide (((rd_T37 l0 x32_1).f2) < (x10_1.length : Int)) = true := decide_eq_true c64
               clear c64
               by_cases c65 : 0 ≤ ((rd_T37 l0 x32_1).f3)
               ·rw [if_pos c65] at H
                have c65b0 : decide (0 ≤ ((rd_T37 l0 x32_1).f3)) = true := decide_eq_true c65
                clear c65
                by_cases c66 : ((rd_T37 l0 x32_1).f3) < (x10_1.length : Int)
                ·rw [if_pos c66] at H
                 have c66b0 : decide (((rd_T37 l0 x32_1).f3) < (x10_1.length : Int)) = true := decide_eq_true c66
                 clear c66
                 by_cases c67 : x32_1 < (x10_1.length : Int)
                 ·rw [if_pos c67] at H
                  have c67b0 : decide (x32_1 < (x10_1.length : Int)) = true := decide_eq_true c67
                  clear c67
                  obtain ⟨y267, hy267⟩ : ∃ y_ : List Int, y_ = (x10_1.set (x32_1 : Int).toNat (Go.bits .or .i64 (rd x10_1 ((rd_T37 l0 x32_1).f2)) (rd x10_1 ((rd_T37 l0 x32_1).f3)))) := ⟨_, rfl⟩
                  replace H : (impl_truths.l0 k1 t249 y267 x11_1 l0 (l0.length : Int) (wrap64 (x32_1 + 1))) = some r := by first | (rw [hy267]; with_reducible exact H) | (have H2_ := (Option.bind_some _ _).symm.trans H; rw [hy267]; with_reducible exact H2_) | (have H2_ := (Option.bind_some _ _).symm.trans H; with_reducible exact H2_) | with_reducible exact H | (rw [hy267]; exact H) | exact H
                  have Ny267 := Aside0.mk hy267
                  clear hy267
                  have H' := Aside0.mk H
                  clear H
                  have p255 : 0 ≤ (x32_1 : Int) := oda
                  have q255 : x32_1 < (l0.length : Int) := oda
                  obtain ⟨ad255, e255, hx255_0, hx255_1, hx255_2, hx255_3⟩ := at_T37 HR0.out x32_1 p255 q255
                  cases e255
                  try replace hx255_0 := bct HB.out hx255_0
                  try replace hx255_1 := bct HB.out hx255_1
                  try replace hx255_2 := bct HB.out hx255_2
                  try replace hx255_3 := bct HB.out hx255_3
                  replace p255 := eq_true p255
                  replace q255 := eq_true q255
                  try go_wp2_with (first | ((with_reducible refine gate_dst (N := 13) rfl ?_); refine box_event ?hg (N := 13) ?hd (cs := #[.int .i64 0, .int .i64 0, .int .i64 0, .int .i64 0]) (t := 37) ?hr ?_; (case hd => rfl); (case hg => rfl); (case hr => first | (go_simp; done) | (go_simp; rfl)); intro gb256 hg w69 hbox hb; have n0_ := Aside0.mk (Kd.R_below (rvR HO_9.out) hb); have n1_ := Aside0.mk (Kd.R_below (rvR HO_10.out) hb); have n2_ := Aside0.mk (below_step (by repeat (first | (with_reducible first | exact HB.out | apply bwA | apply bwN | apply bwD) | exact HB.out)) hb); have n3_ := Aside0.mk (hbox); have n4_ := Aside0.mk ((by rw [hg]; exact (below_size (by repeat (first | (with_reducible first | exact HB.out | apply bwA | apply bwN | apply bwD) | exact HB.out))) : w.heap.size ≤ gb256)); have n5_ := Aside0.mk ((by rw [hg]; exact (below_size (by repeat (first | (with_reducible first | exact HB.out | apply bwA | apply bwN | apply bwD) | exact HB.out))) : w.heap.size ≤ gb256)); clear HO_9; clear HO_10; clear HB; have HO_9 := n0_; have HO_10 := n1_; have HB := n2_; have BK256 := n3_; have GW256 := n4_; have GE256 := n5_; clear n0_ n1_ n2_ n3_ n4_ n5_; clear hb hbox hg; have hcz70_0 : w69.cell? ⟨gb256, 0, none⟩ = some (.int .i64 0) := (blk_cell BK256.out 0).trans rfl; have hcz70_1 : w69.cell? ⟨gb256, 1, none⟩ = some (.int .i64 0) := (blk_cell BK256.out 1).trans rfl; have hcz70_2 : w69.cell? ⟨gb256, 2, none⟩ = some (.int .i64 0) := (blk_cell BK256.out 2).trans rfl; have hcz70_3 : w69.cell? ⟨gb256, 3, none⟩ = some (.int .i64 0) := (blk_cell BK256.out 3).trans rfl; have hfz70_0 := blk_frozen BK256.out 0; have hfz70_1 := blk_frozen BK256.out 1; have hfz70_2 := blk_frozen BK256.out 2; have hfz70_3 := blk_frozen BK256.out 3))
                  have n0_ : Aside0 (Kd.R (Kd.int .i64) 3 ((((w69.setCell ⟨gb256, 0, none⟩ (.int .i64 ((rd_T37 l0 x32_1).f0))).setCell ⟨gb256, 1, none⟩ (.int .i64 ((rd_T37 l0 x32_1).f1))).setCell ⟨gb256, 2, none⟩ (.int .i64 ((rd_T37 l0 x32_1).f2))).setCell ⟨gb256, 3, none⟩ (.int .i64 ((rd_T37 l0 x32_1).f3))) w.heap.size (fun k_ => some k_ ≠ (v253 : Value).ownBlock) v250 t249) := ⟨by (with_reducible repeat (first | apply Kd.R_alloc | apply Kd.R_drewN | apply Kd.R_drew)); exact Kd.R_mono (Kd.R_far (p := ⟨gb256, 3, none⟩) (Kd.R_far (p := ⟨gb256, 2, none⟩) (Kd.R_far (p := ⟨gb256, 1, none⟩) (Kd.R_far (p := ⟨gb256, 0, none⟩) (Kd.R_types HO_9.out BK256.out (by decide)) (fun _ hk => hk.2) (.int .i64 ((rd_T37 l0 x32_1).f0))) (fun _ hk => hk.2) (.int .i64 ((rd_T37 l0 x32_1).f1))) (fun _ hk => hk.2) (.int .i64 ((rd_T37 l0 x32_1).f2))) (fun _ hk => hk.2) (.int .i64 ((rd_T37 l0 x32_1).f3))) (fun _ hk => hk.1)⟩
                  have n1_ : Aside0 (Kd.R (Kd.int .i64) 3 ((((w69.setCell ⟨gb256, 0, none⟩ (.int .i64 ((rd_T37 l0 x32_1).f0))).setCell ⟨gb256, 1, none⟩ (.int .i64 ((rd_T37 l0 x32_1).f1))).setCell ⟨gb256, 2, none⟩ (.int .i64 ((rd_T37 l0 x32_1).f2))).setCell ⟨gb256, 3, none⟩ (.int .i64 ((rd_T37 l0 x32_1).f3))) w.heap.size (fun k_ => some k_ ≠ (v250 : Value).ownBlock) v253 x10_1) := ⟨by (with_reducible repeat (first | apply Kd.R_alloc | apply Kd.R_drewN | apply Kd.R_drew)); exact Kd.R_mono (Kd.R_far (p := ⟨gb256, 3, none⟩) (Kd.R_far (p := ⟨gb256, 2, none⟩) (Kd.R_far (p := ⟨gb256, 1, none⟩) (Kd.R_far (p := ⟨gb256, 0, none⟩) (Kd.R_types HO_10.out BK256.out (by decide)) (fun _ hk => hk.2) (.int .i64 ((rd_T37 l0 x32_1).f0))) (fun _ hk => hk.2) (.int .i64 ((rd_T37 l0 x32_1).f1))) (fun _ hk => hk.2) (.int .i64 ((rd_T37 l0 x32_1).f2))) (fun _ hk => hk.2) (.int .i64 ((rd_T37 l0 x32_1).f3))) (fun _ hk => hk.1)⟩
                  have n2_ : Aside0 (((((w69.setCell ⟨gb256, 0, none⟩ (.int .i64 ((rd_T37 l0 x32_1).f0))).setCell ⟨gb256, 1, none⟩ (.int .i64 ((rd_T37 l0 x32_1).f1))).setCell ⟨gb256, 2, none⟩ (.int .i64 ((rd_T37 l0 x32_1).f2))).setCell ⟨gb256, 3, none⟩ (.int .i64 ((rd_T37 l0 x32_1).f3))).heap[gb256]? = some (.cells #[.int .i64 ((rd_T37 l0 x32_1).f0), .int .i64 ((rd_T37 l0 x32_1).f1), .int .i64 ((rd_T37 l0 x32_1).f2), .int .i64 ((rd_T37 l0 x32_1).f3)] 37 (0, 0))) := ⟨by (with_reducible repeat (first | refine blk_drewN ?_ _ | refine blk_drew ?_ | refine blk_alloc ?_ _)); refine blk_put (cs := #[.int .i64 ((rd_T37 l0 x32_1).f0), .int .i64 ((rd_T37 l0 x32_1).f1), .int .i64 ((rd_T37 l0 x32_1).f2), .int .i64 0]) ?_ 3 _ rfl; (with_reducible repeat (first | refine blk_drewN ?_ _ | refine blk_drew ?_ | refine blk_alloc ?_ _)); refine blk_put (cs := #[.int .i64 ((rd_T37 l0 x32_1).f0), .int .i64 ((rd_T37 l0 x32_1).f1), .int .i64 0, .int .i64 0]) ?_ 2 _ rfl; (with_reducible repeat (first | refine blk_drewN ?_ _ | refine blk_drew ?_ | refine blk_alloc ?_ _)); refine blk_put (cs := #[.int .i64 ((rd_T37 l0 x32_1).f0), .int .i64 0, .int .i64 0, .int .i64 0]) ?_ 1 _ rfl; (with_reducible repeat (first | refine blk_drewN ?_ _ | refine blk_drew ?_ | refine blk_alloc ?_ _)); refine blk_put (cs := #[.int .i64 0, .int .i64 0, .int .i64 0, .int .i64 0]) ?_ 0 _ rfl; (with_reducible repeat (first | refine blk_drewN ?_ _ | refine blk_drew ?_ | refine blk_alloc ?_ _)); exact BK256.out⟩
                  have n3_ : Aside0 (Below w.heap.size w ((((w69.setCell ⟨gb256, 0, none⟩ (.int .i64 ((rd_T37 l0 x32_1).f0))).setCell ⟨gb256, 1, none⟩ (.int .i64 ((rd_T37 l0 x32_1).f1))).setCell ⟨gb256, 2, none⟩ (.int .i64 ((rd_T37 l0 x32_1).f2))).setCell ⟨gb256, 3, none⟩ (.int .i64 ((rd_T37 l0 x32_1).f3)))) := ⟨by repeat (first | (with_reducible first | exact HB.out | apply bwA | apply bwN | apply bwD | refine below_set ?_ GE256.out) | exact HB.out)⟩
                  (try clear HO_9)
                  (try clear HO_10)
                  (try clear BK256)
                  (try clear HB)
                  generalize ((((w69.setCell ⟨gb256, 0, none⟩ (.int .i64 ((rd_T37 l0 x32_1).f0))).setCell ⟨gb256, 1, none⟩ (.int .i64 ((rd_T37 l0 x32_1).f1))).setCell ⟨gb256, 2, none⟩ (.int .i64 ((rd_T37 l0 x32_1).f2))).setCell ⟨gb256, 3, none⟩ (.int .i64 ((rd_T37 l0 x32_1).f3))) = w71 at n0_ n1_ n2_ n3_ ⊢
                  have HO_9 := n0_
                  have HO_10 := n1_
                  have BK256 := n2_
                  have HB := n3_
                  clear n0_ n1_ n2_ n3_
                  have n0_ := Aside0.mk (Kd.R_drew HO_9.out)
                  have n1_ := Aside0.mk (Kd.R_drew HO_10.out)
                  have n2_ := Aside0.mk (blk_drew BK256.out)
                  have n3_ := Aside0.mk (below_drew1 HB.out)
                  clear HO_9
                  clear HO_10
                  clear BK256
                  clear HB
                  have HO_9 := n0_
                  have HO_10 := n1_
                  have BK256 := n2_
                  have HB := n3_
                  clear n0_ n1_ n2_ n3_
                  obtain ⟨Ao73, co73, eo73⟩ := Kd.R_slice HO_10.out
                  (first | subst eo73 | (injection eo73 with f1_ f2_ f3_; have f4_ := f1_.symm; have f5_ := f3_.symm; clear f1_ f2_ f3_; subst f4_; subst f5_))
                  have p265 : 0 ≤ (((rd_T37 l0 x32_1).f2) : Int) := oda
                  have q265 : ((rd_T37 l0 x32_1).f2) < (x10_1.length : Int) := oda
                  obtain ⟨ad265, e265, hx265_0⟩ := Kd.at_int (Kd.R_reads' HO_10.out).2.2 ((rd_T37 l0 x32_1).f2) p265 q265
                  cases e265
                  replace p265 := eq_true p265
                  replace q265 := eq_true q265
                  have p266 : 0 ≤ (((rd_T37 l0 x32_1).f3) : Int) := oda
                  have q266 : ((rd_T37 l0 x32_1).f3) < (x10_1.length : Int) := oda
                  obtain ⟨ad266, e266, hx266_0⟩ := Kd.at_int (Kd.R_reads' HO_10.out).2.2 ((rd_T37 l0 x32_1).f3) p266 q266
                  obtain rfl : ad265 = ad266 := (by injection e266)
                  replace p266 := eq_true p266
                  replace q266 := eq_true q266
                  have p68 : 0 ≤ (x32_1 : Int) := oda
                  have q68 : (x32_1 : Int) < ((x10_1.length : Int) : Int) := oda
                  obtain ⟨go68, co68, eo68, gb68, gl68, cl68, HG68⟩ := Kd.R_form HO_10.out (by omega)
                  (first | cases eo68 | (injection eo68 with ea_ en_ ec_; (first | subst ea_ | (injection ea_ with ea_; subst ea_)); subst ec_; clear en_))
                  have GB68 := Aside0.mk gb68
                  have GG68 := Aside0.mk HG68
                  clear gb68 gl68 HG68
                  (first | simp only [add_plain] at hx265_0 | skip)
                  (first | simp only [add_plain] at hx266_0 | skip)
                  obtain ⟨hx68_0, hf68_0⟩ := Kd.R_celln 0 HO_10.out (x32_1 : Int) p68 q68
                  replace p68 := eq_true p68
                  replace q68 := eq_true q68
                  have HP74 := Kd.R_putn HO_10.out (x32_1 : Int) (Go.bits .or .i64 (rd x10_1 ((rd_T37 l0 x32_1).f2)) (rd x10_1 ((rd_T37 l0 x32_1).f3)))
                  rw [← Ny267.out] at HP74
                  have HQ74 := Aside0.mk HP74
                  clear HP74
                  refine start_ (n := 15) (S := fun w' => w'.cell? ⟨gb256, 0, none⟩ = some (.int .i64 ((rd_T37 l0 x32_1).f0)) ∧ w'.cell? ⟨gb256, 1, none⟩ = some (.int .i64 ((rd_T37 l0 x32_1).f1)) ∧ w'.cell? ⟨gb256, 2, none⟩ = some (.int .i64 ((rd_T37 l0 x32_1).f2)) ∧ w'.cell? ⟨gb256, 3, none⟩ = some (.int .i64 ((rd_T37 l0 x32_1).f3)) ∧ w'.cell? ⟨go68, (((rd_T37 l0 x32_1).f2)).toNat, none⟩ = some (.int .i64 (rd x10_1 ((rd_T37 l0 x32_1).f2))) ∧ w'.cell? ⟨go68, (((rd_T37 l0 x32_1).f3)).toNat, none⟩ = some (.int .i64 (rd x10_1 ((rd_T37 l0 x32_1).f3)))) (ds := [14]) #[false, false, false, false, false, false, false, false, false, false, false, false, false, false, false] (by kernel_rfl) rfl rfl ⟨(blk_cell BK256.out 0).trans rfl, (blk_cell BK256.out 1).trans rfl, (blk_cell BK256.out 2).trans rfl, (blk_cell BK256.out 3).trans rfl, hx265_0, hx266_0⟩ (fun hHeld => ?_); refine with_tabW impl_truths.tab20 impl_truths.bits20 (fun HT_ HW_ => ?_)
                  generalize w71.drew = w72 at HO_9 HO_10 BK256 HB GG68 HQ74 hf68_0 hx265_0 hx266_0 hx68_0 hHeld ⊢
                  refine pure_ (i := 0) (N := some 92) (v := ?_) (a' := ?_) #[true, false, false, false, false, false, false, false, false, false, false, false, false, false, false] rfl rfl (any_of HT_.out (by kernel_rfl)) (fun _ _ _ h => h) (Or.inl ⟨by rfl, ?_⟩) ?_ ?_
                  rotate_left
                  ·intro w'
                   go_simp
                   with_reducible rfl
                  rotate_left
                  ·simp only [Act.put, List.setIfInBounds_toArray, List.set_cons_zero, List.set_cons_succ, i64_w, i32_w]
                   rfl
                  refine pure_ (i := 1) (N := some 93) (v := ?_) (a' := ?_) #[true, true, false, false, false, false, false, false, false, false, false, false, false, false, false] rfl rfl (any_of HT_.out (by kernel_rfl)) (fun _ _ _ h => h) (Or.inl ⟨by rfl, ?_⟩) ?_ ?_
                  rotate_left
                  ·intro w'
                   go_simp
                   with_reducible rfl
                  rotate_left
                  ·simp only [Act.put, List.setIfInBounds_toArray, List.set_cons_zero, List.set_cons_succ, i64_w, i32_w]
                   rfl
                  refine pure_ (i := 2) (N := some 94) (v := ?_) (a' := ?_) #[true, true, true, false, false, false, false, false, false, false, false, false, false, false, false] rfl rfl (any_of HT_.out (by kernel_rfl)) (fun _ _ _ h => h) (Or.inl ⟨by rfl, ?_⟩) ?_ ?_
                  rotate_left
                  ·intro w'
                   go_simp
                   with_reducible rfl
                  rotate_left
                  ·simp only [Act.put, List.setIfInBounds_toArray, List.set_cons_zero, List.set_cons_succ, i64_w, i32_w]
                   rfl
                  refine pure_ (i := 3) (N := some 95) (v := ?_) (a' := ?_) #[true, true, true, true, false, false, false, false, false, false, false, false, false, false, false] rfl rfl (any_of HT_.out (by kernel_rfl)) (fun _ _ _ h => h) (Or.inl ⟨by rfl, ?_⟩) ?_ ?_
                  rotate_left
                  ·intro w'
                   go_simp
                   with_reducible rfl
                  rotate_left
                  ·simp only [Act.put, List.setIfInBounds_toArray, List.set_cons_zero, List.set_cons_succ, i64_w, i32_w]
                   rfl
                  refine pure_ (i := 7) (N := some 99) (v := ?_) (a' := ?_) #[true, true, true, true, false, false, false, true, false, false, false, false, false, false, false] rfl rfl (any_of HT_.out (by kernel_rfl)) (fun _ _ _ h => h) (Or.inl ⟨by rfl, ?_⟩) ?_ ?_
                  rotate_left
                  ·intro w'
                   go_simp
                   with_reducible rfl
                  rotate_left
                  ·simp only [Act.put, List.setIfInBounds_toArray, List.set_cons_zero, List.set_cons_succ, i64_w, i32_w]
                   rfl
                  refine pure_ (i := 8) (N := some 100) (v := ?_) (a' := ?_) #[true, true, true, true, false, false, false, true, true, false, false, false, false, false, false] rfl rfl (any_of HT_.out (by kernel_rfl)) (fun _ _ _ h => h) (Or.inl ⟨by rfl, ?_⟩) ?_ ?_
                  rotate_left
                  ·intro w'
                   go_simp
                   with_reducible rfl
                  rotate_left
                  ·simp only [Act.put, List.setIfInBounds_toArray, List.set_cons_zero, List.set_cons_succ, i64_w, i32_w]
                   rfl
                  refine take_ (i := 4) (N := some 96) (v := ?_) (a' := ?_) #[true, true, true, true, true, false, false, true, true, false, false, false, false, false, false] rfl rfl (take_ofW HT_.out HW_.out (by kernel_rfl)) (fun _ _ _ h => h) (Or.inl ⟨by rfl, ?_⟩) hHeld ?_ ?_
                  rotate_left
                  ·rintro w' ⟨s0, s1, s2, s3, s4, s5⟩
                   go_simp
                   with_reducible rfl
                  rotate_left
                  ·simp only [Act.put, List.setIfInBounds_toArray, List.set_cons_zero, List.set_cons_succ, i64_w, i32_w]
                   rfl
                  refine pure_ (i := 5) (N := some 97) (v := ?_) (a' := ?_) #[true, true, true, true, true, true, false, true, true, false, false, false, false, false, false] rfl rfl (any_of HT_.out (by kernel_rfl)) (fun _ _ _ h => h) (Or.inl ⟨by rfl, ?_⟩) ?_ ?_
                  rotate_left
                  ·intro w'
                   go_simp
                   with_reducible rfl
                  rotate_left
                  ·simp only [Act.put, List.setIfInBounds_toArray, List.set_cons_zero, List.set_cons_succ, i64_w, i32_w]
                   rfl
                  refine take_ (i := 6) (N := some 98) (v := ?_) (a' := ?_) #[true, true, true, true, true, true, true, true, true, false, false, false, false, false, false] rfl rfl (take_ofW HT_.out HW_.out (by kernel_rfl)) (fun _ _ _ h => h) (Or.inl ⟨by rfl, ?_⟩) hHeld ?_ ?_
                  rotate_left
                  ·rintro w' ⟨s0, s1, s2, s3, s4, s5⟩
                   go_simp
                   with_reducible rfl
                  rotate_left
                  ·simp only [Act.put, List.setIfInBounds_toArray, List.set_cons_zero, List.set_cons_succ, i64_w, i32_w]
                   rfl
                  refine take_ (i := 9) (N := some 101) (v := ?_) (a' := ?_) #[true, true, true, true, true, true, true, true, true, true, false, false, false, false, false] rfl rfl (take_ofW HT_.out HW_.out (by kernel_rfl)) (fun _ _ _ h => h) (Or.inl ⟨by rfl, ?_⟩) hHeld ?_ ?_
                  rotate_left
                  ·rintro w' ⟨s0, s1, s2, s3, s4, s5⟩
                   go_simp
                   with_reducible rfl
                  rotate_left
                  ·simp only [Act.put, List.setIfInBounds_toArray, List.set_cons_zero, List.set_cons_succ, i64_w, i32_w]
                   rfl
                  refine pure_ (i := 10) (N := some 102) (v := ?_) (a' := ?_) #[true, true, true, true, true, true, true, true, true, true, true, false, false, false, false] rfl rfl (any_of HT_.out (by kernel_rfl)) (fun _ _ _ h => h) (Or.inl ⟨by rfl, ?_⟩) ?_ ?_
                  rotate_left
                  ·intro w'
                   go_simp
                   with_reducible rfl
                  rotate_left
                  ·simp only [Act.put, List.setIfInBounds_toArray, List.set_cons_zero, List.set_cons_succ, i64_w, i32_w]
                   rfl
                  refine take_ (i := 11) (N := some 103) (v := ?_) (a' := ?_) #[true, true, true, true, true, true, true, true, true, true, true, true, false, false, false] rfl rfl (take_ofW HT_.out HW_.out (by kernel_rfl)) (fun _ _ _ h => h) (Or.inl ⟨by rfl, ?_⟩) hHeld ?_ ?_
                  rotate_left
                  ·rintro w' ⟨s0, s1, s2, s3, s4, s5⟩
                   go_simp
                   with_reducible rfl
                  rotate_left
                  ·simp only [Act.put, List.setIfInBounds_toArray, List.set_cons_zero, List.set_cons_succ, i64_w, i32_w]
                   rfl
                  refine pure_ (i := 12) (N := some 104) (v := ?_) (a' := ?_) #[true, true, true, true, true, true, true, true, true, true, true, true, true, false, false] rfl rfl (any_of HT_.out (by kernel_rfl)) (fun _ _ _ h => h) (Or.inl ⟨by rfl, ?_⟩) ?_ ?_
                  rotate_left
                  ·intro w'
                   go_simp
                   with_reducible rfl
                  rotate_left
                  ·simp only [Act.put, List.setIfInBounds_toArray, List.set_cons_zero, List.set_cons_succ, i64_w, i32_w]
                   rfl
                  refine pure_ (i := 13) (N := some 105) (v := ?_) (a' := ?_) #[true, true, true, true, true, true, true, true, true, true, true, true, true, true, false] rfl rfl (any_of HT_.out (by kernel_rfl)) (fun _ _ _ h => h) (Or.inl ⟨by rfl, ?_⟩) ?_ ?_
                  rotate_left
                  ·intro w'
                   go_simp
                   with_reducible rfl
                  rotate_left
                  ·simp only [Act.put, List.setIfInBounds_toArray, List.set_cons_zero, List.set_cons_succ, i64_w, i32_w]
                   rfl
                  refine last_ (i := 14) (N := none) #[true, true, true, true, true, true, true, true, true, true, true, true, true, true, true] rfl rfl (one_of HT_.out (by kernel_rfl)) (by decide) (fun K hK => ?_)
                  refine skip_ (w1 := ?_) (by rfl) rfl ?_ ?_
                  rotate_left
                  ·go_simp
                   rfl
                  refine hK.out _ _ ?_
                  clear hK K
                  refine done_ (done_of HT_.out (by kernel_rfl)) ?_
                  try go_wp2
                  go_roundg k1
                  case measure => have := HK1.out; omega
                  case rel => exact ⟨(y267), (x11_1), (wrap64 (x32_1 + 1)), rsd, rsd, H', ⟨by have := HK1.out; omega⟩, ⟨by (with_reducible repeat (first | apply Kd.R_alloc | apply Kd.R_drewN | apply Kd.R_drew)); exact Kd.R_mono (Kd.R_far (p := ⟨go68, (x32_1 : Int).toNat, none⟩) (Kd.R_mono HO_9.out (fun k_ hk => (⟨hk, fun e_ => hk (by rw [e_]; rfl)⟩ : _ ∧ k_ ≠ go68))) (fun _ hk => hk.2) (.int .i64 (Go.bits .or .i64 (rd x10_1 ((rd_T37 l0 x32_1).f2)) (rd x10_1 ((rd_T37 l0 x32_1).f3))))) (fun _ hk => hk.1)⟩, ⟨rvR HQ74.out⟩, ⟨by repeat (first | (with_reducible first | exact HB.out | apply bwA | apply bwN | apply bwD | refine below_set ?_ GB68.out | refine below_set ?_ GE256.out) | exact HB.out)⟩⟩
                 ·rw [if_neg c67] at H
                  exact absurd H (by simp)
                ·rw [if_neg c66] at H
                 exact absurd H (by simp)
               ·rw [if_neg c65] at H
                exact absurd H (by simp)
              ·rw [if_neg c64] at H
               exact absurd H (by simp)
             ·rw [if_neg c63] at H
              exact absurd H (by simp)
            ·rw [if_neg c62] at H
             have c62b0 : (((rd_T37 l0 x32_1).f0) == 4) = false := beq_eq_false_iff_ne.mpr c62
             have c62b1 : (((rd_T37 l0 x32_1).f0) != 4) = true := bne_iff_ne.mpr c62
             by_cases c75 : 0 ≤ x11_1
             ·rw [if_pos c75] at H
              have c75b0 : decide (0 ≤ x11_1) = true := decide_eq_true c75
              clear c75
              by_cases c76 : x11_1 < (t249.length : Int)
              ·rw [if_pos c76] at H
               have c76b0 : decide (x11_1 < (t249.length : Int)) = true := decide_eq_true c76
               clear c76
               by_cases c77 : x32_1 < (x10_1.length : Int)
               ·rw [if_pos c77] at H
                have c77b0 : decide (x32_1 < (x10_1.length : Int)) = true := decide_eq_true c77
                clear c77
                obtain ⟨y269, hy269⟩ : ∃ y_ : List Int, y_ = (x10_1.set (x32_1 : Int).toNat (rd t249 x11_1)) := ⟨_, rfl⟩
                replace H : (impl_truths.l0 k1 t249 y269 (wrap64 (x11_1 + 1)) l0 (l0.length : Int) (wrap64 (x32_1 + 1))) = some r := by first | (rw [hy269]; with_reducible exact H) | (have H2_ := (Option.bind_some _ _).symm.trans H; rw [hy269]; with_reducible exact H2_) | (have H2_ := (Option.bind_some _ _).symm.trans H; with_reducible exact H2_) | with_reducible exact H | (rw [hy269]; exact H) | exact H
                have Ny269 := Aside0.mk hy269
                clear hy269
                have H' := Aside0.mk H
                clear H
                have p255 : 0 ≤ (x32_1 : Int) := oda
                have q255 : x32_1 < (l0.length : Int) := oda
                obtain ⟨ad255, e255, hx255_0, hx255_1, hx255_2, hx255_3⟩ := at_T37 HR0.out x32_1 p255 q255
                cases e255
                try replace hx255_0 := bct HB.out hx255_0
                try replace hx255_1 := bct HB.out hx255_1
                try replace hx255_2 := bct HB.out hx255_2
                try replace hx255_3 := bct HB.out hx255_3
                replace p255 := eq_true p255
                replace q255 := eq_true q255
                go_wp2_with (first | ((with_reducible refine gate_dst (N := 13) rfl ?_); refine box_event ?hg (N := 13) ?hd (cs := #[.int .i64 0, .int .i64 0, .int .i64 0, .int .i64 0]) (t := 37) ?hr ?_; (case hd => rfl); (case hg => rfl); (case hr => first | (go_simp; done) | (go_simp; rfl)); intro gb256 hg w79 hbox hb; have n0_ := Aside0.mk (Kd.R_below (rvR HO_9.out) hb); have n1_ := Aside0.mk (Kd.R_below (rvR HO_10.out) hb); have n2_ := Aside0.mk (below_step (by repeat (first | (with_reducible first | exact HB.out | apply bwA | apply bwN | apply bwD) | exact HB.out)) hb); have n3_ := Aside0.mk (hbox); have n4_ := Aside0.mk ((by rw [hg]; exact (below_size (by repeat (first | (with_reducible first | exact HB.out | apply bwA | apply bwN | apply bwD) | exact HB.out))) : w.heap.size ≤ gb256)); have n5_ := Aside0.mk ((by rw [hg]; exact (below_size (by repeat (first | (with_reducible first | exact HB.out | apply bwA | apply bwN | apply bwD) | exact HB.out))) : w.heap.size ≤ gb256)); clear HO_9; clear HO_10; clear HB; have HO_9 := n0_; have HO_10 := n1_; have HB := n2_; have BK256 := n3_; have GW256 := n4_; have GE256 := n5_; clear n0_ n1_ n2_ n3_ n4_ n5_; clear hb hbox hg; have hcz80_0 : w79.cell? ⟨gb256, 0, none⟩ = some (.int .i64 0) := (blk_cell BK256.out 0).trans rfl; have hcz80_1 : w79.cell? ⟨gb256, 1, none⟩ = some (.int .i64 0) := (blk_cell BK256.out 1).trans rfl; have hcz80_2 : w79.cell? ⟨gb256, 2, none⟩ = some (.int .i64 0) := (blk_cell BK256.out 2).trans rfl; have hcz80_3 : w79.cell? ⟨gb256, 3, none⟩ = some (.int .i64 0) := (blk_cell BK256.out 3).trans rfl; have hfz80_0 := blk_frozen BK256.out 0; have hfz80_1 := blk_frozen BK256.out 1; have hfz80_2 := blk_frozen BK256.out 2; have hfz80_3 := blk_frozen BK256.out 3) | ((with_reducible refine gate_store (t := 37) (p := 13) rfl ?_); refine store_event (t := 37) (p := 13) (v := ?vo_w81) (w1 := ((((w79.setCell ⟨gb256, 0, none⟩ (.int .i64 ((rd_T37 l0 x32_1).f0))).setCell ⟨gb256, 1, none⟩ (.int .i64 ((rd_T37 l0 x32_1).f1))).setCell ⟨gb256, 2, none⟩ (.int .i64 ((rd_T37 l0 x32_1).f2))).setCell ⟨gb256, 3, none⟩ (.int .i64 ((rd_T37 l0 x32_1).f3)))) ?hg ?ho ?hn ?hr ?_; (case ho => rfl); (case hg => rfl); (case hn => rfl); (case hr => first | (go_simp; done) | (go_simp; rfl)); intro w81 hw; have n0_ : Aside0 (Kd.R (Kd.int .i64) 3 w81 w.heap.size (fun k_ => some k_ ≠ (v253 : Value).ownBlock) v250 t249) := ⟨(by rw [hw]; exact (by (with_reducible repeat (first | apply Kd.R_alloc | apply Kd.R_drewN | apply Kd.R_drew)); exact Kd.R_mono (Kd.R_far (p := ⟨gb256, 3, none⟩) (Kd.R_far (p := ⟨gb256, 2, none⟩) (Kd.R_far (p := ⟨gb256, 1, none⟩) (Kd.R_far (p := ⟨gb256, 0, none⟩) (Kd.R_types HO_9.out BK256.out (by decide)) (fun _ hk => hk.2) (.int .i64 ((rd_T37 l0 x32_1).f0))) (fun _ hk => hk.2) (.int .i64 ((rd_T37 l0 x32_1).f1))) (fun _ hk => hk.2) (.int .i64 ((rd_T37 l0 x32_1).f2))) (fun _ hk => hk.2) (.int .i64 ((rd_T37 l0 x32_1).f3))) (fun _ hk => hk.1)))⟩; have n1_ : Aside0 (Kd.R (Kd.int .i64) 3 w81 w.heap.size (fun k_ => some k_ ≠ (v250 : Value).ownBlock) v253 x10_1) := ⟨(by rw [hw]; exact (by (with_reducible repeat (first | apply Kd.R_alloc | apply Kd.R_drewN | apply Kd.R_drew)); exact Kd.R_mono (Kd.R_far (p := ⟨gb256, 3, none⟩) (Kd.R_far (p := ⟨gb256, 2, none⟩) (Kd.R_far (p := ⟨gb256, 1, none⟩) (Kd.R_far (p := ⟨gb256, 0, none⟩) (Kd.R_types HO_10.out BK256.out (by decide)) (fun _ hk => hk.2) (.int .i64 ((rd_T37 l0 x32_1).f0))) (fun _ hk => hk.2) (.int .i64 ((rd_T37 l0 x32_1).f1))) (fun _ hk => hk.2) (.int .i64 ((rd_T37 l0 x32_1).f2))) (fun _ hk => hk.2) (.int .i64 ((rd_T37 l0 x32_1).f3))) (fun _ hk => hk.1)))⟩; have n2_ : Aside0 (w81.heap[gb256]? = some (.cells #[.int .i64 ((rd_T37 l0 x32_1).f0), .int .i64 ((rd_T37 l0 x32_1).f1), .int .i64 ((rd_T37 l0 x32_1).f2), .int .i64 ((rd_T37 l0 x32_1).f3)] 37 (0, 0))) := ⟨(by rw [hw]; exact (by (with_reducible repeat (first | refine blk_drewN ?_ _ | refine blk_drew ?_ | refine blk_alloc ?_ _)); refine blk_put (cs := #[.int .i64 ((rd_T37 l0 x32_1).f0), .int .i64 ((rd_T37 l0 x32_1).f1), .int .i64 ((rd_T37 l0 x32_1).f2), .int .i64 0]) ?_ 3 _ rfl; (with_reducible repeat (first | refine blk_drewN ?_ _ | refine blk_drew ?_ | refine blk_alloc ?_ _)); refine blk_put (cs := #[.int .i64 ((rd_T37 l0 x32_1).f0), .int .i64 ((rd_T37 l0 x32_1).f1), .int .i64 0, .int .i64 0]) ?_ 2 _ rfl; (with_reducible repeat (first | refine blk_drewN ?_ _ | refine blk_drew ?_ | refine blk_alloc ?_ _)); refine blk_put (cs := #[.int .i64 ((rd_T37 l0 x32_1).f0), .int .i64 0, .int .i64 0, .int .i64 0]) ?_ 1 _ rfl; (with_reducible repeat (first | refine blk_drewN ?_ _ | refine blk_drew ?_ | refine blk_alloc ?_ _)); refine blk_put (cs := #[.int .i64 0, .int .i64 0, .int .i64 0, .int .i64 0]) ?_ 0 _ rfl; (with_reducible repeat (first | refine blk_drewN ?_ _ | refine blk_drew ?_ | refine blk_alloc ?_ _)); exact BK256.out))⟩; have n3_ : Aside0 (Below w.heap.size w w81) := ⟨(by rw [hw]; exact (by repeat (first | (with_reducible first | exact HB.out | apply bwA | apply bwN | apply bwD | refine below_set ?_ GE256.out) | exact HB.out)))⟩; clear hw; clear HO_9; clear HO_10; clear BK256; clear HB; have HO_9 := n0_; have HO_10 := n1_; have BK256 := n2_; have HB := n3_; clear n0_ n1_ n2_ n3_; have hcz82_0 : w81.cell? ⟨gb256, 0, none⟩ = some (.int .i64 ((rd_T37 l0 x32_1).f0)) := (blk_cell BK256.out 0).trans rfl; have hcz82_1 : w81.cell? ⟨gb256, 1, none⟩ = some (.int .i64 ((rd_T37 l0 x32_1).f1)) := (blk_cell BK256.out 1).trans rfl; have hcz82_2 : w81.cell? ⟨gb256, 2, none⟩ = some (.int .i64 ((rd_T37 l0 x32_1).f2)) := (blk_cell BK256.out 2).trans rfl; have hcz82_3 : w81.cell? ⟨gb256, 3, none⟩ = some (.int .i64 ((rd_T37 l0 x32_1).f3)) := (blk_cell BK256.out 3).trans rfl; have hfz82_0 := blk_frozen BK256.out 0; have hfz82_1 := blk_frozen BK256.out 1; have hfz82_2 := blk_frozen BK256.out 2; have hfz82_3 := blk_frozen BK256.out 3; obtain ⟨Ao83, co83, eo83⟩ := Kd.R_slice HO_9.out; subst eo83; have p268 : 0 ≤ (x11_1 : Int) := oda; have q268 : x11_1 < (t249.length : Int) := oda; obtain ⟨ad268, e268, hx268_0⟩ := Kd.at_int (Kd.R_reads' HO_9.out).2.2 x11_1 p268 q268; cases e268; replace p268 := eq_true p268; replace q268 := eq_true q268; have p78 : 0 ≤ (x32_1 : Int) := oda; have q78 : (x32_1 : Int) < ((x10_1.length : Int) : Int) := oda; obtain ⟨go78, co78, eo78, gb78, gl78, cl78, HG78⟩ := Kd.R_form HO_10.out (by omega); (first | cases eo78 | (injection eo78 with ea_ en_ ec_; (first | subst ea_ | (injection ea_ with ea_; subst ea_)); subst ec_; clear en_)); have GB78 := Aside0.mk gb78; have GG78 := Aside0.mk HG78; clear gb78 gl78 HG78; obtain ⟨hx78_0, hf78_0⟩ := Kd.R_celln 0 HO_10.out (x32_1 : Int) p78 q78; replace p78 := eq_true p78; replace q78 := eq_true q78; obtain ⟨hy84_, hz84_⟩ := Kd.R_celln 0 HO_10.out (x32_1 : Int) (oda) (oda); have HP84 := Kd.R_putg HO_10.out (x32_1 : Int) (rd t249 x11_1)) | ((with_reducible refine gate_store (t := 3) (p := 45) rfl ?_); refine store_event (t := 3) (p := 45) (v := ?vo_w85) (w1 := (w81.setCell ⟨go78, (x32_1 : Int).toNat, none⟩ (.int .i64 (rd t249 x11_1)))) ?hg ?ho ?hn ?hr ?_; (case ho => rfl); (case hg => rfl); (case hn => rfl); (case hr => first | (go_simp; done) | (go_simp; rfl)); intro w85 hw; have hg : w81.grownBy w85 (some go78) := (by rw [hw]; exact HP84.2); have hp_ : Kd.R (Kd.int .i64) 3 w85 w.heap.size (fun k_ => some k_ ≠ (.slice (some ad268) t249.length co83 : Value).ownBlock) (.slice (some ⟨go78, 0, none⟩) x10_1.length co78) y269 := (by rw [hw, Ny269.out]; exact HP84.1); clear HP84; have n0_ := Aside0.mk (Kd.R_after (v := (.slice (some ⟨go78, 0, none⟩) x10_1.length co78)) (v1 := (.slice (some ⟨go78, 0, none⟩) x10_1.length co78)) (ok := (fun _ => True)) (by (with_reducible repeat (first | apply Kd.R_alloc | apply Kd.R_drewN | apply Kd.R_drew)); exact Kd.R_mono HO_9.out (fun _ hk => ⟨trivial, hk⟩)) hg (.inl rfl)); have n1_ := Aside0.mk (hp_); have n2_ := Aside0.mk (blk_grown (g := gb256) (o := .cells #[.int .i64 ((rd_T37 l0 x32_1).f0), .int .i64 ((rd_T37 l0 x32_1).f1), .int .i64 ((rd_T37 l0 x32_1).f2), .int .i64 ((rd_T37 l0 x32_1).f3)] 37 (0, 0)) (bvK BK256.out) hg (Kd.R_ne HO_10.out BK256.out (by decide))); have n3_ := Aside0.mk ((by rw [hw]; exact below_set (HB.out) GB78.out : Below w.heap.size w w85)); clear HO_9; clear HO_10; clear BK256; clear HB; have HO_9 := n0_; have HO_10 := n1_; have BK256 := n2_; have HB := n3_; clear n0_ n1_ n2_ n3_; clear hg hw hp_))
                go_roundg k1
                case measure => have := HK1.out; omega
                case rel => exact ⟨(y269), (wrap64 (x11_1 + 1)), (wrap64 (x32_1 + 1)), rsd, rsd, H', ⟨by have := HK1.out; omega⟩, ⟨by (with_reducible repeat (first | apply Kd.R_alloc | apply Kd.R_drewN | apply Kd.R_drew)); exact Kd.R_mono HO_9.out (fun _ hk => hk.2)⟩, ⟨rvR HO_10.out⟩, ⟨by repeat (first | (with_reducible first | exact HB.out | apply bwA | apply bwN | apply bwD | refine below_set ?_ GE256.out) | exact HB.out)⟩⟩
               ·rw [if_neg c77] at H
                exact absurd H (by simp)
              ·rw [if_neg c76] at H
               exact absurd H (by simp)
             ·rw [if_neg c75] at H
              exact absurd H (by simp)
       ·rw [if_neg c15] at H
        exact absurd H (by simp)
      ·rw [if_neg c14] at H
       exact absurd H (by simp)
     ·rw [if_neg c13] at H
      have c13b0 : decide (x32_1 < (l0.length : Int)) = false := decide_eq_false c13
      clear c13
      obtain rfl := Option.some.inj H
      go_wp2
      go_ret
      exact ⟨_, ers, by (with_reducible repeat (first | apply Kd.R_alloc | apply Kd.R_drewN | apply Kd.R_drew)); exact Kd.R_mono HO_10.out (fun _ hk => trivial), by repeat (first | (with_reducible first | exact HB.out | apply bwA | apply bwN | apply bwD) | exact HB.out)⟩
  ·rw [if_neg c7] at H
   exact absurd H (by simp)
 ·rw [if_neg c6] at H
  exact absurd H (by simp)

/-! ### impl_GuessNext: function 15 -/
def impl_GuessNext.f (k : Nat) (l0 : List (S37)) (a1 : Int) (a2 : Int) (a3 : Int) : Option (Bool) := (impl_GuessCount.f k l0 a1).bind fun t270 => ((impl_in.f a2 0 (wrap64 (t270 - 1))).bind fun t271 => (if t271 = true then ((impl_in.f a3 0 (wrap64 (t270 - 1))).bind fun t272 => (if t272 = true then ((impl_truths.f k l0 a1 a2).bind fun t273 => ((impl_truths.f k l0 a1 a3).bind fun t276 => ((impl_behindOk.f k l0 t273 t276).bind fun t279 => (some t279)))) else (some false))) else (some false)))
theorem impl_GuessNext.mono : ∀ a0 a1 a2 a3 k, LeO (impl_GuessNext.f k a0 a1 a2 a3) (impl_GuessNext.f (k + 1) a0 a1 a2 a3) := by
 intro a0 a1 a2 a3 k
 unfold impl_GuessNext.f
 repeat' first
   | (with_reducible exact impl_GuessCount.mono _ _ _)
   | (with_reducible exact impl_behindOk.mono _ _ _ _)
   | (with_reducible exact impl_truths.mono _ _ _ _)
   | (with_reducible exact LeO.refl _)
   | (with_reducible exact LeO.none _)
   | (with_reducible refine LeO.ite ?_ ?_)
   | (with_reducible refine LeO.bind ?_ (fun _ => ?_))
   | exact impl_GuessCount.mono _ _ _
   | exact impl_behindOk.mono _ _ _ _
   | exact impl_truths.mono _ _ _ _
   | exact LeO.none _
   | refine LeO.ite ?_ ?_
   | refine LeO.bind ?_ (fun _ => ?_)
set_option maxHeartbeats 8000000 in
set_option maxRecDepth 100000 in
theorem impl_GuessNext.calls (k : Nat) (A0 : Option Addr) (c0 : Nat) (l0 : List (S37)) (a1 : Int) (a2 : Int) (a3 : Int) (r : Bool) (w : World) (hr0 : Kd.C k37 w A0 l0.length l0) (hc0 : l0.length ≤ c0) (h : impl_GuessNext.f k l0 a1 a2 a3 = some r) :
  Calls Try.prog 15 #[.slice A0 l0.length c0, .int .i64 a1, .int .i64 a2, .int .i64 a3] w fun e w' => e = .returned (.bool r) ∧ Below w.heap.size w w' := by
 have HR0 := Aside0.mk hr0
 have HC0 := Aside0.mk hc0
 clear hr0 hc0
 have HB := Aside0.mk (Below.refl w.heap.size w)
 have H : ((impl_GuessCount.f k l0 a1).bind fun t270 => ((impl_in.f a2 0 (wrap64 (t270 - 1))).bind fun t271 => (if t271 = true then ((impl_in.f a3 0 (wrap64 (t270 - 1))).bind fun t272 => (if t272 = true then ((impl_truths.f k l0 a1 a2).bind fun t273 => ((impl_truths.f k l0 a1 a3).bind fun t276 => ((impl_behindOk.f k l0 t273 t276).bind fun t279 => (some t279)))) else (some false))) else (some false)))) = some r := h
 clear h
 replace H := Option.bind_eq_some_iff.mp H
 obtain ⟨t270, A50, H⟩ := H
 replace H : ((impl_in.f a2 0 (wrap64 (t270 - 1))).bind fun t271 => (if t271 = true then ((impl_in.f a3 0 (wrap64 (t270 - 1))).bind fun t272 => (if t272 = true then ((impl_truths.f k l0 a1 a2).bind fun t273 => ((impl_truths.f k l0 a1 a3).bind fun t276 => ((impl_behindOk.f k l0 t273 t276).bind fun t279 => (some t279)))) else (some false))) else (some false))) = some r := H
 have A5 := Aside0.mk A50
 clear A50
 replace H := Option.bind_eq_some_iff.mp H
 obtain ⟨t271, A60, H⟩ := H
 replace H : (if t271 = true then ((impl_in.f a3 0 (wrap64 (t270 - 1))).bind fun t272 => (if t272 = true then ((impl_truths.f k l0 a1 a2).bind fun t273 => ((impl_truths.f k l0 a1 a3).bind fun t276 => ((impl_behindOk.f k l0 t273 t276).bind fun t279 => (some t279)))) else (some false))) else (some false)) = some r := H
 have A6 := Aside0.mk A60
 clear A60
 by_cases c7 : t271 = true
 ·subst c7
  have H1 : ((impl_in.f a3 0 (wrap64 (t270 - 1))).bind fun t272 => (if t272 = true then ((impl_truths.f k l0 a1 a2).bind fun t273 => ((impl_truths.f k l0 a1 a3).bind fun t276 => ((impl_behindOk.f k l0 t273 t276).bind fun t279 => (some t279)))) else (some false))) = some r := by rw [if_pos rfl] at H; exact H
  clear H
  have H := H1
  clear H1
  replace H := Option.bind_eq_some_iff.mp H
  obtain ⟨t272, A80, H⟩ := H
  replace H : (if t272 = true then ((impl_truths.f k l0 a1 a2).bind fun t273 => ((impl_truths.f k l0 a1 a3).bind fun t276 => ((impl_behindOk.f k l0 t273 t276).bind fun t279 => (some t279)))) else (some false)) = some r := H
  have A8 := Aside0.mk A80
  clear A80
  by_cases c9 : t272 = true
  ·subst c9
   have H1 : ((impl_truths.f k l0 a1 a2).bind fun t273 => ((impl_truths.f k l0 a1 a3).bind fun t276 => ((impl_behindOk.f k l0 t273 t276).bind fun t279 => (some t279)))) = some r := by rw [if_pos rfl] at H; exact H
   clear H
   have H := H1
   clear H1
   replace H := Option.bind_eq_some_iff.mp H
   obtain ⟨t273, A100, H⟩ := H
   replace H : ((impl_truths.f k l0 a1 a3).bind fun t276 => ((impl_behindOk.f k l0 t273 t276).bind fun t279 => (some t279))) = some r := H
   have A10 := Aside0.mk A100
   clear A100
   replace H := Option.bind_eq_some_iff.mp H
   obtain ⟨t276, A110, H⟩ := H
   replace H : ((impl_behindOk.f k l0 t273 t276).bind fun t279 => (some t279)) = some r := H
   have A11 := Aside0.mk A110
   clear A110
   replace H := Option.bind_eq_some_iff.mp H
   obtain ⟨t279, A120, H⟩ := H
   replace H : (some t279) = some r := H
   have A12 := Aside0.mk A120
   clear A120
   obtain rfl := Option.some.inj H
   go_enter Try.func15, Try.ntmps15
   go_wp2_with (first | ((with_reducible refine gate_callee (f := 29) rfl ?_); refine goesL_ (some 12) rfl rfl Try.func29 (by kernel_rfl) rfl #[.slice A0 l0.length c0, .int .i64 a1] rfl lmB ?_; (with_reducible refine (impl_GuessCount.calls k _ _ l0 a1 t270 _ ?side1 ?side2 A5.out).mono ?_); (case side1 => repeat (first | exact HR0.out | (with_reducible refine Kd.C_alloc ?_ _) | (with_reducible refine Kd.C_drewN ?_ _) | (with_reducible refine Kd.C_drew ?_))); (case side2 => exact HC0.out); rintro e w13 ⟨rfl, hb⟩; refine ⟨_, rfl, ?_⟩; have n0_ := Aside0.mk (below_step (by repeat (first | (with_reducible first | exact HB.out | apply bwA | apply bwN | apply bwD) | exact HB.out)) hb); clear HB; have HB := n0_; clear n0_; (try clear hb); (try clear hb2); (try clear hk); (try clear hi)) | ((with_reducible refine gate_callee (f := 52) rfl ?_); refine goesL_ (some 16) rfl rfl Try.func52 (by kernel_rfl) rfl #[.int .i64 a2, .int .i64 0, .int .i64 (wrap64 (t270 - 1))] rfl lmB ?_; (with_reducible refine (impl_in.calls a2 0 (wrap64 (t270 - 1)) true _ A6.out).mono ?_); rintro e w' ⟨rfl, ⟨nd, rfl⟩⟩; refine ⟨_, rfl, ?_⟩) | (go_at_call 52; (with_reducible refine (impl_in.calls a3 0 (wrap64 (t270 - 1)) true _ A8.out).mono ?_); rintro e w' ⟨rfl, ⟨nd, rfl⟩⟩) | (go_at_call 54; (with_reducible refine (impl_truths.calls k _ _ l0 a1 a2 t273 _ ?side1 ?side2 A10.out).mono ?_); (case side1 => repeat (first | exact (Kd.C_below HR0.out (by repeat (first | (with_reducible first | exact HB.out | apply bwA | apply bwN | apply bwD) | exact HB.out))) | (with_reducible refine Kd.C_alloc ?_ _) | (with_reducible refine Kd.C_drewN ?_ _) | (with_reducible refine Kd.C_drew ?_))); (case side2 => exact HC0.out); rintro e w14 ⟨v274, rfl, ho0, hb⟩; have n0_ := Aside0.mk (Kd.R_lower ho0 (below_size (by repeat (first | (with_reducible first | exact HB.out | apply bwA | apply bwN | apply bwD) | exact HB.out)))); have n1_ := Aside0.mk (below_step (by repeat (first | (with_reducible first | exact HB.out | apply bwA | apply bwN | apply bwD) | exact HB.out)) hb); clear HB; have HO275 := n0_; have HB := n1_; clear n0_ n1_; (try clear hb); (try clear hb2); (try clear hk); (try clear hi); (try clear ho0)) | (go_at_call 54; (with_reducible refine (impl_truths.calls k _ _ l0 a1 a3 t276 _ ?side1 ?side2 A11.out).mono ?_); (case side1 => repeat (first | exact (Kd.C_below HR0.out HB.out) | (with_reducible refine Kd.C_alloc ?_ _) | (with_reducible refine Kd.C_drewN ?_ _) | (with_reducible refine Kd.C_drew ?_))); (case side2 => exact HC0.out); rintro e w15 ⟨v277, rfl, ho0, hb⟩; have n0_ := Aside0.mk (Kd.R_elder' (rvR HO275.out) (Kd.R_base ho0) hb); have n1_ := Aside0.mk (Kd.R_lower (Kd.R_new' ho0 (Kd.R_lt (rvR HO275.out))) (below_size (by repeat (first | (with_reducible first | exact HB.out | apply bwA | apply bwN | apply bwD) | exact HB.out)))); have n2_ := Aside0.mk (below_step (by repeat (first | (with_reducible first | exact HB.out | apply bwA | apply bwN | apply bwD) | exact HB.out)) hb); clear HO275; clear HB; have HO275 := n0_; have HO278 := n1_; have HB := n2_; clear n0_ n1_ n2_; (try clear hb); (try clear hb2); (try clear hk); (try clear hi); (try clear ho0); obtain ⟨Ao16, co16, eo16⟩ := Kd.R_slice HO275.out; subst eo16; obtain ⟨Ao17, co17, eo17⟩ := Kd.R_slice HO278.out; subst eo17) | (go_at_call 53; (with_reducible refine (impl_behindOk.calls k _ _ l0 _ _ t273 _ _ t276 t279 _ ?side1 ?side2 ?side3 ?side4 ?side5 ?side6 A12.out).mono ?_); (case side1 => repeat (first | exact (Kd.C_below HR0.out HB.out) | (with_reducible refine Kd.C_alloc ?_ _) | (with_reducible refine Kd.C_drewN ?_ _) | (with_reducible refine Kd.C_drew ?_))); (case side2 => exact HC0.out); (case side3 => repeat (first | exact (Kd.R_reads' HO275.out).2.2 | (with_reducible refine Kd.C_alloc ?_ _) | (with_reducible refine Kd.C_drewN ?_ _) | (with_reducible refine Kd.C_drew ?_))); (case side4 => exact (Kd.R_reads' HO275.out).2.1); (case side5 => repeat (first | exact (Kd.R_reads' HO278.out).2.2 | (with_reducible refine Kd.C_alloc ?_ _) | (with_reducible refine Kd.C_drewN ?_ _) | (with_reducible refine Kd.C_drew ?_))); (case side6 => exact (Kd.R_reads' HO278.out).2.1); rintro e w18 ⟨rfl, hb⟩; have n0_ := Aside0.mk (Kd.R_below (rvR HO275.out) hb); have n1_ := Aside0.mk (Kd.R_below (rvR HO278.out) hb); have n2_ := Aside0.mk (below_step (by repeat (first | (with_reducible first | exact HB.out | apply bwA | apply bwN | apply bwD) | exact HB.out)) hb); clear HO275; clear HO278; clear HB; have HO275 := n0_; have HO278 := n1_; have HB := n2_; clear n0_ n1_ n2_; (try clear hb); (try clear hb2); (try clear hk); (try clear hi)))
   go_ret
   exact ⟨ers, by repeat (first | (with_reducible first | exact HB.out | apply bwA | apply bwN | apply bwD) | exact HB.out)⟩
  ·replace c9 := Bool.eq_false_iff.mpr c9
   subst c9
   have H1 : (some false) = some r := by rw [if_neg (show ¬ (false = true) by decide)] at H; exact H
   clear H
   have H := H1
   clear H1
   obtain rfl := Option.some.inj H
   go_enter Try.func15, Try.ntmps15
   go_wp2_with (first | ((with_reducible refine gate_callee (f := 29) rfl ?_); refine goesL_ (some 12) rfl rfl Try.func29 (by kernel_rfl) rfl #[.slice A0 l0.length c0, .int .i64 a1] rfl lmB ?_; (with_reducible refine (impl_GuessCount.calls k _ _ l0 a1 t270 _ ?side1 ?side2 A5.out).mono ?_); (case side1 => repeat (first | exact HR0.out | (with_reducible refine Kd.C_alloc ?_ _) | (with_reducible refine Kd.C_drewN ?_ _) | (with_reducible refine Kd.C_drew ?_))); (case side2 => exact HC0.out); rintro e w19 ⟨rfl, hb⟩; refine ⟨_, rfl, ?_⟩; have n0_ := Aside0.mk (below_step (by repeat (first | (with_reducible first | exact HB.out | apply bwA | apply bwN | apply bwD) | exact HB.out)) hb); clear HB; have HB := n0_; clear n0_; (try clear hb); (try clear hb2); (try clear hk); (try clear hi)) | ((with_reducible refine gate_callee (f := 52) rfl ?_); refine goesL_ (some 16) rfl rfl Try.func52 (by kernel_rfl) rfl #[.int .i64 a2, .int .i64 0, .int .i64 (wrap64 (t270 - 1))] rfl lmB ?_; (with_reducible refine (impl_in.calls a2 0 (wrap64 (t270 - 1)) true _ A6.out).mono ?_); rintro e w' ⟨rfl, ⟨nd, rfl⟩⟩; refine ⟨_, rfl, ?_⟩) | (go_at_call 52; (with_reducible refine (impl_in.calls a3 0 (wrap64 (t270 - 1)) false _ A8.out).mono ?_); rintro e w' ⟨rfl, ⟨nd, rfl⟩⟩))
   go_ret
   exact ⟨ers, by repeat (first | (with_reducible first | exact HB.out | apply bwA | apply bwN | apply bwD) | exact HB.out)⟩
 ·replace c7 := Bool.eq_false_iff.mpr c7
  subst c7
  have H1 : (some false) = some r := by rw [if_neg (show ¬ (false = true) by decide)] at H; exact H
  clear H
  have H := H1
  clear H1
  obtain rfl := Option.some.inj H
  go_enter Try.func15, Try.ntmps15
  go_wp2_with (first | ((with_reducible refine gate_callee (f := 29) rfl ?_); refine goesL_ (some 12) rfl rfl Try.func29 (by kernel_rfl) rfl #[.slice A0 l0.length c0, .int .i64 a1] rfl lmB ?_; (with_reducible refine (impl_GuessCount.calls k _ _ l0 a1 t270 _ ?side1 ?side2 A5.out).mono ?_); (case side1 => repeat (first | exact HR0.out | (with_reducible refine Kd.C_alloc ?_ _) | (with_reducible refine Kd.C_drewN ?_ _) | (with_reducible refine Kd.C_drew ?_))); (case side2 => exact HC0.out); rintro e w20 ⟨rfl, hb⟩; refine ⟨_, rfl, ?_⟩; have n0_ := Aside0.mk (below_step (by repeat (first | (with_reducible first | exact HB.out | apply bwA | apply bwN | apply bwD) | exact HB.out)) hb); clear HB; have HB := n0_; clear n0_; (try clear hb); (try clear hb2); (try clear hk); (try clear hi)) | ((with_reducible refine gate_callee (f := 52) rfl ?_); refine goesL_ (some 16) rfl rfl Try.func52 (by kernel_rfl) rfl #[.int .i64 a2, .int .i64 0, .int .i64 (wrap64 (t270 - 1))] rfl lmB ?_; (with_reducible refine (impl_in.calls a2 0 (wrap64 (t270 - 1)) false _ A6.out).mono ?_); rintro e w' ⟨rfl, ⟨nd, rfl⟩⟩; refine ⟨_, rfl, ?_⟩))
  go_ret
  exact ⟨ers, by repeat (first | (with_reducible first | exact HB.out | apply bwA | apply bwN | apply bwD) | exact HB.out)⟩

end Go.Proofs.Ytdigdhckbhlkmaa.QFnGuessNext
