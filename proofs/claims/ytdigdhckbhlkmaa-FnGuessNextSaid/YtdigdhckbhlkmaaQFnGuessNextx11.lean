-- Written by a program of this session (mk.py). Lean checks it.
import Derived.Test.YtdigdhckbhlkmaaQFnGuessNextx0
import Derived.Test.YtdigdhckbhlkmaaQFnGuessNextx4
import Derived.Test.YtdigdhckbhlkmaaQFnGuessNextx5
import Derived.Test.YtdigdhckbhlkmaaQFnGuessNextx7
namespace Go.Proofs.Ytdigdhckbhlkmaa.QFnGuessNext
open Go.RowKit Go.Proofs.YtdigdhckbhlkmaaW.PrintWords Go.Proofs.YtdigdhckbhlkmaaW.PrintLast Go.Proofs.YtdigdhckbhlkmaaW.PrintMore
attribute [local go_sem] max2_int min2_int max_two min_two max_three min_three max_four min_four   -- for this text's walks alone
set_option linter.unusedVariables false
set_option linter.unusedSimpArgs false

/-! ### impl_keeps: function 60 -/
def impl_keeps.l0 : Nat → List Int → List Int → List (S37) → Int → Int → Option (List Int)
 | 0, _, _, _, _, _ => none
 | k + 1, x1, x5, x8, x9, x10 => if x10 < x9 then (if 0 ≤ x10 then (if x10 < (x8.length : Int) then (if ((rd_T37 x8 x10).f0) = 6 then (if x10 < (x1.length : Int) then (if 0 ≤ ((rd_T37 x8 x10).f3) then (if ((rd_T37 x8 x10).f3) < (x1.length : Int) then (if x5.length < 17592186044416 then (impl_keeps.l0 k x1 (x5 ++ [Go.bits .or .i64 (wrap64 (1 - (rd x1 x10))) (rd x1 ((rd_T37 x8 x10).f3))]) x8 x9 (wrap64 (x10 + 1))) else (none)) else (none)) else (none)) else (none)) else (if ((rd_T37 x8 x10).f0) = 7 then (if x10 < (x1.length : Int) then (if 0 ≤ ((rd_T37 x8 x10).f3) then (if ((rd_T37 x8 x10).f3) < (x1.length : Int) then (if x5.length < 17592186044416 then (impl_keeps.l0 k x1 (x5 ++ [Go.bits .or .i64 (rd x1 x10) (wrap64 (1 - (rd x1 ((rd_T37 x8 x10).f3))))]) x8 x9 (wrap64 (x10 + 1))) else (none)) else (none)) else (none)) else (none)) else (impl_keeps.l0 k x1 x5 x8 x9 (wrap64 (x10 + 1))))) else (none)) else (none)) else ((impl_clone_int.f x5).bind fun t416 => (some t416))
def impl_keeps.f (k : Nat) (l0 : List (S37)) (l1 : List Int) : Option (List Int) := impl_keeps.l0 k l1 ([] : List Int) l0 (l0.length : Int) 0
theorem impl_keeps.mono_l : ∀ k, (∀ y0 y1 y2 y3 y4, LeO (impl_keeps.l0 k y0 y1 y2 y3 y4) (impl_keeps.l0 (k + 1) y0 y1 y2 y3 y4))
 | 0 => fun _ _ _ _ _ r h => by simp [impl_keeps.l0] at h
 | k + 1 => by
  have ih0 := impl_keeps.mono_l k
  ·intro y0 y1 y2 y3 y4
   unfold impl_keeps.l0
   repeat' first
   | (with_reducible exact ih0 _ _ _ _ _)
   | (with_reducible exact LeO.refl _)
   | (with_reducible exact LeO.none _)
   | (with_reducible refine LeO.ite ?_ ?_)
   | (with_reducible refine LeO.bind ?_ (fun _ => ?_))
   | exact ih0 _ _ _ _ _
   | exact LeO.none _
   | refine LeO.ite ?_ ?_
   | refine LeO.bind ?_ (fun _ => ?_)
theorem impl_keeps.mono : ∀ a0 a1 k, LeO (impl_keeps.f k a0 a1) (impl_keeps.f (k + 1) a0 a1) := by
 intro a0 a1 k
 have ih0 := impl_keeps.mono_l k
 unfold impl_keeps.f
 repeat' first
   | (with_reducible exact ih0 _ _ _ _ _)
   | (with_reducible exact LeO.refl _)
   | (with_reducible exact LeO.none _)
   | (with_reducible refine LeO.ite ?_ ?_)
   | (with_reducible refine LeO.bind ?_ (fun _ => ?_))
   | exact ih0 _ _ _ _ _
   | exact LeO.none _
   | refine LeO.ite ?_ ?_
   | refine LeO.bind ?_ (fun _ => ?_)
def impl_keeps.T7 : Bool × List (List Nat × List Nat) := (true, [([], []), ([], []), ([], []), ([1, 2], [1, 2]), ([3], [3]), ([4], [4]), ([], []), ([], []), ([7], [7]), ([6, 8], [6, 8]), ([9], [9]), ([5, 10], [5, 10]), ([11], [11]), ([0, 12], [0, 12]), ([13, 13, 0, 1, 2, 3, 4, 5, 6, 7, 8, 9, 10, 11, 12, 13], [0, 13])])
def impl_keeps.B7 : List Nat := [0, 0, 0, 6, 14, 30, 0, 0, 128, 448, 960, 2046, 4094, 8191, 16383]
theorem impl_keeps.tab7 : rtab .any (opsOf Try.f60 7) = impl_keeps.T7 := by kernel_rfl
theorem impl_keeps.bits7 : waitsOk impl_keeps.T7.2 impl_keeps.B7 = true := by kernel_rfl
def impl_keeps.T9 : Bool × List (List Nat × List Nat) := (true, [([], []), ([], []), ([], []), ([1, 2], [1, 2]), ([3], [3]), ([], []), ([], []), ([6], [6]), ([5, 7], [5, 7]), ([8], [8]), ([9], [9]), ([4, 10], [4, 10]), ([11], [11]), ([0, 12], [0, 12]), ([13, 13, 0, 1, 2, 3, 4, 5, 6, 7, 8, 9, 10, 11, 12, 13], [0, 13])])
def impl_keeps.B9 : List Nat := [0, 0, 0, 6, 14, 0, 0, 64, 224, 480, 992, 2046, 4094, 8191, 16383]
theorem impl_keeps.tab9 : rtab .any (opsOf Try.f60 9) = impl_keeps.T9 := by kernel_rfl
theorem impl_keeps.bits9 : waitsOk impl_keeps.T9.2 impl_keeps.B9 = true := by kernel_rfl
set_option maxHeartbeats 8000000 in
set_option maxRecDepth 100000 in
theorem impl_keeps.calls (k : Nat) (A0 : Option Addr) (c0 : Nat) (l0 : List (S37)) (A1 : Option Addr) (c1 : Nat) (l1 : List Int) (r : List Int) (w : World) (hr0 : Kd.C k37 w A0 l0.length l0) (hc0 : l0.length ≤ c0) (hr1 : Kd.C (Kd.int .i64) w A1 l1.length l1) (hc1 : l1.length ≤ c1) (h : impl_keeps.f k l0 l1 = some r) :
  Calls Try.prog 60 #[.slice A0 l0.length c0, .slice A1 l1.length c1] w fun e w' => ∃ v0_ : Value, e = .returned (v0_) ∧ Kd.R (Kd.int .i64) 3 w' w.heap.size (fun _ => True) v0_ r ∧ Below w.heap.size w w' := by
 have hu37 := Try.underlying37
 have HR0 := Aside0.mk hr0
 have HC0 := Aside0.mk hc0
 clear hr0 hc0
 have HR1 := Aside0.mk hr1
 have HC1 := Aside0.mk hc1
 clear hr1 hc1
 have HB := Aside0.mk (Below.refl w.heap.size w)
 have H : (impl_keeps.l0 k l1 ([] : List Int) l0 (l0.length : Int) 0) = some r := h
 clear h
 have H' := Aside0.mk H
 clear H
 go_enter Try.func60, Try.ntmps60
 go_wp2
 go_loopg [5, 10] k (fun kq v5 v10 w' => ∃ (x5_1 : List Int) (x10_1 : Int), v10 = .int .i64 x10_1 ∧ Aside0 (impl_keeps.l0 kq l1 x5_1 l0 (l0.length : Int) x10_1 = some r) ∧ Aside0 (kq ≤ k) ∧ Aside0 (Kd.R (Kd.int .i64) 3 w' w.heap.size (fun _ => True) v5 x5_1) ∧ Aside0 (Below w.heap.size w w'))
 case atStart => exact ⟨(([] : List Int)), (0), rsd, H', ⟨Nat.le_refl _⟩, ⟨by first | exact Kd.R_nil _ _ _ _ _ | exact Kd.N_nil _ _ _ _ _ | exact Kd.V_nil _ _ _ _ _ | exact Kd.Q_nil _ _ _ _ _ | exact Kd.S_nil _ _ _ _ _⟩, ⟨by repeat (first | (with_reducible first | exact HB.out | apply bwA | apply bwN | apply bwD) | exact HB.out)⟩⟩
 case round =>
  clear H'
  try clear c1
  try clear p2
  obtain ⟨x5_1, x10_1, rfl, HA, HK1, HO_5, HB⟩ := hrel
  cases gk with
  | zero => exact absurd HA.out (by simp [impl_keeps.l0])
  | succ k1 =>
   have H := HA.out
   clear HA
   simp only [impl_keeps.l0] at H
   by_cases c3 : x10_1 < (l0.length : Int)
   ·rw [if_pos c3] at H
    have c3b0 : decide (x10_1 < (l0.length : Int)) = true := decide_eq_true c3
    clear c3
    by_cases c4 : 0 ≤ x10_1
    ·rw [if_pos c4] at H
     have c4b0 : decide (0 ≤ x10_1) = true := decide_eq_true c4
     clear c4
     by_cases c5 : x10_1 < (l0.length : Int)
     ·rw [if_pos c5] at H
      have c5b0 : decide (x10_1 < (l0.length : Int)) = true := decide_eq_true c5
      clear c5
      by_cases c6 : ((rd_T37 l0 x10_1).f0) = 6
      ·rw [if_pos c6] at H
       have c6b0 : (((rd_T37 l0 x10_1).f0) == 6) = true := beq_iff_eq.mpr c6
       have c6b1 : (((rd_T37 l0 x10_1).f0) != 6) = false := bne_eq_false_iff_eq.mpr c6
       clear c6
       by_cases c7 : x10_1 < (l1.length : Int)
       ·rw [if_pos c7] at H
        have c7b0 : decide (x10_1 < (l1.length : Int)) = true := decide_eq_true c7
        clear c7
        by_cases c8 : 0 ≤ ((rd_T37 l0 x10_1).f3)
        ·rw [if_pos c8] at H
         have c8b0 : decide (0 ≤ ((rd_T37 l0 x10_1).f3)) = true := decide_eq_true c8
         clear c8
         by_cases c9 : ((rd_T37 l0 x10_1).f3) < (l1.length : Int)
         ·rw [if_pos c9] at H
          have c9b0 : decide (((rd_T37 l0 x10_1).f3) < (l1.length : Int)) = true := decide_eq_true c9
          clear c9
          by_cases c10 : x5_1.length < 17592186044416
          ·rw [if_pos c10] at H
           have LMc10 := Aside0.mk c10
           clear c10
           obtain ⟨y423, hy423⟩ : ∃ y_ : List Int, y_ = (x5_1 ++ [Go.bits .or .i64 (wrap64 (1 - (rd l1 x10_1))) (rd l1 ((rd_T37 l0 x10_1).f3))]) := ⟨_, rfl⟩
           replace H : (impl_keeps.l0 k1 l1 y423 l0 (l0.length : Int) (wrap64 (x10_1 + 1))) = some r := by first | (rw [hy423]; with_reducible exact H) | (have H2_ := (Option.bind_some _ _).symm.trans H; rw [hy423]; with_reducible exact H2_) | (have H2_ := (Option.bind_some _ _).symm.trans H; with_reducible exact H2_) | with_reducible exact H | (rw [hy423]; exact H) | exact H
           have Ny423 := Aside0.mk hy423
           clear hy423
           have H' := Aside0.mk H
           clear H
           have p419 : 0 ≤ (x10_1 : Int) := oda
           have q419 : x10_1 < (l0.length : Int) := oda
           obtain ⟨ad419, e419, hx419_0, hx419_1, hx419_2, hx419_3⟩ := at_T37 HR0.out x10_1 p419 q419
           cases e419
           try replace hx419_0 := bct HB.out hx419_0
           try replace hx419_1 := bct HB.out hx419_1
           try replace hx419_2 := bct HB.out hx419_2
           try replace hx419_3 := bct HB.out hx419_3
           replace p419 := eq_true p419
           replace q419 := eq_true q419
           try go_wp2_with (first | ((with_reducible refine gate_dst (N := 7) rfl ?_); refine box_event ?hg (N := 7) ?hd (cs := #[.int .i64 0, .int .i64 0, .int .i64 0, .int .i64 0]) (t := 37) ?hr ?_; (case hd => rfl); (case hg => rfl); (case hr => first | (go_simp; done) | (go_simp; rfl)); intro gb420 hg w11 hbox hb; have n0_ := Aside0.mk (Kd.R_below (rvR HO_5.out) hb); have n1_ := Aside0.mk (below_step (by repeat (first | (with_reducible first | exact HB.out | apply bwA | apply bwN | apply bwD) | exact HB.out)) hb); have n2_ := Aside0.mk (hbox); have n3_ := Aside0.mk ((by rw [hg]; exact (below_size (by repeat (first | (with_reducible first | exact HB.out | apply bwA | apply bwN | apply bwD) | exact HB.out))) : w.heap.size ≤ gb420)); have n4_ := Aside0.mk ((by rw [hg]; exact (below_size (by repeat (first | (with_reducible first | exact HB.out | apply bwA | apply bwN | apply bwD) | exact HB.out))) : w.heap.size ≤ gb420)); clear HO_5; clear HB; have HO_5 := n0_; have HB := n1_; have BK420 := n2_; have GW420 := n3_; have GE420 := n4_; clear n0_ n1_ n2_ n3_ n4_; clear hb hbox hg; have hcz12_0 : w11.cell? ⟨gb420, 0, none⟩ = some (.int .i64 0) := (blk_cell BK420.out 0).trans rfl; have hcz12_1 : w11.cell? ⟨gb420, 1, none⟩ = some (.int .i64 0) := (blk_cell BK420.out 1).trans rfl; have hcz12_2 : w11.cell? ⟨gb420, 2, none⟩ = some (.int .i64 0) := (blk_cell BK420.out 2).trans rfl; have hcz12_3 : w11.cell? ⟨gb420, 3, none⟩ = some (.int .i64 0) := (blk_cell BK420.out 3).trans rfl; have hfz12_0 := blk_frozen BK420.out 0; have hfz12_1 := blk_frozen BK420.out 1; have hfz12_2 := blk_frozen BK420.out 2; have hfz12_3 := blk_frozen BK420.out 3))
           have n0_ : Aside0 (Kd.R (Kd.int .i64) 3 ((((w11.setCell ⟨gb420, 0, none⟩ (.int .i64 ((rd_T37 l0 x10_1).f0))).setCell ⟨gb420, 1, none⟩ (.int .i64 ((rd_T37 l0 x10_1).f1))).setCell ⟨gb420, 2, none⟩ (.int .i64 ((rd_T37 l0 x10_1).f2))).setCell ⟨gb420, 3, none⟩ (.int .i64 ((rd_T37 l0 x10_1).f3))) w.heap.size (fun _ => True) u5 x5_1) := ⟨by (with_reducible repeat (first | apply Kd.R_alloc | apply Kd.R_drewN | apply Kd.R_drew)); exact Kd.R_mono (Kd.R_far (p := ⟨gb420, 3, none⟩) (Kd.R_far (p := ⟨gb420, 2, none⟩) (Kd.R_far (p := ⟨gb420, 1, none⟩) (Kd.R_far (p := ⟨gb420, 0, none⟩) (Kd.R_types HO_5.out BK420.out (by decide)) (fun _ hk => hk.2) (.int .i64 ((rd_T37 l0 x10_1).f0))) (fun _ hk => hk.2) (.int .i64 ((rd_T37 l0 x10_1).f1))) (fun _ hk => hk.2) (.int .i64 ((rd_T37 l0 x10_1).f2))) (fun _ hk => hk.2) (.int .i64 ((rd_T37 l0 x10_1).f3))) (fun _ hk => trivial)⟩
           have n1_ : Aside0 (((((w11.setCell ⟨gb420, 0, none⟩ (.int .i64 ((rd_T37 l0 x10_1).f0))).setCell ⟨gb420, 1, none⟩ (.int .i64 ((rd_T37 l0 x10_1).f1))).setCell ⟨gb420, 2, none⟩ (.int .i64 ((rd_T37 l0 x10_1).f2))).setCell ⟨gb420, 3, none⟩ (.int .i64 ((rd_T37 l0 x10_1).f3))).heap[gb420]? = some (.cells #[.int .i64 ((rd_T37 l0 x10_1).f0), .int .i64 ((rd_T37 l0 x10_1).f1), .int .i64 ((rd_T37 l0 x10_1).f2), .int .i64 ((rd_T37 l0 x10_1).f3)] 37 (0, 0))) := ⟨by (with_reducible repeat (first | refine blk_drewN ?_ _ | refine blk_drew ?_ | refine blk_alloc ?_ _)); refine blk_put (cs := #[.int .i64 ((rd_T37 l0 x10_1).f0), .int .i64 ((rd_T37 l0 x10_1).f1), .int .i64 ((rd_T37 l0 x10_1).f2), .int .i64 0]) ?_ 3 _ rfl; (with_reducible repeat (first | refine blk_drewN ?_ _ | refine blk_drew ?_ | refine blk_alloc ?_ _)); refine blk_put (cs := #[.int .i64 ((rd_T37 l0 x10_1).f0), .int .i64 ((rd_T37 l0 x10_1).f1), .int .i64 0, .int .i64 0]) ?_ 2 _ rfl; (with_reducible repeat (first | refine blk_drewN ?_ _ | refine blk_drew ?_ | refine blk_alloc ?_ _)); refine blk_put (cs := #[.int .i64 ((rd_T37 l0 x10_1).f0), .int .i64 0, .int .i64 0, .int .i64 0]) ?_ 1 _ rfl; (with_reducible repeat (first | refine blk_drewN ?_ _ | refine blk_drew ?_ | refine blk_alloc ?_ _)); refine blk_put (cs := #[.int .i64 0, .int .i64 0, .int .i64 0, .int .i64 0]) ?_ 0 _ rfl; (with_reducible repeat (first | refine blk_drewN ?_ _ | refine blk_drew ?_ | refine blk_alloc ?_ _)); exact BK420.out⟩
           have n2_ : Aside0 (Below w.heap.size w ((((w11.setCell ⟨gb420, 0, none⟩ (.int .i64 ((rd_T37 l0 x10_1).f0))).setCell ⟨gb420, 1, none⟩ (.int .i64 ((rd_T37 l0 x10_1).f1))).setCell ⟨gb420, 2, none⟩ (.int .i64 ((rd_T37 l0 x10_1).f2))).setCell ⟨gb420, 3, none⟩ (.int .i64 ((rd_T37 l0 x10_1).f3)))) := ⟨by repeat (first | (with_reducible first | exact HB.out | apply bwA | apply bwN | apply bwD | refine below_set ?_ GE420.out) | exact HB.out)⟩
           (try clear HO_5)
           (try clear BK420)
           (try clear HB)
           generalize ((((w11.setCell ⟨gb420, 0, none⟩ (.int .i64 ((rd_T37 l0 x10_1).f0))).setCell ⟨gb420, 1, none⟩ (.int .i64 ((rd_T37 l0 x10_1).f1))).setCell ⟨gb420, 2, none⟩ (.int .i64 ((rd_T37 l0 x10_1).f2))).setCell ⟨gb420, 3, none⟩ (.int .i64 ((rd_T37 l0 x10_1).f3))) = w13 at n0_ n1_ n2_ ⊢
           have HO_5 := n0_
           have BK420 := n1_
           have HB := n2_
           clear n0_ n1_ n2_
           have n0_ := Aside0.mk (Kd.R_drew HO_5.out)
           have n1_ := Aside0.mk (blk_drew BK420.out)
           have n2_ := Aside0.mk (below_drew1 HB.out)
           clear HO_5
           clear BK420
           clear HB
           have HO_5 := n0_
           have BK420 := n1_
           have HB := n2_
           clear n0_ n1_ n2_
           have p421 : 0 ≤ (x10_1 : Int) := oda
           have q421 : x10_1 < (l1.length : Int) := oda
           obtain ⟨ad421, e421, hx421_0⟩ := Kd.at_int HR1.out x10_1 p421 q421
           have hw421_0 := hx421_0
           cases e421
           try replace hx421_0 := bct HB.out hx421_0
           replace p421 := eq_true p421
           replace q421 := eq_true q421
           have p422 : 0 ≤ (((rd_T37 l0 x10_1).f3) : Int) := oda
           have q422 : ((rd_T37 l0 x10_1).f3) < (l1.length : Int) := oda
           obtain ⟨ad422, e422, hx422_0⟩ := Kd.at_int HR1.out ((rd_T37 l0 x10_1).f3) p422 q422
           have hw422_0 := hx422_0
           obtain rfl : ad421 = ad422 := (by injection e422)
           try replace hx422_0 := bct HB.out hx422_0
           replace p422 := eq_true p422
           replace q422 := eq_true q422
           refine start_ (n := 15) (S := fun w' => w'.cell? ⟨gb420, 0, none⟩ = some (.int .i64 ((rd_T37 l0 x10_1).f0)) ∧ w'.cell? ⟨gb420, 1, none⟩ = some (.int .i64 ((rd_T37 l0 x10_1).f1)) ∧ w'.cell? ⟨gb420, 2, none⟩ = some (.int .i64 ((rd_T37 l0 x10_1).f2)) ∧ w'.cell? ⟨gb420, 3, none⟩ = some (.int .i64 ((rd_T37 l0 x10_1).f3)) ∧ w'.cell? (ad421.add (x10_1).toNat) = some (.int .i64 (rd l1 x10_1)) ∧ w'.cell? (ad421.add (((rd_T37 l0 x10_1).f3)).toNat) = some (.int .i64 (rd l1 ((rd_T37 l0 x10_1).f3)))) (ds := []) #[false, false, false, false, false, false, false, false, false, false, false, false, false, false, false] (by kernel_rfl) rfl rfl ⟨(blk_cell BK420.out 0).trans rfl, (blk_cell BK420.out 1).trans rfl, (blk_cell BK420.out 2).trans rfl, (blk_cell BK420.out 3).trans rfl, ((HB.out.cell (World.block_lt_of_cell? w _ hw421_0)).trans hw421_0), ((HB.out.cell (World.block_lt_of_cell? w _ hw422_0)).trans hw422_0)⟩ (fun hHeld => ?_); refine with_tabW impl_keeps.tab7 impl_keeps.bits7 (fun HT_ HW_ => ?_)
           generalize w13.drew = w14 at HO_5 BK420 HB hx421_0 hx422_0 hHeld ⊢
           refine pure_ (i := 0) (N := some 19) (v := ?_) (a' := ?_) #[true, false, false, false, false, false, false, false, false, false, false, false, false, false, false] rfl rfl (any_of HT_.out (by kernel_rfl)) (fun _ _ _ h => h) (Or.inl ⟨by rfl, ?_⟩) ?_ ?_
           rotate_left
           ·intro w'
            go_simp
            with_reducible rfl
           rotate_left
           ·simp only [Act.put, List.setIfInBounds_toArray, List.set_cons_zero, List.set_cons_succ, i64_w, i32_w]
            rfl
           refine pure_ (i := 1) (N := some 20) (v := ?_) (a' := ?_) #[true, true, false, false, false, false, false, false, false, false, false, false, false, false, false] rfl rfl (any_of HT_.out (by kernel_rfl)) (fun _ _ _ h => h) (Or.inl ⟨by rfl, ?_⟩) ?_ ?_
           rotate_left
           ·intro w'
            go_simp
            with_reducible rfl
           rotate_left
           ·simp only [Act.put, List.setIfInBounds_toArray, List.set_cons_zero, List.set_cons_succ, i64_w, i32_w]
            rfl
           refine pure_ (i := 2) (N := some 21) (v := ?_) (a' := ?_) #[true, true, true, false, false, false, false, false, false, false, false, false, false, false, false] rfl rfl (any_of HT_.out (by kernel_rfl)) (fun _ _ _ h => h) (Or.inl ⟨by rfl, ?_⟩) ?_ ?_
           rotate_left
           ·intro w'
            go_simp
            with_reducible rfl
           rotate_left
           ·simp only [Act.put, List.setIfInBounds_toArray, List.set_cons_zero, List.set_cons_succ, i64_w, i32_w]
            rfl
           refine pure_ (i := 3) (N := some 22) (v := ?_) (a' := ?_) #[true, true, true, true, false, false, false, false, false, false, false, false, false, false, false] rfl rfl (any_of HT_.out (by kernel_rfl)) (fun _ _ _ h => h) (Or.inl ⟨by rfl, ?_⟩) ?_ ?_
           rotate_left
           ·intro w'
            go_simp
            with_reducible rfl
           rotate_left
           ·simp only [Act.put, List.setIfInBounds_toArray, List.set_cons_zero, List.set_cons_succ, i64_w, i32_w]
            rfl
           refine pure_ (i := 6) (N := some 25) (v := ?_) (a' := ?_) #[true, true, true, true, false, false, true, false, false, false, false, false, false, false, false] rfl rfl (any_of HT_.out (by kernel_rfl)) (fun _ _ _ h => h) (Or.inl ⟨by rfl, ?_⟩) ?_ ?_
           rotate_left
           ·intro w'
            go_simp
            with_reducible rfl
           rotate_left
           ·simp only [Act.put, List.setIfInBounds_toArray, List.set_cons_zero, List.set_cons_succ, i64_w, i32_w]
            rfl
           refine pure_ (i := 7) (N := some 26) (v := ?_) (a' := ?_) #[true, true, true, true, false, false, true, true, false, false, false, false, false, false, false] rfl rfl (any_of HT_.out (by kernel_rfl)) (fun _ _ _ h => h) (Or.inl ⟨by rfl, ?_⟩) ?_ ?_
           rotate_left
           ·intro w'
            go_simp
            with_reducible rfl
           rotate_left
           ·simp only [Act.put, List.setIfInBounds_toArray, List.set_cons_zero, List.set_cons_succ, i64_w, i32_w]
            rfl
           refine take_ (i := 4) (N := some 23) (v := ?_) (a' := ?_) #[true, true, true, true, true, false, true, true, false, false, false, false, false, false, false] rfl rfl (take_ofW HT_.out HW_.out (by kernel_rfl)) (fun _ _ _ h => h) (Or.inl ⟨by rfl, ?_⟩) hHeld ?_ ?_
           rotate_left
           ·rintro w' ⟨s0, s1, s2, s3, s4, s5⟩
            go_simp
            with_reducible rfl
           rotate_left
           ·simp only [Act.put, List.setIfInBounds_toArray, List.set_cons_zero, List.set_cons_succ, i64_w, i32_w]
            rfl
           refine pure_ (i := 5) (N := some 24) (v := ?_) (a' := ?_) #[true, true, true, true, true, true, true, true, false, false, false, false, false, false, false] rfl rfl (any_of HT_.out (by kernel_rfl)) (fun _ _ _ h => h) (Or.inl ⟨by rfl, ?_⟩) ?_ ?_
           rotate_left
           ·intro w'
            go_simp
            with_reducible rfl
           rotate_left
           ·simp only [Act.put, List.setIfInBounds_toArray, List.set_cons_zero, List.set_cons_succ, i64_w, i32_w]
            rfl
           refine take_ (i := 8) (N := some 27) (v := ?_) (a' := ?_) #[true, true, true, true, true, true, true, true, true, false, false, false, false, false, false] rfl rfl (take_ofW HT_.out HW_.out (by kernel_rfl)) (fun _ _ _ h => h) (Or.inl ⟨by rfl, ?_⟩) hHeld ?_ ?_
           rotate_left
           ·rintro w' ⟨s0, s1, s2, s3, s4, s5⟩
            go_simp
            with_reducible rfl
           rotate_left
           ·simp only [Act.put, List.setIfInBounds_toArray, List.set_cons_zero, List.set_cons_succ, i64_w, i32_w]
            rfl
           refine pure_ (i := 9) (N := some 28) (v := ?_) (a' := ?_) #[true, true, true, true, true, true, true, true, true, true, false, false, false, false, false] rfl rfl (any_of HT_.out (by kernel_rfl)) (fun _ _ _ h => h) (Or.inl ⟨by rfl, ?_⟩) ?_ ?_
           rotate_left
           ·intro w'
            go_simp
            with_reducible rfl
           rotate_left
           ·simp only [Act.put, List.setIfInBounds_toArray, List.set_cons_zero, List.set_cons_succ, i64_w, i32_w]
            rfl
           refine take_ (i := 10) (N := some 29) (v := ?_) (a' := ?_) #[true, true, true, true, true, true, true, true, true, true, true, false, false, false, false] rfl rfl (take_ofW HT_.out HW_.out (by kernel_rfl)) (fun _ _ _ h => h) (Or.inl ⟨by rfl, ?_⟩) hHeld ?_ ?_
           rotate_left
           ·rintro w' ⟨s0, s1, s2, s3, s4, s5⟩
            go_simp
            with_reducible rfl
           rotate_left
           ·simp only [Act.put, List.setIfInBounds_toArray, List.set_cons_zero, List.set_cons_succ, i64_w, i32_w]
            rfl
           refine pure_ (i := 11) (N := some 30) (v := ?_) (a' := ?_) #[true, true, true, true, true, true, true, true, true, true, true, true, false, false, false] rfl rfl (any_of HT_.out (by kernel_rfl)) (fun _ _ _ h => h) (Or.inl ⟨by rfl, ?_⟩) ?_ ?_
           rotate_left
           ·intro w'
            go_simp
            with_reducible rfl
           rotate_left
           ·simp only [Act.put, List.setIfInBounds_toArray, List.set_cons_zero, List.set_cons_succ, i64_w, i32_w]
            rfl
           refine one_ (i := 12) (N := some 31) #[true, true, true, true, true, true, true, true, true, true, true, true, true, false, false] rfl rfl (one_of HT_.out (by kernel_rfl)) (by decide) (fun K hK => ?_)
           refine value_ (w1 := ?_) (v := ?_) (by rfl) rfl ?_ ?_
           rotate_left 2
           ·go_simp
            constructor
            ·rfl
            ·rfl
           refine hK.out _ _ ⟨(blk_cell (blk_alloc BK420.out _) 0).trans rfl, (blk_cell (blk_alloc BK420.out _) 1).trans rfl, (blk_cell (blk_alloc BK420.out _) 2).trans rfl, (blk_cell (blk_alloc BK420.out _) 3).trans rfl, (World.cell?_alloc_lt _ _ _ (World.block_lt_of_cell? _ _ (((HB.out.cell (World.block_lt_of_cell? w _ hw421_0)).trans hw421_0)))).trans (((HB.out.cell (World.block_lt_of_cell? w _ hw421_0)).trans hw421_0)), (World.cell?_alloc_lt _ _ _ (World.block_lt_of_cell? _ _ (((HB.out.cell (World.block_lt_of_cell? w _ hw422_0)).trans hw422_0)))).trans (((HB.out.cell (World.block_lt_of_cell? w _ hw422_0)).trans hw422_0))⟩ (fun hHeld => ?_)
           clear hK K
           refine norm_ (a' := ?_) ?_ ?_
           rotate_left
           ·show Act.put _ (some 31) _ = _
            simp only [Act.put, List.setIfInBounds_toArray, List.set_cons_zero, List.set_cons_succ, i64_w, i32_w]
            rfl
           refine one_ (i := 13) (N := some 32) #[true, true, true, true, true, true, true, true, true, true, true, true, true, true, false] rfl rfl (one_of HT_.out (by kernel_rfl)) (by decide) (fun K hK => ?_)
           refine Kd.R_append_step (Kd.int .i64) (w0 := w) w.heap.size (by rfl) (.tmp 19) (.tmp 31) 33 3 (.int .i64 0) 8 rfl Try.underlying33 info3 rfl (by decide) (by omega) u5 x5_1 (Go.bits .or .i64 (wrap64 (1 - (rd l1 x10_1))) (rd l1 ((rd_T37 l0 x10_1).f3))) [.int .i64 (Go.bits .or .i64 (wrap64 (1 - (rd l1 x10_1))) (rd l1 ((rd_T37 l0 x10_1).f3)))] (fun _ => True) (fun _ => False) rfl rfl ?aP (fun _ hk => hk.elim) ?aF ?aO ?aB ?aS ?aL ?_
           (case aP => exact rfl)
           (case aB => exact (by repeat (first | (with_reducible first | exact HB.out | apply bwA | apply bwN | apply bwD | refine below_set ?_ GE420.out) | exact HB.out)))
           (case aF => exact (fun _ _ => trivial))
           (case aO => exact (rvR HO_5.out))
           (case aS => exact (below_size (by repeat (first | (with_reducible first | exact HB.out | apply bwA | apply bwN | apply bwD | refine below_set ?_ GE420.out) | exact HB.out))))
           (case aL => have := LMc10.out; omega)
           intro v424 w15 ho hb hg hat
           rw [← Ny423.out] at ho
           have n0_ := Aside0.mk (blk_grown (g := gb420) (o := .cells #[.int .i64 ((rd_T37 l0 x10_1).f0), .int .i64 ((rd_T37 l0 x10_1).f1), .int .i64 ((rd_T37 l0 x10_1).f2), .int .i64 ((rd_T37 l0 x10_1).f3)] 37 (0, 0)) (bvK BK420.out) hg (Kd.R_ne HO_5.out BK420.out (by decide)))
           have n1_ := Aside0.mk (hb)
           have n2_ := Aside0.mk (ho)
           clear BK420
           clear HB
           clear HO_5
           have BK420 := n0_
           have HB := n1_
           have HO425 := n2_
           clear n0_ n1_ n2_
           clear ho hb hg hat
           refine hK.out _ _ ⟨(blk_cell BK420.out 0).trans rfl, (blk_cell BK420.out 1).trans rfl, (blk_cell BK420.out 2).trans rfl, (blk_cell BK420.out 3).trans rfl, ((HB.out.cell (World.block_lt_of_cell? w _ hw421_0)).trans hw421_0), ((HB.out.cell (World.block_lt_of_cell? w _ hw422_0)).trans hw422_0)⟩ (fun hHeld => ?_)
           clear hK K
           refine norm_ (a' := ?_) ?_ ?_
           rotate_left
           ·show Act.put _ (some 32) _ = _
            simp only [Act.put, List.setIfInBounds_toArray, List.set_cons_zero, List.set_cons_succ, i64_w, i32_w]
            rfl
           refine pure_ (i := 14) (N := some 5) (v := ?_) (a' := ?_) #[true, true, true, true, true, true, true, true, true, true, true, true, true, true, true] rfl rfl (any_of HT_.out (by kernel_rfl)) (fun _ _ _ h => h) (Or.inl ⟨by rfl, ?_⟩) ?_ ?_
           rotate_left
           ·intro w'
            go_simp
            with_reducible rfl
           rotate_left
           ·simp only [Act.put, List.setIfInBounds_toArray, List.set_cons_zero, List.set_cons_succ, i64_w, i32_w]
            rfl
           refine done_ (done_of HT_.out (by kernel_rfl)) ?_
           try go_wp2
           go_roundg k1
           case measure => have := HK1.out; omega
           case rel => exact ⟨(y423), (wrap64 (x10_1 + 1)), rsd, H', ⟨by have := HK1.out; omega⟩, ⟨rvR HO425.out⟩, ⟨by repeat (first | (with_reducible first | exact HB.out | apply bwA | apply bwN | apply bwD | refine below_set ?_ GE420.out) | exact HB.out)⟩⟩
          ·rw [if_neg c10] at H
           exact absurd H (by simp)
         ·rw [if_neg c9] at H
          exact absurd H (by simp)
        ·rw [if_neg c8] at H
         exact absurd H (by simp)
       ·rw [if_neg c7] at H
        exact absurd H (by simp)
      ·rw [if_neg c6] at H
       have c6b0 : (((rd_T37 l0 x10_1).f0) == 6) = false := beq_eq_false_iff_ne.mpr c6
       have c6b1 : (((rd_T37 l0 x10_1).f0) != 6) = true := bne_iff_ne.mpr c6
       by_cases c16 : ((rd_T37 l0 x10_1).f0) = 7
       ·rw [if_pos c16] at H
        have c16b0 : (((rd_T37 l0 x10_1).f0) == 7) = true := beq_iff_eq.mpr c16
        have c16b1 : (((rd_T37 l0 x10_1).f0) != 7) = false := bne_eq_false_iff_eq.mpr c16
        clear c16
        by_cases c17 : x10_1 < (l1.length : Int)
        ·rw [if_pos c17] at H
         have c17b0 : decide (x10_1 < (l1.length : Int)) = true := decide_eq_true c17
         clear c17
         by_cases c18 : 0 ≤ ((rd_T37 l0 x10_1).f3)
         ·rw [if_pos c18] at H
          have c18b0 : decide (0 ≤ ((rd_T37 l0 x10_1).f3)) = true := decide_eq_true c18
          clear c18
          by_cases c19 : ((rd_T37 l0 x10_1).f3) < (l1.length : Int)
          ·rw [if_pos c19] at H
           have c19b0 : decide (((rd_T37 l0 x10_1).f3) < (l1.length : Int)) = true := decide_eq_true c19
           clear c19
           by_cases c20 : x5_1.length < 17592186044416
           ·rw [if_pos c20] at H
            have LMc20 := Aside0.mk c20
            clear c20
            obtain ⟨y428, hy428⟩ : ∃ y_ : List Int, y_ = (x5_1 ++ [Go.bits .or .i64 (rd l1 x10_1) (wrap64 (1 - (rd l1 ((rd_T37 l0 x10_1).f3))))]) := ⟨_, rfl⟩
            replace H : (impl_keeps.l0 k1 l1 y428 l0 (l0.length : Int) (wrap64 (x10_1 + 1))) = some r := by first | (rw [hy428]; with_reducible exact H) | (have H2_ := (Option.bind_some _ _).symm.trans H; rw [hy428]; with_reducible exact H2_) | (have H2_ := (Option.bind_some _ _).symm.trans H; with_reducible exact H2_) | with_reducible exact H | (rw [hy428]; exact H) | exact H
            have Ny428 := Aside0.mk hy428
            clear hy428
            have H' := Aside0.mk H
            clear H
            have p419 : 0 ≤ (x10_1 : Int) := oda
            have q419 : x10_1 < (l0.length : Int) := oda
            obtain ⟨ad419, e419, hx419_0, hx419_1, hx419_2, hx419_3⟩ := at_T37 HR0.out x10_1 p419 q419
            cases e419
            try replace hx419_0 := bct HB.out hx419_0
            try replace hx419_1 := bct HB.out hx419_1
            try replace hx419_2 := bct HB.out hx419_2
            try replace hx419_3 := bct HB.out hx419_3
            replace p419 := eq_true p419
            replace q419 := eq_true q419
            try go_wp2_with (first | ((with_reducible refine gate_dst (N := 7) rfl ?_); refine box_event ?hg (N := 7) ?hd (cs := #[.int .i64 0, .int .i64 0, .int .i64 0, .int .i64 0]) (t := 37) ?hr ?_; (case hd => rfl); (case hg => rfl); (case hr => first | (go_simp; done) | (go_simp; rfl)); intro gb420 hg w21 hbox hb; have n0_ := Aside0.mk (Kd.R_below (rvR HO_5.out) hb); have n1_ := Aside0.mk (below_step (by repeat (first | (with_reducible first | exact HB.out | apply bwA | apply bwN | apply bwD) | exact HB.out)) hb); have n2_ := Aside0.mk (hbox); have n3_ := Aside0.mk ((by rw [hg]; exact (below_size (by repeat (first | (with_reducible first | exact HB.out | apply bwA | apply bwN | apply bwD) | exact HB.out))) : w.heap.size ≤ gb420)); have n4_ := Aside0.mk ((by rw [hg]; exact (below_size (by repeat (first | (with_reducible first | exact HB.out | apply bwA | apply bwN | apply bwD) | exact HB.out))) : w.heap.size ≤ gb420)); clear HO_5; clear HB; have HO_5 := n0_; have HB := n1_; have BK420 := n2_; have GW420 := n3_; have GE420 := n4_; clear n0_ n1_ n2_ n3_ n4_; clear hb hbox hg; have hcz22_0 : w21.cell? ⟨gb420, 0, none⟩ = some (.int .i64 0) := (blk_cell BK420.out 0).trans rfl; have hcz22_1 : w21.cell? ⟨gb420, 1, none⟩ = some (.int .i64 0) := (blk_cell BK420.out 1).trans rfl; have hcz22_2 : w21.cell? ⟨gb420, 2, none⟩ = some (.int .i64 0) := (blk_cell BK420.out 2).trans rfl; have hcz22_3 : w21.cell? ⟨gb420, 3, none⟩ = some (.int .i64 0) := (blk_cell BK420.out 3).trans rfl; have hfz22_0 := blk_frozen BK420.out 0; have hfz22_1 := blk_frozen BK420.out 1; have hfz22_2 := blk_frozen BK420.out 2; have hfz22_3 := blk_frozen BK420.out 3))
            have n0_ : Aside0 (Kd.R (Kd.int .i64) 3 ((((w21.setCell ⟨gb420, 0, none⟩ (.int .i64 ((rd_T37 l0 x10_1).f0))).setCell ⟨gb420, 1, none⟩ (.int .i64 ((rd_T37 l0 x10_1).f1))).setCell ⟨gb420, 2, none⟩ (.int .i64 ((rd_T37 l0 x10_1).f2))).setCell ⟨gb420, 3, none⟩ (.int .i64 ((rd_T37 l0 x10_1).f3))) w.heap.size (fun _ => True) u5 x5_1) := ⟨by (with_reducible repeat (first | apply Kd.R_alloc | apply Kd.R_drewN | apply Kd.R_drew)); exact Kd.R_mono (Kd.R_far (p := ⟨gb420, 3, none⟩) (Kd.R_far (p := ⟨gb420, 2, none⟩) (Kd.R_far (p := ⟨gb420, 1, none⟩) (Kd.R_far (p := ⟨gb420, 0, none⟩) (Kd.R_types HO_5.out BK420.out (by decide)) (fun _ hk => hk.2) (.int .i64 ((rd_T37 l0 x10_1).f0))) (fun _ hk => hk.2) (.int .i64 ((rd_T37 l0 x10_1).f1))) (fun _ hk => hk.2) (.int .i64 ((rd_T37 l0 x10_1).f2))) (fun _ hk => hk.2) (.int .i64 ((rd_T37 l0 x10_1).f3))) (fun _ hk => trivial)⟩
            have n1_ : Aside0 (((((w21.setCell ⟨gb420, 0, none⟩ (.int .i64 ((rd_T37 l0 x10_1).f0))).setCell ⟨gb420, 1, none⟩ (.int .i64 ((rd_T37 l0 x10_1).f1))).setCell ⟨gb420, 2, none⟩ (.int .i64 ((rd_T37 l0 x10_1).f2))).setCell ⟨gb420, 3, none⟩ (.int .i64 ((rd_T37 l0 x10_1).f3))).heap[gb420]? = some (.cells #[.int .i64 ((rd_T37 l0 x10_1).f0), .int .i64 ((rd_T37 l0 x10_1).f1), .int .i64 ((rd_T37 l0 x10_1).f2), .int .i64 ((rd_T37 l0 x10_1).f3)] 37 (0, 0))) := ⟨by (with_reducible repeat (first | refine blk_drewN ?_ _ | refine blk_drew ?_ | refine blk_alloc ?_ _)); refine blk_put (cs := #[.int .i64 ((rd_T37 l0 x10_1).f0), .int .i64 ((rd_T37 l0 x10_1).f1), .int .i64 ((rd_T37 l0 x10_1).f2), .int .i64 0]) ?_ 3 _ rfl; (with_reducible repeat (first | refine blk_drewN ?_ _ | refine blk_drew ?_ | refine blk_alloc ?_ _)); refine blk_put (cs := #[.int .i64 ((rd_T37 l0 x10_1).f0), .int .i64 ((rd_T37 l0 x10_1).f1), .int .i64 0, .int .i64 0]) ?_ 2 _ rfl; (with_reducible repeat (first | refine blk_drewN ?_ _ | refine blk_drew ?_ | refine blk_alloc ?_ _)); refine blk_put (cs := #[.int .i64 ((rd_T37 l0 x10_1).f0), .int .i64 0, .int .i64 0, .int .i64 0]) ?_ 1 _ rfl; (with_reducible repeat (first | refine blk_drewN ?_ _ | refine blk_drew ?_ | refine blk_alloc ?_ _)); refine blk_put (cs := #[.int .i64 0, .int .i64 0, .int .i64 0, .int .i64 0]) ?_ 0 _ rfl; (with_reducible repeat (first | refine blk_drewN ?_ _ | refine blk_drew ?_ | refine blk_alloc ?_ _)); exact BK420.out⟩
            have n2_ : Aside0 (Below w.heap.size w ((((w21.setCell ⟨gb420, 0, none⟩ (.int .i64 ((rd_T37 l0 x10_1).f0))).setCell ⟨gb420, 1, none⟩ (.int .i64 ((rd_T37 l0 x10_1).f1))).setCell ⟨gb420, 2, none⟩ (.int .i64 ((rd_T37 l0 x10_1).f2))).setCell ⟨gb420, 3, none⟩ (.int .i64 ((rd_T37 l0 x10_1).f3)))) := ⟨by repeat (first | (with_reducible first | exact HB.out | apply bwA | apply bwN | apply bwD | refine below_set ?_ GE420.out) | exact HB.out)⟩
            (try clear HO_5)
            (try clear BK420)
            (try clear HB)
            generalize ((((w21.setCell ⟨gb420, 0, none⟩ (.int .i64 ((rd_T37 l0 x10_1).f0))).setCell ⟨gb420, 1, none⟩ (.int .i64 ((rd_T37 l0 x10_1).f1))).setCell ⟨gb420, 2, none⟩ (.int .i64 ((rd_T37 l0 x10_1).f2))).setCell ⟨gb420, 3, none⟩ (.int .i64 ((rd_T37 l0 x10_1).f3))) = w23 at n0_ n1_ n2_ ⊢
            have HO_5 := n0_
            have BK420 := n1_
            have HB := n2_
            clear n0_ n1_ n2_
            have n0_ := Aside0.mk (Kd.R_drew HO_5.out)
            have n1_ := Aside0.mk (blk_drew BK420.out)
            have n2_ := Aside0.mk (below_drew1 HB.out)
            clear HO_5
            clear BK420
            clear HB
            have HO_5 := n0_
            have BK420 := n1_
            have HB := n2_
            clear n0_ n1_ n2_
            have p426 : 0 ≤ (x10_1 : Int) := oda
            have q426 : x10_1 < (l1.length : Int) := oda
            obtain ⟨ad426, e426, hx426_0⟩ := Kd.at_int HR1.out x10_1 p426 q426
            have hw426_0 := hx426_0
            cases e426
            try replace hx426_0 := bct HB.out hx426_0
            replace p426 := eq_true p426
            replace q426 := eq_true q426
            have p427 : 0 ≤ (((rd_T37 l0 x10_1).f3) : Int) := oda
            have q427 : ((rd_T37 l0 x10_1).f3) < (l1.length : Int) := oda
            obtain ⟨ad427, e427, hx427_0⟩ := Kd.at_int HR1.out ((rd_T37 l0 x10_1).f3) p427 q427
            have hw427_0 := hx427_0
            obtain rfl : ad426 = ad427 := (by injection e427)
            try replace hx427_0 := bct HB.out hx427_0
            replace p427 := eq_true p427
            replace q427 := eq_true q427
            refine start_ (n := 15) (S := fun w' => w'.cell? ⟨gb420, 0, none⟩ = some (.int .i64 ((rd_T37 l0 x10_1).f0)) ∧ w'.cell? ⟨gb420, 1, none⟩ = some (.int .i64 ((rd_T37 l0 x10_1).f1)) ∧ w'.cell? ⟨gb420, 2, none⟩ = some (.int .i64 ((rd_T37 l0 x10_1).f2)) ∧ w'.cell? ⟨gb420, 3, none⟩ = some (.int .i64 ((rd_T37 l0 x10_1).f3)) ∧ w'.cell? (ad426.add (x10_1).toNat) = some (.int .i64 (rd l1 x10_1)) ∧ w'.cell? (ad426.add (((rd_T37 l0 x10_1).f3)).toNat) = some (.int .i64 (rd l1 ((rd_T37 l0 x10_1).f3)))) (ds := []) #[false, false, false, false, false, false, false, false, false, false, false, false, false, false, false] (by kernel_rfl) rfl rfl ⟨(blk_cell BK420.out 0).trans rfl, (blk_cell BK420.out 1).trans rfl, (blk_cell BK420.out 2).trans rfl, (blk_cell BK420.out 3).trans rfl, ((HB.out.cell (World.block_lt_of_cell? w _ hw426_0)).trans hw426_0), ((HB.out.cell (World.block_lt_of_cell? w _ hw427_0)).trans hw427_0)⟩ (fun hHeld => ?_); refine with_tabW impl_keeps.tab9 impl_keeps.bits9 (fun HT_ HW_ => ?_)
            generalize w23.drew = w24 at HO_5 BK420 HB hx426_0 hx427_0 hHeld ⊢
            refine pure_ (i := 0) (N := some 35) (v := ?_) (a' := ?_) #[true, false, false, false, false, false, false, false, false, false, false, false, false, false, false] rfl rfl (any_of HT_.out (by kernel_rfl)) (fun _ _ _ h => h) (Or.inl ⟨by rfl, ?_⟩) ?_ ?_
            rotate_left
            ·intro w'
             go_simp
             with_reducible rfl
            rotate_left
            ·simp only [Act.put, List.setIfInBounds_toArray, List.set_cons_zero, List.set_cons_succ, i64_w, i32_w]
             rfl
            refine pure_ (i := 1) (N := some 36) (v := ?_) (a' := ?_) #[true, true, false, false, false, false, false, false, false, false, false, false, false, false, false] rfl rfl (any_of HT_.out (by kernel_rfl)) (fun _ _ _ h => h) (Or.inl ⟨by rfl, ?_⟩) ?_ ?_
            rotate_left
            ·intro w'
             go_simp
             with_reducible rfl
            rotate_left
            ·simp only [Act.put, List.setIfInBounds_toArray, List.set_cons_zero, List.set_cons_succ, i64_w, i32_w]
             rfl
            refine pure_ (i := 2) (N := some 37) (v := ?_) (a' := ?_) #[true, true, true, false, false, false, false, false, false, false, false, false, false, false, false] rfl rfl (any_of HT_.out (by kernel_rfl)) (fun _ _ _ h => h) (Or.inl ⟨by rfl, ?_⟩) ?_ ?_
            rotate_left
            ·intro w'
             go_simp
             with_reducible rfl
            rotate_left
            ·simp only [Act.put, List.setIfInBounds_toArray, List.set_cons_zero, List.set_cons_succ, i64_w, i32_w]
             rfl
            refine pure_ (i := 3) (N := some 38) (v := ?_) (a' := ?_) #[true, true, true, true, false, false, false, false, false, false, false, false, false, false, false] rfl rfl (any_of HT_.out (by kernel_rfl)) (fun _ _ _ h => h) (Or.inl ⟨by rfl, ?_⟩) ?_ ?_
            rotate_left
            ·intro w'
             go_simp
             with_reducible rfl
            rotate_left
            ·simp only [Act.put, List.setIfInBounds_toArray, List.set_cons_zero, List.set_cons_succ, i64_w, i32_w]
             rfl
            refine pure_ (i := 5) (N := some 40) (v := ?_) (a' := ?_) #[true, true, true, true, false, true, false, false, false, false, false, false, false, false, false] rfl rfl (any_of HT_.out (by kernel_rfl)) (fun _ _ _ h => h) (Or.inl ⟨by rfl, ?_⟩) ?_ ?_
            rotate_left
            ·intro w'
             go_simp
             with_reducible rfl
            rotate_left
            ·simp only [Act.put, List.setIfInBounds_toArray, List.set_cons_zero, List.set_cons_succ, i64_w, i32_w]
             rfl
            refine pure_ (i := 6) (N := some 41) (v := ?_) (a' := ?_) #[true, true, true, true, false, true, true, false, false, false, false, false, false, false, false] rfl rfl (any_of HT_.out (by kernel_rfl)) (fun _ _ _ h => h) (Or.inl ⟨by rfl, ?_⟩) ?_ ?_
            rotate_left
            ·intro w'
             go_simp
             with_reducible rfl
            rotate_left
            ·simp only [Act.put, List.setIfInBounds_toArray, List.set_cons_zero, List.set_cons_succ, i64_w, i32_w]
             rfl
            refine take_ (i := 4) (N := some 39) (v := ?_) (a' := ?_) #[true, true, true, true, true, true, true, false, false, false, false, false, false, false, false] rfl rfl (take_ofW HT_.out HW_.out (by kernel_rfl)) (fun _ _ _ h => h) (Or.inl ⟨by rfl, ?_⟩) hHeld ?_ ?_
            rotate_left
            ·rintro w' ⟨s0, s1, s2, s3, s4, s5⟩
             go_simp
             with_reducible rfl
            rotate_left
            ·simp only [Act.put, List.setIfInBounds_toArray, List.set_cons_zero, List.set_cons_succ, i64_w, i32_w]
             rfl
            refine take_ (i := 7) (N := some 42) (v := ?_) (a' := ?_) #[true, true, true, true, true, true, true, true, false, false, false, false, false, false, false] rfl rfl (take_ofW HT_.out HW_.out (by kernel_rfl)) (fun _ _ _ h => h) (Or.inl ⟨by rfl, ?_⟩) hHeld ?_ ?_
            rotate_left
            ·rintro w' ⟨s0, s1, s2, s3, s4, s5⟩
             go_simp
             with_reducible rfl
            rotate_left
            ·simp only [Act.put, List.setIfInBounds_toArray, List.set_cons_zero, List.set_cons_succ, i64_w, i32_w]
             rfl
            refine pure_ (i := 8) (N := some 43) (v := ?_) (a' := ?_) #[true, true, true, true, true, true, true, true, true, false, false, false, false, false, false] rfl rfl (any_of HT_.out (by kernel_rfl)) (fun _ _ _ h => h) (Or.inl ⟨by rfl, ?_⟩) ?_ ?_
            rotate_left
            ·intro w'
             go_simp
             with_reducible rfl
            rotate_left
            ·simp only [Act.put, List.setIfInBounds_toArray, List.set_cons_zero, List.set_cons_succ, i64_w, i32_w]
             rfl
            refine take_ (i := 9) (N := some 44) (v := ?_) (a' := ?_) #[true, true, true, true, true, true, true, true, true, true, false, false, false, false, false] rfl rfl (take_ofW HT_.out HW_.out (by kernel_rfl)) (fun _ _ _ h => h) (Or.inl ⟨by rfl, ?_⟩) hHeld ?_ ?_
            rotate_left
            ·rintro w' ⟨s0, s1, s2, s3, s4, s5⟩
             go_simp
             with_reducible rfl
            rotate_left
            ·simp only [Act.put, List.setIfInBounds_toArray, List.set_cons_zero, List.set_cons_succ, i64_w, i32_w]
             rfl
            refine pure_ (i := 10) (N := some 45) (v := ?_) (a' := ?_) #[true, true, true, true, true, true, true, true, true, true, true, false, false, false, false] rfl rfl (any_of HT_.out (by kernel_rfl)) (fun _ _ _ h => h) (Or.inl ⟨by rfl, ?_⟩) ?_ ?_
            rotate_left
            ·intro w'
             go_simp
             with_reducible rfl
            rotate_left
            ·simp only [Act.put, List.setIfInBounds_toArray, List.set_cons_zero, List.set_cons_succ, i64_w, i32_w]
             rfl
            refine pure_ (i := 11) (N := some 46) (v := ?_) (a' := ?_) #[true, true, true, true, true, true, true, true, true, true, true, true, false, false, false] rfl rfl (any_of HT_.out (by kernel_rfl)) (fun _ _ _ h => h) (Or.inl ⟨by rfl, ?_⟩) ?_ ?_
            rotate_left
            ·intro w'
             go_simp
             with_reducible rfl
            rotate_left
            ·simp only [Act.put, List.setIfInBounds_toArray, List.set_cons_zero, List.set_cons_succ, i64_w, i32_w]
             rfl
            refine one_ (i := 12) (N := some 47) #[true, true, true, true, true, true, true, true, true, true, true, true, true, false, false] rfl rfl (one_of HT_.out (by kernel_rfl)) (by decide) (fun K hK => ?_)
            refine value_ (w1 := ?_) (v := ?_) (by rfl) rfl ?_ ?_
            rotate_left 2
            ·go_simp
             constructor
             ·rfl
             ·rfl
            refine hK.out _ _ ⟨(blk_cell (blk_alloc BK420.out _) 0).trans rfl, (blk_cell (blk_alloc BK420.out _) 1).trans rfl, (blk_cell (blk_alloc BK420.out _) 2).trans rfl, (blk_cell (blk_alloc BK420.out _) 3).trans rfl, (World.cell?_alloc_lt _ _ _ (World.block_lt_of_cell? _ _ (((HB.out.cell (World.block_lt_of_cell? w _ hw426_0)).trans hw426_0)))).trans (((HB.out.cell (World.block_lt_of_cell? w _ hw426_0)).trans hw426_0)), (World.cell?_alloc_lt _ _ _ (World.block_lt_of_cell? _ _ (((HB.out.cell (World.block_lt_of_cell? w _ hw427_0)).trans hw427_0)))).trans (((HB.out.cell (World.block_lt_of_cell? w _ hw427_0)).trans hw427_0))⟩ (fun hHeld => ?_)
            clear hK K
            refine norm_ (a' := ?_) ?_ ?_
            rotate_left
            ·show Act.put _ (some 47) _ = _
             simp only [Act.put, List.setIfInBounds_toArray, List.set_cons_zero, List.set_cons_succ, i64_w, i32_w]
             rfl
            refine one_ (i := 13) (N := some 48) #[true, true, true, true, true, true, true, true, true, true, true, true, true, true, false] rfl rfl (one_of HT_.out (by kernel_rfl)) (by decide) (fun K hK => ?_)
            refine Kd.R_append_step (Kd.int .i64) (w0 := w) w.heap.size (by rfl) (.tmp 35) (.tmp 47) 33 3 (.int .i64 0) 8 rfl Try.underlying33 info3 rfl (by decide) (by omega) u5 x5_1 (Go.bits .or .i64 (rd l1 x10_1) (wrap64 (1 - (rd l1 ((rd_T37 l0 x10_1).f3))))) [.int .i64 (Go.bits .or .i64 (rd l1 x10_1) (wrap64 (1 - (rd l1 ((rd_T37 l0 x10_1).f3)))))] (fun _ => True) (fun _ => False) rfl rfl ?aP (fun _ hk => hk.elim) ?aF ?aO ?aB ?aS ?aL ?_
            (case aP => exact rfl)
            (case aB => exact (by repeat (first | (with_reducible first | exact HB.out | apply bwA | apply bwN | apply bwD | refine below_set ?_ GE420.out) | exact HB.out)))
            (case aF => exact (fun _ _ => trivial))
            (case aO => exact (rvR HO_5.out))
            (case aS => exact (below_size (by repeat (first | (with_reducible first | exact HB.out | apply bwA | apply bwN | apply bwD | refine below_set ?_ GE420.out) | exact HB.out))))
            (case aL => have := LMc20.out; omega)
            intro v429 w25 ho hb hg hat
            rw [← Ny428.out] at ho
            have n0_ := Aside0.mk (blk_grown (g := gb420) (o := .cells #[.int .i64 ((rd_T37 l0 x10_1).f0), .int .i64 ((rd_T37 l0 x10_1).f1), .int .i64 ((rd_T37 l0 x10_1).f2), .int .i64 ((rd_T37 l0 x10_1).f3)] 37 (0, 0)) (bvK BK420.out) hg (Kd.R_ne HO_5.out BK420.out (by decide)))
            have n1_ := Aside0.mk (hb)
            have n2_ := Aside0.mk (ho)
            clear BK420
            clear HB
            clear HO_5
            have BK420 := n0_
            have HB := n1_
            have HO430 := n2_
            clear n0_ n1_ n2_
            clear ho hb hg hat
            refine hK.out _ _ ⟨(blk_cell BK420.out 0).trans rfl, (blk_cell BK420.out 1).trans rfl, (blk_cell BK420.out 2).trans rfl, (blk_cell BK420.out 3).trans rfl, ((HB.out.cell (World.block_lt_of_cell? w _ hw426_0)).trans hw426_0), ((HB.out.cell (World.block_lt_of_cell? w _ hw427_0)).trans hw427_0)⟩ (fun hHeld => ?_)
            clear hK K
            refine norm_ (a' := ?_) ?_ ?_
            rotate_left
            ·show Act.put _ (some 48) _ = _
             simp only [Act.put, List.setIfInBounds_toArray, List.set_cons_zero, List.set_cons_succ, i64_w, i32_w]
             rfl
            refine pure_ (i := 14) (N := some 5) (v := ?_) (a' := ?_) #[true, true, true, true, true, true, true, true, true, true, true, true, true, true, true] rfl rfl (any_of HT_.out (by kernel_rfl)) (fun _ _ _ h => h) (Or.inl ⟨by rfl, ?_⟩) ?_ ?_
            rotate_left
            ·intro w'
             go_simp
             with_reducible rfl
            rotate_left
            ·simp only [Act.put, List.setIfInBounds_toArray, List.set_cons_zero, List.set_cons_succ, i64_w, i32_w]
             rfl
            refine done_ (done_of HT_.out (by kernel_rfl)) ?_
            try go_wp2
            go_roundg k1
            case measure => have := HK1.out; omega
            case rel => exact ⟨(y428), (wrap64 (x10_1 + 1)), rsd, H', ⟨by have := HK1.out; omega⟩, ⟨rvR HO430.out⟩, ⟨by repeat (first | (with_reducible first | exact HB.out | apply bwA | apply bwN | apply bwD | refine below_set ?_ GE420.out) | exact HB.out)⟩⟩
           ·rw [if_neg c20] at H
            exact absurd H (by simp)
          ·rw [if_neg c19] at H
           exact absurd H (by simp)
         ·rw [if_neg c18] at H
          exact absurd H (by simp)
        ·rw [if_neg c17] at H
         exact absurd H (by simp)
       ·rw [if_neg c16] at H
        have c16b0 : (((rd_T37 l0 x10_1).f0) == 7) = false := beq_eq_false_iff_ne.mpr c16
        have c16b1 : (((rd_T37 l0 x10_1).f0) != 7) = true := bne_iff_ne.mpr c16
        have H' := Aside0.mk H
        clear H
        have p419 : 0 ≤ (x10_1 : Int) := oda
        have q419 : x10_1 < (l0.length : Int) := oda
        obtain ⟨ad419, e419, hx419_0, hx419_1, hx419_2, hx419_3⟩ := at_T37 HR0.out x10_1 p419 q419
        cases e419
        try replace hx419_0 := bct HB.out hx419_0
        try replace hx419_1 := bct HB.out hx419_1
        try replace hx419_2 := bct HB.out hx419_2
        try replace hx419_3 := bct HB.out hx419_3
        replace p419 := eq_true p419
        replace q419 := eq_true q419
        go_wp2_with (first | ((with_reducible refine gate_dst (N := 7) rfl ?_); refine box_event ?hg (N := 7) ?hd (cs := #[.int .i64 0, .int .i64 0, .int .i64 0, .int .i64 0]) (t := 37) ?hr ?_; (case hd => rfl); (case hg => rfl); (case hr => first | (go_simp; done) | (go_simp; rfl)); intro gb420 hg w26 hbox hb; have n0_ := Aside0.mk (Kd.R_below (rvR HO_5.out) hb); have n1_ := Aside0.mk (below_step (by repeat (first | (with_reducible first | exact HB.out | apply bwA | apply bwN | apply bwD) | exact HB.out)) hb); have n2_ := Aside0.mk (hbox); have n3_ := Aside0.mk ((by rw [hg]; exact (below_size (by repeat (first | (with_reducible first | exact HB.out | apply bwA | apply bwN | apply bwD) | exact HB.out))) : w.heap.size ≤ gb420)); have n4_ := Aside0.mk ((by rw [hg]; exact (below_size (by repeat (first | (with_reducible first | exact HB.out | apply bwA | apply bwN | apply bwD) | exact HB.out))) : w.heap.size ≤ gb420)); clear HO_5; clear HB; have HO_5 := n0_; have HB := n1_; have BK420 := n2_; have GW420 := n3_; have GE420 := n4_; clear n0_ n1_ n2_ n3_ n4_; clear hb hbox hg; have hcz27_0 : w26.cell? ⟨gb420, 0, none⟩ = some (.int .i64 0) := (blk_cell BK420.out 0).trans rfl; have hcz27_1 : w26.cell? ⟨gb420, 1, none⟩ = some (.int .i64 0) := (blk_cell BK420.out 1).trans rfl; have hcz27_2 : w26.cell? ⟨gb420, 2, none⟩ = some (.int .i64 0) := (blk_cell BK420.out 2).trans rfl; have hcz27_3 : w26.cell? ⟨gb420, 3, none⟩ = some (.int .i64 0) := (blk_cell BK420.out 3).trans rfl; have hfz27_0 := blk_frozen BK420.out 0; have hfz27_1 := blk_frozen BK420.out 1; have hfz27_2 := blk_frozen BK420.out 2; have hfz27_3 := blk_frozen BK420.out 3))
        go_roundg k1
        case measure => have := HK1.out; omega
        case rel => exact ⟨(x5_1), (wrap64 (x10_1 + 1)), rsd, H', ⟨by have := HK1.out; omega⟩, ⟨by (with_reducible repeat (first | apply Kd.R_alloc | apply Kd.R_drewN | apply Kd.R_drew)); exact Kd.R_mono (Kd.R_far (p := ⟨gb420, 3, none⟩) (Kd.R_far (p := ⟨gb420, 2, none⟩) (Kd.R_far (p := ⟨gb420, 1, none⟩) (Kd.R_far (p := ⟨gb420, 0, none⟩) (Kd.R_types HO_5.out BK420.out (by decide)) (fun _ hk => hk.2) (.int .i64 ((rd_T37 l0 x10_1).f0))) (fun _ hk => hk.2) (.int .i64 ((rd_T37 l0 x10_1).f1))) (fun _ hk => hk.2) (.int .i64 ((rd_T37 l0 x10_1).f2))) (fun _ hk => hk.2) (.int .i64 ((rd_T37 l0 x10_1).f3))) (fun _ hk => trivial)⟩, ⟨by repeat (first | (with_reducible first | exact HB.out | apply bwA | apply bwN | apply bwD | refine below_set ?_ GE420.out) | exact HB.out)⟩⟩
     ·rw [if_neg c5] at H
      exact absurd H (by simp)
    ·rw [if_neg c4] at H
     exact absurd H (by simp)
   ·rw [if_neg c3] at H
    have c3b0 : decide (x10_1 < (l0.length : Int)) = false := decide_eq_false c3
    clear c3
    replace H := Option.bind_eq_some_iff.mp H
    obtain ⟨t416, A280, H⟩ := H
    replace H : (some t416) = some r := H
    have A28 := Aside0.mk A280
    clear A280
    obtain rfl := Option.some.inj H
    obtain ⟨Ao29, co29, eo29⟩ := Kd.R_slice HO_5.out
    subst eo29
    go_wp2_with (first | ((with_reducible refine gate_callee (f := 61) rfl ?_); refine goesL_ (some 51) rfl rfl Try.func61 (by kernel_rfl) rfl #[.slice Ao29 x5_1.length co29] rfl lmB ?_; (with_reducible refine (impl_clone_int.calls _ _ x5_1 t416 _ ?side1 ?side2 A28.out).mono ?_); (case side1 => repeat (first | exact (Kd.R_reads' HO_5.out).2.2 | (with_reducible refine Kd.C_alloc ?_ _) | (with_reducible refine Kd.C_drewN ?_ _) | (with_reducible refine Kd.C_drew ?_))); (case side2 => exact (Kd.R_reads' HO_5.out).2.1); rintro e w30 ⟨v417, rfl, ho0, hb⟩; refine ⟨_, rfl, ?_⟩; have n0_ := Aside0.mk (Kd.R_elder' (rvR HO_5.out) (Kd.R_base ho0) hb); have n1_ := Aside0.mk (Kd.R_lower (Kd.R_new' ho0 (Kd.R_lt (rvR HO_5.out))) (below_size (by repeat (first | (with_reducible first | exact HB.out | apply bwA | apply bwN | apply bwD) | exact HB.out)))); have n2_ := Aside0.mk (below_step (by repeat (first | (with_reducible first | exact HB.out | apply bwA | apply bwN | apply bwD) | exact HB.out)) hb); clear HO_5; clear HB; have HO_5 := n0_; have HO418 := n1_; have HB := n2_; clear n0_ n1_ n2_; (try clear hb); (try clear hb2); (try clear hk); (try clear hi); (try clear ho0)))
    go_ret
    exact ⟨_, ers, by (with_reducible repeat (first | apply Kd.R_alloc | apply Kd.R_drewN | apply Kd.R_drew)); exact Kd.R_mono HO418.out (fun _ hk => trivial), by repeat (first | (with_reducible first | exact HB.out | apply bwA | apply bwN | apply bwD) | exact HB.out)⟩

/-! ### impl_GuessKept: function 22 -/
def impl_GuessKept.f (k : Nat) (l0 : List (S37)) (a1 : Int) (a2 : Int) : Option (List Int) := (impl_GuessCount.f k l0 a1).bind fun t431 => ((impl_in.f a2 0 (wrap64 (t431 - 1))).bind fun t432 => (if t432 = true then ((impl_truths.f k l0 a1 a2).bind fun t433 => ((impl_keeps.f k l0 t433).bind fun t436 => (some t436))) else (some ([] : List Int))))
theorem impl_GuessKept.mono : ∀ a0 a1 a2 k, LeO (impl_GuessKept.f k a0 a1 a2) (impl_GuessKept.f (k + 1) a0 a1 a2) := by
 intro a0 a1 a2 k
 unfold impl_GuessKept.f
 repeat' first
   | (with_reducible exact impl_GuessCount.mono _ _ _)
   | (with_reducible exact impl_keeps.mono _ _ _)
   | (with_reducible exact impl_truths.mono _ _ _ _)
   | (with_reducible exact LeO.refl _)
   | (with_reducible exact LeO.none _)
   | (with_reducible refine LeO.ite ?_ ?_)
   | (with_reducible refine LeO.bind ?_ (fun _ => ?_))
   | exact impl_GuessCount.mono _ _ _
   | exact impl_keeps.mono _ _ _
   | exact impl_truths.mono _ _ _ _
   | exact LeO.none _
   | refine LeO.ite ?_ ?_
   | refine LeO.bind ?_ (fun _ => ?_)
set_option maxHeartbeats 8000000 in
set_option maxRecDepth 100000 in
theorem impl_GuessKept.calls (k : Nat) (A0 : Option Addr) (c0 : Nat) (l0 : List (S37)) (a1 : Int) (a2 : Int) (r : List Int) (w : World) (hr0 : Kd.C k37 w A0 l0.length l0) (hc0 : l0.length ≤ c0) (h : impl_GuessKept.f k l0 a1 a2 = some r) :
  Calls Try.prog 22 #[.slice A0 l0.length c0, .int .i64 a1, .int .i64 a2] w fun e w' => ∃ v0_ : Value, e = .returned (v0_) ∧ Kd.R (Kd.int .i64) 3 w' w.heap.size (fun _ => True) v0_ r ∧ Below w.heap.size w w' := by
 have HR0 := Aside0.mk hr0
 have HC0 := Aside0.mk hc0
 clear hr0 hc0
 have HB := Aside0.mk (Below.refl w.heap.size w)
 have H : ((impl_GuessCount.f k l0 a1).bind fun t431 => ((impl_in.f a2 0 (wrap64 (t431 - 1))).bind fun t432 => (if t432 = true then ((impl_truths.f k l0 a1 a2).bind fun t433 => ((impl_keeps.f k l0 t433).bind fun t436 => (some t436))) else (some ([] : List Int))))) = some r := h
 clear h
 replace H := Option.bind_eq_some_iff.mp H
 obtain ⟨t431, A40, H⟩ := H
 replace H : ((impl_in.f a2 0 (wrap64 (t431 - 1))).bind fun t432 => (if t432 = true then ((impl_truths.f k l0 a1 a2).bind fun t433 => ((impl_keeps.f k l0 t433).bind fun t436 => (some t436))) else (some ([] : List Int)))) = some r := H
 have A4 := Aside0.mk A40
 clear A40
 replace H := Option.bind_eq_some_iff.mp H
 obtain ⟨t432, A50, H⟩ := H
 replace H : (if t432 = true then ((impl_truths.f k l0 a1 a2).bind fun t433 => ((impl_keeps.f k l0 t433).bind fun t436 => (some t436))) else (some ([] : List Int))) = some r := H
 have A5 := Aside0.mk A50
 clear A50
 by_cases c6 : t432 = true
 ·subst c6
  have H1 : ((impl_truths.f k l0 a1 a2).bind fun t433 => ((impl_keeps.f k l0 t433).bind fun t436 => (some t436))) = some r := by rw [if_pos rfl] at H; exact H
  clear H
  have H := H1
  clear H1
  replace H := Option.bind_eq_some_iff.mp H
  obtain ⟨t433, A70, H⟩ := H
  replace H : ((impl_keeps.f k l0 t433).bind fun t436 => (some t436)) = some r := H
  have A7 := Aside0.mk A70
  clear A70
  replace H := Option.bind_eq_some_iff.mp H
  obtain ⟨t436, A80, H⟩ := H
  replace H : (some t436) = some r := H
  have A8 := Aside0.mk A80
  clear A80
  obtain rfl := Option.some.inj H
  go_enter Try.func22, Try.ntmps22
  go_wp2_with (first | ((with_reducible refine gate_callee (f := 29) rfl ?_); refine goesL_ (some 10) rfl rfl Try.func29 (by kernel_rfl) rfl #[.slice A0 l0.length c0, .int .i64 a1] rfl lmB ?_; (with_reducible refine (impl_GuessCount.calls k _ _ l0 a1 t431 _ ?side1 ?side2 A4.out).mono ?_); (case side1 => repeat (first | exact HR0.out | (with_reducible refine Kd.C_alloc ?_ _) | (with_reducible refine Kd.C_drewN ?_ _) | (with_reducible refine Kd.C_drew ?_))); (case side2 => exact HC0.out); rintro e w9 ⟨rfl, hb⟩; refine ⟨_, rfl, ?_⟩; have n0_ := Aside0.mk (below_step (by repeat (first | (with_reducible first | exact HB.out | apply bwA | apply bwN | apply bwD) | exact HB.out)) hb); clear HB; have HB := n0_; clear n0_; (try clear hb); (try clear hb2); (try clear hk); (try clear hi)) | ((with_reducible refine gate_callee (f := 52) rfl ?_); refine goesL_ (some 12) rfl rfl Try.func52 (by kernel_rfl) rfl #[.int .i64 a2, .int .i64 0, .int .i64 (wrap64 (t431 - 1))] rfl lmB ?_; (with_reducible refine (impl_in.calls a2 0 (wrap64 (t431 - 1)) true _ A5.out).mono ?_); rintro e w' ⟨rfl, ⟨nd, rfl⟩⟩; refine ⟨_, rfl, ?_⟩) | ((with_reducible refine gate_callee (f := 54) rfl ?_); refine goesL_ (some 18) rfl rfl Try.func54 (by kernel_rfl) rfl #[.slice A0 l0.length c0, .int .i64 a1, .int .i64 a2] rfl lmB ?_; (with_reducible refine (impl_truths.calls k _ _ l0 a1 a2 t433 _ ?side1 ?side2 A7.out).mono ?_); (case side1 => repeat (first | exact (Kd.C_below HR0.out (by repeat (first | (with_reducible first | exact HB.out | apply bwA | apply bwN | apply bwD) | exact HB.out))) | (with_reducible refine Kd.C_alloc ?_ _) | (with_reducible refine Kd.C_drewN ?_ _) | (with_reducible refine Kd.C_drew ?_))); (case side2 => exact HC0.out); rintro e w10 ⟨v434, rfl, ho0, hb⟩; refine ⟨_, rfl, ?_⟩; have n0_ := Aside0.mk (Kd.R_lower ho0 (below_size (by repeat (first | (with_reducible first | exact HB.out | apply bwA | apply bwN | apply bwD) | exact HB.out)))); have n1_ := Aside0.mk (below_step (by repeat (first | (with_reducible first | exact HB.out | apply bwA | apply bwN | apply bwD) | exact HB.out)) hb); clear HB; have HO435 := n0_; have HB := n1_; clear n0_ n1_; (try clear hb); (try clear hb2); (try clear hk); (try clear hi); (try clear ho0); obtain ⟨Ao11, co11, eo11⟩ := Kd.R_slice HO435.out; subst eo11) | ((with_reducible refine gate_callee (f := 60) rfl ?_); refine goesL_ (some 19) rfl rfl Try.func60 (by kernel_rfl) rfl #[.slice A0 l0.length c0, .slice Ao11 t433.length co11] rfl lmB ?_; (with_reducible refine (impl_keeps.calls k _ _ l0 _ _ t433 t436 _ ?side1 ?side2 ?side3 ?side4 A8.out).mono ?_); (case side1 => repeat (first | exact (Kd.C_below HR0.out HB.out) | (with_reducible refine Kd.C_alloc ?_ _) | (with_reducible refine Kd.C_drewN ?_ _) | (with_reducible refine Kd.C_drew ?_))); (case side2 => exact HC0.out); (case side3 => repeat (first | exact (Kd.R_reads' HO435.out).2.2 | (with_reducible refine Kd.C_alloc ?_ _) | (with_reducible refine Kd.C_drewN ?_ _) | (with_reducible refine Kd.C_drew ?_))); (case side4 => exact (Kd.R_reads' HO435.out).2.1); rintro e w12 ⟨v437, rfl, ho0, hb⟩; refine ⟨_, rfl, ?_⟩; have n0_ := Aside0.mk (Kd.R_elder' (rvR HO435.out) (Kd.R_base ho0) hb); have n1_ := Aside0.mk (Kd.R_lower (Kd.R_new' ho0 (Kd.R_lt (rvR HO435.out))) (below_size (by repeat (first | (with_reducible first | exact HB.out | apply bwA | apply bwN | apply bwD) | exact HB.out)))); have n2_ := Aside0.mk (below_step (by repeat (first | (with_reducible first | exact HB.out | apply bwA | apply bwN | apply bwD) | exact HB.out)) hb); clear HO435; clear HB; have HO435 := n0_; have HO438 := n1_; have HB := n2_; clear n0_ n1_ n2_; (try clear hb); (try clear hb2); (try clear hk); (try clear hi); (try clear ho0)))
  go_ret
  exact ⟨_, ers, by (with_reducible repeat (first | apply Kd.R_alloc | apply Kd.R_drewN | apply Kd.R_drew)); exact Kd.R_mono HO438.out (fun _ hk => trivial), by repeat (first | (with_reducible first | exact HB.out | apply bwA | apply bwN | apply bwD) | exact HB.out)⟩
 ·replace c6 := Bool.eq_false_iff.mpr c6
  subst c6
  have H1 : (some ([] : List Int)) = some r := by rw [if_neg (show ¬ (false = true) by decide)] at H; exact H
  clear H
  have H := H1
  clear H1
  obtain rfl := Option.some.inj H
  go_enter Try.func22, Try.ntmps22
  go_wp2_with (first | ((with_reducible refine gate_callee (f := 29) rfl ?_); refine goesL_ (some 10) rfl rfl Try.func29 (by kernel_rfl) rfl #[.slice A0 l0.length c0, .int .i64 a1] rfl lmB ?_; (with_reducible refine (impl_GuessCount.calls k _ _ l0 a1 t431 _ ?side1 ?side2 A4.out).mono ?_); (case side1 => repeat (first | exact HR0.out | (with_reducible refine Kd.C_alloc ?_ _) | (with_reducible refine Kd.C_drewN ?_ _) | (with_reducible refine Kd.C_drew ?_))); (case side2 => exact HC0.out); rintro e w13 ⟨rfl, hb⟩; refine ⟨_, rfl, ?_⟩; have n0_ := Aside0.mk (below_step (by repeat (first | (with_reducible first | exact HB.out | apply bwA | apply bwN | apply bwD) | exact HB.out)) hb); clear HB; have HB := n0_; clear n0_; (try clear hb); (try clear hb2); (try clear hk); (try clear hi)) | ((with_reducible refine gate_callee (f := 52) rfl ?_); refine goesL_ (some 12) rfl rfl Try.func52 (by kernel_rfl) rfl #[.int .i64 a2, .int .i64 0, .int .i64 (wrap64 (t431 - 1))] rfl lmB ?_; (with_reducible refine (impl_in.calls a2 0 (wrap64 (t431 - 1)) false _ A5.out).mono ?_); rintro e w' ⟨rfl, ⟨nd, rfl⟩⟩; refine ⟨_, rfl, ?_⟩))
  go_ret
  exact ⟨_, ers, by first | exact Kd.R_nil _ _ _ _ _ | exact Kd.N_nil _ _ _ _ _ | exact Kd.V_nil _ _ _ _ _ | exact Kd.Q_nil _ _ _ _ _ | exact Kd.S_nil _ _ _ _ _, by repeat (first | (with_reducible first | exact HB.out | apply bwA | apply bwN | apply bwD) | exact HB.out)⟩

end Go.Proofs.Ytdigdhckbhlkmaa.QFnGuessNext
