-- Written by a program of this session (mk.py). Lean checks it.
import Derived.Test.YtpfkgmcbogcmoaaQFnEvalUsedx0
import Derived.Test.YtpfkgmcbogcmoaaQFnEvalUsedx3
namespace Go.Proofs.Ytpfkgmcbogcmoaa.QFnEvalUsed
open Go.RowKit Go.Proofs.YtpfkgmcbogcmoaaW.PrintWords Go.Proofs.YtpfkgmcbogcmoaaW.PrintLast Go.Proofs.YtpfkgmcbogcmoaaW.PrintMore
attribute [local go_sem] max2_int min2_int max_two min_two max_three min_three max_four min_four   -- for this text's walks alone
set_option linter.unusedVariables false
set_option linter.unusedSimpArgs false

/-! ### spec_l1Values: function 54 -/
def spec_l1Values.l0 : Nat → List (S73) → List Int → List Int → Int → Option (List Int)
 | 0, _, _, _, _ => none
 | k + 1, x0, x1, x5, x6 => if x6 < (x0.length : Int) then (if 0 ≤ x6 then (if ((rd_T73 x0 x6).f0) = 0 then (if x5.length < 17592186044416 then (spec_l1Values.l0 k x0 x1 (x5 ++ [(rd_T73 x0 x6).f1]) (wrap64 (x6 + 1))) else (none)) else (if ((rd_T73 x0 x6).f0) = 1 then (if 0 ≤ ((rd_T73 x0 x6).f1) then (if ((rd_T73 x0 x6).f1) < (x1.length : Int) then (if x5.length < 17592186044416 then (spec_l1Values.l0 k x0 x1 (x5 ++ [rd x1 ((rd_T73 x0 x6).f1)]) (wrap64 (x6 + 1))) else (none)) else (none)) else (none)) else (if 0 ≤ ((rd_T73 x0 x6).f2) then (if ((rd_T73 x0 x6).f2) < (x5.length : Int) then (if 0 ≤ ((rd_T73 x0 x6).f3) then (if ((rd_T73 x0 x6).f3) < (x5.length : Int) then ((spec_l1Do.f ((rd_T73 x0 x6).f0) (rd x5 ((rd_T73 x0 x6).f2)) (rd x5 ((rd_T73 x0 x6).f3))).bind fun t145 => (if x5.length < 17592186044416 then (spec_l1Values.l0 k x0 x1 (x5 ++ [t145]) (wrap64 (x6 + 1))) else (none))) else (none)) else (none)) else (none)) else (none)))) else (none)) else (some x5)
def spec_l1Values.f (k : Nat) (l0 : List (S73)) (l1 : List Int) : Option (List Int) := spec_l1Values.l0 k l0 l1 (([] : List Int)) 0
theorem spec_l1Values.mono_l : ∀ k, (∀ y0 y1 y2 y3, LeO (spec_l1Values.l0 k y0 y1 y2 y3) (spec_l1Values.l0 (k + 1) y0 y1 y2 y3))
 | 0 => fun _ _ _ _ r h => by simp [spec_l1Values.l0] at h
 | k + 1 => by
  have ih0 := spec_l1Values.mono_l k
  ·intro y0 y1 y2 y3
   unfold spec_l1Values.l0
   repeat' first
   | (with_reducible exact ih0 _ _ _ _)
   | (with_reducible exact LeO.refl _)
   | (with_reducible exact LeO.none _)
   | (with_reducible refine LeO.ite ?_ ?_)
   | (with_reducible refine LeO.bind ?_ (fun _ => ?_))
   | exact ih0 _ _ _ _
   | exact LeO.none _
   | refine LeO.ite ?_ ?_
   | refine LeO.bind ?_ (fun _ => ?_)
theorem spec_l1Values.mono : ∀ a0 a1 k, LeO (spec_l1Values.f k a0 a1) (spec_l1Values.f (k + 1) a0 a1) := by
 intro a0 a1 k
 have ih0 := spec_l1Values.mono_l k
 unfold spec_l1Values.f
 repeat' first
   | (with_reducible exact ih0 _ _ _ _)
   | (with_reducible exact LeO.refl _)
   | (with_reducible exact LeO.none _)
   | (with_reducible refine LeO.ite ?_ ?_)
   | (with_reducible refine LeO.bind ?_ (fun _ => ?_))
   | exact ih0 _ _ _ _
   | exact LeO.none _
   | refine LeO.ite ?_ ?_
   | refine LeO.bind ?_ (fun _ => ?_)
def spec_l1Values.T10 : Bool × List (List Nat × List Nat) := (true, [([], []), ([], []), ([1], [1]), ([], []), ([], []), ([4], [4]), ([3, 5], [3, 5]), ([6], [6]), ([], []), ([], []), ([9], [9]), ([8, 10], [8, 10]), ([11], [11]), ([2, 7, 12], [2, 7, 12]), ([13], [13]), ([0, 14, 13], [0, 14]), ([15, 15, 0, 1, 2, 3, 4, 5, 6, 7, 8, 9, 10, 11, 12, 13, 14, 15], [0, 3, 8, 15])])
def spec_l1Values.B10 : List Nat := [0, 0, 2, 0, 0, 16, 56, 120, 0, 0, 512, 1792, 3840, 8190, 16382, 32767, 65535]
theorem spec_l1Values.tab10 : rtab .any (opsOf Try.f54 10) = spec_l1Values.T10 := by kernel_rfl
theorem spec_l1Values.bits10 : waitsOk spec_l1Values.T10.2 spec_l1Values.B10 = true := by kernel_rfl
set_option maxHeartbeats 8000000 in
set_option maxRecDepth 100000 in
theorem spec_l1Values.calls (k : Nat) (A0 : Option Addr) (c0 : Nat) (l0 : List (S73)) (A1 : Option Addr) (c1 : Nat) (l1 : List Int) (r : List Int) (w : World) (hr0 : Kd.C k73 w A0 l0.length l0) (hc0 : l0.length ≤ c0) (hr1 : Kd.C (Kd.int .i64) w A1 l1.length l1) (hc1 : l1.length ≤ c1) (h : spec_l1Values.f k l0 l1 = some r) :
  Calls Try.prog 54 #[.slice A0 l0.length c0, .slice A1 l1.length c1] w fun e w' => ∃ v0_ : Value, e = .returned (v0_) ∧ Kd.R (Kd.int .i64) 3 w' w.heap.size (fun _ => True) v0_ r ∧ Below w.heap.size w w' := by
 have hu73 := Try.underlying73
 have HR0 := Aside0.mk hr0
 have HC0 := Aside0.mk hc0
 clear hr0 hc0
 have HR1 := Aside0.mk hr1
 have HC1 := Aside0.mk hc1
 clear hr1 hc1
 have HB := Aside0.mk (Below.refl w.heap.size w)
 have H : (spec_l1Values.l0 k l0 l1 (([] : List Int)) 0) = some r := h
 clear h
 obtain ⟨y131, hy131⟩ : ∃ y_ : List Int, y_ = (([] : List Int)) := ⟨_, rfl⟩
 replace H : (spec_l1Values.l0 k l0 l1 y131 0) = some r := by first | (rw [hy131]; with_reducible exact H) | (have H2_ := (Option.bind_some _ _).symm.trans H; rw [hy131]; with_reducible exact H2_) | (have H2_ := (Option.bind_some _ _).symm.trans H; with_reducible exact H2_) | with_reducible exact H | (rw [hy131]; exact H) | exact H
 have Ny131 := Aside0.mk hy131
 clear hy131
 have H' := Aside0.mk H
 clear H
 go_enter Try.func54, Try.ntmps54
 go_wp2_with (first | ((with_reducible refine gate_dst (N := 8) rfl ?_); refine Kd.R_lit (Kd.int .i64) _ 3 ?hg (N := 8) ?hd (xs := ([] : List Int)) (inner := []) (ok := fun _ => True) (okp := fun _ => True) ?hr ?hp (fun _ hk => hk) trivial (Below.refl _ _) (Nat.le_refl _) (by simp) ?_; (case hd => rfl); (case hg => rfl); (case hr => first | (go_simp; done) | (go_simp; rfl)); (case hp => exact (Reps.none _ _)); intro v132 w3 ho4 hb hg_ hnew_; clear hg_ hnew_; (first | rw [← Ny131.out] at ho4 | (simp only [Int.reduceToNat] at ho4; rw [← Ny131.out] at ho4)); have n0_ := Aside0.mk (Kd.R_lower ho4 (below_size (by repeat (first | (with_reducible first | exact HB.out | apply bwA | apply bwN | apply bwD) | exact HB.out)))); have n1_ := Aside0.mk (below_step (by repeat (first | (with_reducible first | exact HB.out | apply bwA | apply bwN | apply bwD) | exact HB.out)) hb); clear HB; have HO133 := n0_; have HB := n1_; clear n0_ n1_; clear hb ho4))
 go_loopg [5, 6] k (fun kq v5 v6 w' => ∃ (x5_1 : List Int) (x6_1 : Int), v6 = .int .i64 x6_1 ∧ Aside0 (spec_l1Values.l0 kq l0 l1 x5_1 x6_1 = some r) ∧ Aside0 (kq ≤ k) ∧ Aside0 (Kd.R (Kd.int .i64) 3 w' w.heap.size (fun _ => True) v5 x5_1) ∧ Aside0 (Below w.heap.size w w'))
 case atStart => exact ⟨(y131), (0), (by first | rfl | (simp; done) | (simp [*]; done)), H', ⟨Nat.le_refl _⟩, ⟨by (with_reducible repeat (first | apply Kd.R_alloc | apply Kd.R_drewN | apply Kd.R_drew)); exact HO133.out⟩, ⟨by repeat (first | (with_reducible first | exact HB.out | apply bwA | apply bwN | apply bwD) | exact HB.out)⟩⟩
 case round =>
  clear H'
  try clear c1
  try clear p2
  obtain ⟨x5_1, x6_1, rfl, HA, HK1, HO_5, HB⟩ := hrel
  cases gk with
  | zero => exact absurd HA.out (by simp [spec_l1Values.l0])
  | succ k1 =>
   have H := HA.out
   clear HA
   simp only [spec_l1Values.l0] at H
   by_cases c5 : x6_1 < (l0.length : Int)
   ·rw [if_pos c5] at H
    have c5b0 : decide (x6_1 < (l0.length : Int)) = true := decide_eq_true c5
    clear c5
    by_cases c6 : 0 ≤ x6_1
    ·rw [if_pos c6] at H
     have c6b0 : decide (0 ≤ x6_1) = true := decide_eq_true c6
     clear c6
     by_cases c7 : ((rd_T73 l0 x6_1).f0) = 0
     ·rw [if_pos c7] at H
      have c7b0 : (((rd_T73 l0 x6_1).f0) == 0) = true := beq_iff_eq.mpr c7
      have c7b1 : (((rd_T73 l0 x6_1).f0) != 0) = false := bne_eq_false_iff_eq.mpr c7
      clear c7
      by_cases c8 : x5_1.length < 17592186044416
      ·rw [if_pos c8] at H
       have LMc8 := Aside0.mk c8
       clear c8
       obtain ⟨y136, hy136⟩ : ∃ y_ : List Int, y_ = (x5_1 ++ [(rd_T73 l0 x6_1).f1]) := ⟨_, rfl⟩
       replace H : (spec_l1Values.l0 k1 l0 l1 y136 (wrap64 (x6_1 + 1))) = some r := by first | (rw [hy136]; with_reducible exact H) | (have H2_ := (Option.bind_some _ _).symm.trans H; rw [hy136]; with_reducible exact H2_) | (have H2_ := (Option.bind_some _ _).symm.trans H; with_reducible exact H2_) | with_reducible exact H | (rw [hy136]; exact H) | exact H
       have Ny136 := Aside0.mk hy136
       clear hy136
       have H' := Aside0.mk H
       clear H
       have p134 : 0 ≤ (x6_1 : Int) := of_decide_eq_true (by first | (with_reducible assumption) | assumption)
       have q134 : x6_1 < (l0.length : Int) := of_decide_eq_true (by first | (with_reducible assumption) | assumption)
       obtain ⟨ad134, e134, hx134_0, hx134_1, hx134_2, hx134_3⟩ := at_T73 HR0.out x6_1 p134 q134
       cases e134
       try replace hx134_0 := (HB.out.cell (World.block_lt_of_cell? w _ hx134_0)).trans hx134_0
       try replace hx134_1 := (HB.out.cell (World.block_lt_of_cell? w _ hx134_1)).trans hx134_1
       try replace hx134_2 := (HB.out.cell (World.block_lt_of_cell? w _ hx134_2)).trans hx134_2
       try replace hx134_3 := (HB.out.cell (World.block_lt_of_cell? w _ hx134_3)).trans hx134_3
       replace p134 := eq_true p134
       replace q134 := eq_true q134
       go_wp2_with (first | ((with_reducible refine gate_dst (N := 7) rfl ?_); refine box_event ?hg (N := 7) ?hd (cs := #[.int .i64 0, .int .i64 0, .int .i64 0, .int .i64 0]) (t := 73) ?hr ?_; (case hd => rfl); (case hg => rfl); (case hr => first | (go_simp; done) | (go_simp; rfl)); intro gb135 hg w9 hbox hb; have n0_ := Aside0.mk (Kd.R_below (by (with_reducible repeat (first | apply Kd.R_alloc | apply Kd.R_drewN | apply Kd.R_drew)); exact HO_5.out) hb); have n1_ := Aside0.mk (below_step (by repeat (first | (with_reducible first | exact HB.out | apply bwA | apply bwN | apply bwD) | exact HB.out)) hb); have n2_ := Aside0.mk (hbox); have n3_ := Aside0.mk ((by rw [hg]; exact (below_size (by repeat (first | (with_reducible first | exact HB.out | apply bwA | apply bwN | apply bwD) | exact HB.out))) : w.heap.size ≤ gb135)); have n4_ := Aside0.mk ((by rw [hg]; exact (below_size (by repeat (first | (with_reducible first | exact HB.out | apply bwA | apply bwN | apply bwD) | exact HB.out))) : w.heap.size ≤ gb135)); clear HO_5; clear HB; have HO_5 := n0_; have HB := n1_; have BK135 := n2_; have GW135 := n3_; have GE135 := n4_; clear n0_ n1_ n2_ n3_ n4_; clear hb hbox hg; have hcz10_0 : w9.cell? ⟨gb135, 0, none⟩ = some (.int .i64 0) := (blk_cell BK135.out 0).trans rfl; have hcz10_1 : w9.cell? ⟨gb135, 1, none⟩ = some (.int .i64 0) := (blk_cell BK135.out 1).trans rfl; have hcz10_2 : w9.cell? ⟨gb135, 2, none⟩ = some (.int .i64 0) := (blk_cell BK135.out 2).trans rfl; have hcz10_3 : w9.cell? ⟨gb135, 3, none⟩ = some (.int .i64 0) := (blk_cell BK135.out 3).trans rfl; have hfz10_0 := blk_frozen BK135.out 0; have hfz10_1 := blk_frozen BK135.out 1; have hfz10_2 := blk_frozen BK135.out 2; have hfz10_3 := blk_frozen BK135.out 3) | ((with_reducible refine gate_builtin (b := .append) (xs := #[.tmp 22, .tmp 25]) rfl ?_); at_builtin; refine Kd.R_append (Kd.int .i64) (w0 := w) w.heap.size rfl (.tmp 22) (.tmp 25) 23 3 (.int .i64 0) 8 rfl Try.underlying23 info3 rfl (by decide) (by omega) u5 x5_1 ((rd_T73 l0 x6_1).f1) [.int .i64 ((rd_T73 l0 x6_1).f1)] (fun _ => True) (fun _ => False) rfl (by first | (go_simp; done) | (go_simp; rfl)) ?aP (fun _ hk => hk.elim) ?aF ?aO ?aB ?aS ?aL ?_; (case aP => exact rfl); (case aB => exact (by repeat (first | (with_reducible first | exact HB.out | apply bwA | apply bwN | apply bwD | refine below_set ?_ GE135.out) | exact HB.out))); (case aF => exact (fun _ _ => trivial)); (case aO => exact (by (with_reducible repeat (first | apply Kd.R_alloc | apply Kd.R_drewN | apply Kd.R_drew)); exact Kd.R_mono (Kd.R_far (p := ⟨gb135, 3, none⟩) (Kd.R_far (p := ⟨gb135, 2, none⟩) (Kd.R_far (p := ⟨gb135, 1, none⟩) (Kd.R_far (p := ⟨gb135, 0, none⟩) (Kd.R_types HO_5.out BK135.out (by decide)) (fun _ hk => hk.2) (.int .i64 ((rd_T73 l0 x6_1).f0))) (fun _ hk => hk.2) (.int .i64 ((rd_T73 l0 x6_1).f1))) (fun _ hk => hk.2) (.int .i64 ((rd_T73 l0 x6_1).f2))) (fun _ hk => hk.2) (.int .i64 ((rd_T73 l0 x6_1).f3))) (fun _ hk => trivial))); (case aS => exact (below_size (by repeat (first | (with_reducible first | exact HB.out | apply bwA | apply bwN | apply bwD | refine below_set ?_ GE135.out) | exact HB.out)))); (case aL => have := LMc8.out; omega); intro v137 w11 ho hb hg hat; rw [← Ny136.out] at ho; have n0_ := Aside0.mk (blk_grown (g := gb135) (o := .cells #[.int .i64 ((rd_T73 l0 x6_1).f0), .int .i64 ((rd_T73 l0 x6_1).f1), .int .i64 ((rd_T73 l0 x6_1).f2), .int .i64 ((rd_T73 l0 x6_1).f3)] 73 (0, 0)) (by (with_reducible repeat (first | refine blk_drewN ?_ _ | refine blk_drew ?_ | refine blk_alloc ?_ _)); refine blk_put (cs := #[.int .i64 ((rd_T73 l0 x6_1).f0), .int .i64 ((rd_T73 l0 x6_1).f1), .int .i64 ((rd_T73 l0 x6_1).f2), .int .i64 0]) ?_ 3 _ rfl; (with_reducible repeat (first | refine blk_drewN ?_ _ | refine blk_drew ?_ | refine blk_alloc ?_ _)); refine blk_put (cs := #[.int .i64 ((rd_T73 l0 x6_1).f0), .int .i64 ((rd_T73 l0 x6_1).f1), .int .i64 0, .int .i64 0]) ?_ 2 _ rfl; (with_reducible repeat (first | refine blk_drewN ?_ _ | refine blk_drew ?_ | refine blk_alloc ?_ _)); refine blk_put (cs := #[.int .i64 ((rd_T73 l0 x6_1).f0), .int .i64 0, .int .i64 0, .int .i64 0]) ?_ 1 _ rfl; (with_reducible repeat (first | refine blk_drewN ?_ _ | refine blk_drew ?_ | refine blk_alloc ?_ _)); refine blk_put (cs := #[.int .i64 0, .int .i64 0, .int .i64 0, .int .i64 0]) ?_ 0 _ rfl; (with_reducible repeat (first | refine blk_drewN ?_ _ | refine blk_drew ?_ | refine blk_alloc ?_ _)); exact BK135.out) hg (Kd.R_ne HO_5.out BK135.out (by decide))); have n1_ := Aside0.mk (hb); have n2_ := Aside0.mk (ho); clear BK135; clear HB; clear HO_5; have BK135 := n0_; have HB := n1_; have HO138 := n2_; clear n0_ n1_ n2_; clear ho hb hg hat))
       go_roundg k1
       case measure => have := HK1.out; omega
       case rel => exact ⟨(y136), (wrap64 (x6_1 + 1)), (by first | rfl | (simp; done) | (simp [*]; done)), H', ⟨by have := HK1.out; omega⟩, ⟨by (with_reducible repeat (first | apply Kd.R_alloc | apply Kd.R_drewN | apply Kd.R_drew)); exact HO138.out⟩, ⟨by repeat (first | (with_reducible first | exact HB.out | apply bwA | apply bwN | apply bwD | refine below_set ?_ GE135.out) | exact HB.out)⟩⟩
      ·rw [if_neg c8] at H
       exact absurd H (by simp)
     ·rw [if_neg c7] at H
      have c7b0 : (((rd_T73 l0 x6_1).f0) == 0) = false := beq_eq_false_iff_ne.mpr c7
      have c7b1 : (((rd_T73 l0 x6_1).f0) != 0) = true := bne_iff_ne.mpr c7
      by_cases c12 : ((rd_T73 l0 x6_1).f0) = 1
      ·rw [if_pos c12] at H
       have c12b0 : (((rd_T73 l0 x6_1).f0) == 1) = true := beq_iff_eq.mpr c12
       have c12b1 : (((rd_T73 l0 x6_1).f0) != 1) = false := bne_eq_false_iff_eq.mpr c12
       clear c12
       by_cases c13 : 0 ≤ ((rd_T73 l0 x6_1).f1)
       ·rw [if_pos c13] at H
        have c13b0 : decide (0 ≤ ((rd_T73 l0 x6_1).f1)) = true := decide_eq_true c13
        clear c13
        by_cases c14 : ((rd_T73 l0 x6_1).f1) < (l1.length : Int)
        ·rw [if_pos c14] at H
         have c14b0 : decide (((rd_T73 l0 x6_1).f1) < (l1.length : Int)) = true := decide_eq_true c14
         clear c14
         by_cases c15 : x5_1.length < 17592186044416
         ·rw [if_pos c15] at H
          have LMc15 := Aside0.mk c15
          clear c15
          obtain ⟨y140, hy140⟩ : ∃ y_ : List Int, y_ = (x5_1 ++ [rd l1 ((rd_T73 l0 x6_1).f1)]) := ⟨_, rfl⟩
          replace H : (spec_l1Values.l0 k1 l0 l1 y140 (wrap64 (x6_1 + 1))) = some r := by first | (rw [hy140]; with_reducible exact H) | (have H2_ := (Option.bind_some _ _).symm.trans H; rw [hy140]; with_reducible exact H2_) | (have H2_ := (Option.bind_some _ _).symm.trans H; with_reducible exact H2_) | with_reducible exact H | (rw [hy140]; exact H) | exact H
          have Ny140 := Aside0.mk hy140
          clear hy140
          have H' := Aside0.mk H
          clear H
          have p134 : 0 ≤ (x6_1 : Int) := of_decide_eq_true (by first | (with_reducible assumption) | assumption)
          have q134 : x6_1 < (l0.length : Int) := of_decide_eq_true (by first | (with_reducible assumption) | assumption)
          obtain ⟨ad134, e134, hx134_0, hx134_1, hx134_2, hx134_3⟩ := at_T73 HR0.out x6_1 p134 q134
          cases e134
          try replace hx134_0 := (HB.out.cell (World.block_lt_of_cell? w _ hx134_0)).trans hx134_0
          try replace hx134_1 := (HB.out.cell (World.block_lt_of_cell? w _ hx134_1)).trans hx134_1
          try replace hx134_2 := (HB.out.cell (World.block_lt_of_cell? w _ hx134_2)).trans hx134_2
          try replace hx134_3 := (HB.out.cell (World.block_lt_of_cell? w _ hx134_3)).trans hx134_3
          replace p134 := eq_true p134
          replace q134 := eq_true q134
          go_wp2_with (first | ((with_reducible refine gate_dst (N := 7) rfl ?_); refine box_event ?hg (N := 7) ?hd (cs := #[.int .i64 0, .int .i64 0, .int .i64 0, .int .i64 0]) (t := 73) ?hr ?_; (case hd => rfl); (case hg => rfl); (case hr => first | (go_simp; done) | (go_simp; rfl)); intro gb135 hg w16 hbox hb; have n0_ := Aside0.mk (Kd.R_below (by (with_reducible repeat (first | apply Kd.R_alloc | apply Kd.R_drewN | apply Kd.R_drew)); exact HO_5.out) hb); have n1_ := Aside0.mk (below_step (by repeat (first | (with_reducible first | exact HB.out | apply bwA | apply bwN | apply bwD) | exact HB.out)) hb); have n2_ := Aside0.mk (hbox); have n3_ := Aside0.mk ((by rw [hg]; exact (below_size (by repeat (first | (with_reducible first | exact HB.out | apply bwA | apply bwN | apply bwD) | exact HB.out))) : w.heap.size ≤ gb135)); have n4_ := Aside0.mk ((by rw [hg]; exact (below_size (by repeat (first | (with_reducible first | exact HB.out | apply bwA | apply bwN | apply bwD) | exact HB.out))) : w.heap.size ≤ gb135)); clear HO_5; clear HB; have HO_5 := n0_; have HB := n1_; have BK135 := n2_; have GW135 := n3_; have GE135 := n4_; clear n0_ n1_ n2_ n3_ n4_; clear hb hbox hg; have hcz17_0 : w16.cell? ⟨gb135, 0, none⟩ = some (.int .i64 0) := (blk_cell BK135.out 0).trans rfl; have hcz17_1 : w16.cell? ⟨gb135, 1, none⟩ = some (.int .i64 0) := (blk_cell BK135.out 1).trans rfl; have hcz17_2 : w16.cell? ⟨gb135, 2, none⟩ = some (.int .i64 0) := (blk_cell BK135.out 2).trans rfl; have hcz17_3 : w16.cell? ⟨gb135, 3, none⟩ = some (.int .i64 0) := (blk_cell BK135.out 3).trans rfl; have hfz17_0 := blk_frozen BK135.out 0; have hfz17_1 := blk_frozen BK135.out 1; have hfz17_2 := blk_frozen BK135.out 2; have hfz17_3 := blk_frozen BK135.out 3; have p139 : 0 ≤ (((rd_T73 l0 x6_1).f1) : Int) := of_decide_eq_true (by first | (with_reducible assumption) | assumption); have q139 : ((rd_T73 l0 x6_1).f1) < (l1.length : Int) := of_decide_eq_true (by first | (with_reducible assumption) | assumption); obtain ⟨ad139, e139, hx139_0⟩ := Kd.at_int HR1.out ((rd_T73 l0 x6_1).f1) p139 q139; cases e139; have hn139_0 : ad139.block ≠ gb135 := Nat.ne_of_lt (Nat.lt_of_lt_of_le (by have := World.block_lt_of_cell? _ _ hx139_0; first | rwa [add_block] at this | exact this) GW135.out); have hn139_1 : ad139.block ≠ gb135 := Nat.ne_of_lt (Nat.lt_of_lt_of_le (by have := World.block_lt_of_cell? _ _ hx139_0; first | rwa [add_block] at this | exact this) GW135.out); have hn139_2 : ad139.block ≠ gb135 := Nat.ne_of_lt (Nat.lt_of_lt_of_le (by have := World.block_lt_of_cell? _ _ hx139_0; first | rwa [add_block] at this | exact this) GW135.out); have hn139_3 : ad139.block ≠ gb135 := Nat.ne_of_lt (Nat.lt_of_lt_of_le (by have := World.block_lt_of_cell? _ _ hx139_0; first | rwa [add_block] at this | exact this) GW135.out); replace hx139_0 := (HB.out.cell (World.block_lt_of_cell? w _ hx139_0)).trans hx139_0; replace hx139_0 := (cell_far (p := ⟨gb135, 0, none⟩) (by first | (rw [add_block]; exact hn139_0) | (show (Addr.add _ _).block ≠ _; rw [add_block]; exact hn139_0) | exact hn139_0) (.int .i64 ((rd_T73 l0 x6_1).f0))).trans hx139_0; replace hx139_0 := (cell_far (p := ⟨gb135, 1, none⟩) (by first | (rw [add_block]; exact hn139_1) | (show (Addr.add _ _).block ≠ _; rw [add_block]; exact hn139_1) | exact hn139_1) (.int .i64 ((rd_T73 l0 x6_1).f1))).trans hx139_0; replace hx139_0 := (cell_far (p := ⟨gb135, 2, none⟩) (by first | (rw [add_block]; exact hn139_2) | (show (Addr.add _ _).block ≠ _; rw [add_block]; exact hn139_2) | exact hn139_2) (.int .i64 ((rd_T73 l0 x6_1).f2))).trans hx139_0; replace hx139_0 := (cell_far (p := ⟨gb135, 3, none⟩) (by first | (rw [add_block]; exact hn139_3) | (show (Addr.add _ _).block ≠ _; rw [add_block]; exact hn139_3) | exact hn139_3) (.int .i64 ((rd_T73 l0 x6_1).f3))).trans hx139_0; clear hn139_0; clear hn139_1; clear hn139_2; clear hn139_3; replace p139 := eq_true p139; replace q139 := eq_true q139) | ((with_reducible refine gate_builtin (b := .append) (xs := #[.tmp 30, .tmp 36]) rfl ?_); at_builtin; refine Kd.R_append (Kd.int .i64) (w0 := w) w.heap.size rfl (.tmp 30) (.tmp 36) 23 3 (.int .i64 0) 8 rfl Try.underlying23 info3 rfl (by decide) (by omega) u5 x5_1 (rd l1 ((rd_T73 l0 x6_1).f1)) [.int .i64 (rd l1 ((rd_T73 l0 x6_1).f1))] (fun _ => True) (fun _ => False) rfl (by first | (go_simp; done) | (go_simp; rfl)) ?aP (fun _ hk => hk.elim) ?aF ?aO ?aB ?aS ?aL ?_; (case aP => exact rfl); (case aB => exact (by repeat (first | (with_reducible first | exact HB.out | apply bwA | apply bwN | apply bwD | refine below_set ?_ GE135.out) | exact HB.out))); (case aF => exact (fun _ _ => trivial)); (case aO => exact (by (with_reducible repeat (first | apply Kd.R_alloc | apply Kd.R_drewN | apply Kd.R_drew)); exact Kd.R_mono (Kd.R_far (p := ⟨gb135, 3, none⟩) (Kd.R_far (p := ⟨gb135, 2, none⟩) (Kd.R_far (p := ⟨gb135, 1, none⟩) (Kd.R_far (p := ⟨gb135, 0, none⟩) (Kd.R_types HO_5.out BK135.out (by decide)) (fun _ hk => hk.2) (.int .i64 ((rd_T73 l0 x6_1).f0))) (fun _ hk => hk.2) (.int .i64 ((rd_T73 l0 x6_1).f1))) (fun _ hk => hk.2) (.int .i64 ((rd_T73 l0 x6_1).f2))) (fun _ hk => hk.2) (.int .i64 ((rd_T73 l0 x6_1).f3))) (fun _ hk => trivial))); (case aS => exact (below_size (by repeat (first | (with_reducible first | exact HB.out | apply bwA | apply bwN | apply bwD | refine below_set ?_ GE135.out) | exact HB.out)))); (case aL => have := LMc15.out; omega); intro v141 w18 ho hb hg hat; rw [← Ny140.out] at ho; have n0_ := Aside0.mk (blk_grown (g := gb135) (o := .cells #[.int .i64 ((rd_T73 l0 x6_1).f0), .int .i64 ((rd_T73 l0 x6_1).f1), .int .i64 ((rd_T73 l0 x6_1).f2), .int .i64 ((rd_T73 l0 x6_1).f3)] 73 (0, 0)) (by (with_reducible repeat (first | refine blk_drewN ?_ _ | refine blk_drew ?_ | refine blk_alloc ?_ _)); refine blk_put (cs := #[.int .i64 ((rd_T73 l0 x6_1).f0), .int .i64 ((rd_T73 l0 x6_1).f1), .int .i64 ((rd_T73 l0 x6_1).f2), .int .i64 0]) ?_ 3 _ rfl; (with_reducible repeat (first | refine blk_drewN ?_ _ | refine blk_drew ?_ | refine blk_alloc ?_ _)); refine blk_put (cs := #[.int .i64 ((rd_T73 l0 x6_1).f0), .int .i64 ((rd_T73 l0 x6_1).f1), .int .i64 0, .int .i64 0]) ?_ 2 _ rfl; (with_reducible repeat (first | refine blk_drewN ?_ _ | refine blk_drew ?_ | refine blk_alloc ?_ _)); refine blk_put (cs := #[.int .i64 ((rd_T73 l0 x6_1).f0), .int .i64 0, .int .i64 0, .int .i64 0]) ?_ 1 _ rfl; (with_reducible repeat (first | refine blk_drewN ?_ _ | refine blk_drew ?_ | refine blk_alloc ?_ _)); refine blk_put (cs := #[.int .i64 0, .int .i64 0, .int .i64 0, .int .i64 0]) ?_ 0 _ rfl; (with_reducible repeat (first | refine blk_drewN ?_ _ | refine blk_drew ?_ | refine blk_alloc ?_ _)); exact BK135.out) hg (Kd.R_ne HO_5.out BK135.out (by decide))); have n1_ := Aside0.mk (hb); have n2_ := Aside0.mk (ho); clear BK135; clear HB; clear HO_5; have BK135 := n0_; have HB := n1_; have HO142 := n2_; clear n0_ n1_ n2_; clear ho hb hg hat))
          go_roundg k1
          case measure => have := HK1.out; omega
          case rel => exact ⟨(y140), (wrap64 (x6_1 + 1)), (by first | rfl | (simp; done) | (simp [*]; done)), H', ⟨by have := HK1.out; omega⟩, ⟨by (with_reducible repeat (first | apply Kd.R_alloc | apply Kd.R_drewN | apply Kd.R_drew)); exact HO142.out⟩, ⟨by repeat (first | (with_reducible first | exact HB.out | apply bwA | apply bwN | apply bwD | refine below_set ?_ GE135.out) | exact HB.out)⟩⟩
         ·rw [if_neg c15] at H
          exact absurd H (by simp)
        ·rw [if_neg c14] at H
         exact absurd H (by simp)
       ·rw [if_neg c13] at H
        exact absurd H (by simp)
      ·rw [if_neg c12] at H
       have c12b0 : (((rd_T73 l0 x6_1).f0) == 1) = false := beq_eq_false_iff_ne.mpr c12
       have c12b1 : (((rd_T73 l0 x6_1).f0) != 1) = true := bne_iff_ne.mpr c12
       by_cases c19 : 0 ≤ ((rd_T73 l0 x6_1).f2)
       ·rw [if_pos c19] at H
        have c19b0 : decide (0 ≤ ((rd_T73 l0 x6_1).f2)) = true := decide_eq_true c19
        clear c19
        by_cases c20 : ((rd_T73 l0 x6_1).f2) < (x5_1.length : Int)
        ·rw [if_pos c20] at H
         have c20b0 : decide (((rd_T73 l0 x6_1).f2) < (x5_1.length : Int)) = true := decide_eq_true c20
         clear c20
         by_cases c21 : 0 ≤ ((rd_T73 l0 x6_1).f3)
         ·rw [if_pos c21] at H
          have c21b0 : decide (0 ≤ ((rd_T73 l0 x6_1).f3)) = true := decide_eq_true c21
          clear c21
          by_cases c22 : ((rd_T73 l0 x6_1).f3) < (x5_1.length : Int)
          ·rw [if_pos c22] at H
           have c22b0 : decide (((rd_T73 l0 x6_1).f3) < (x5_1.length : Int)) = true := decide_eq_true c22
           clear c22
           replace H := Option.bind_eq_some_iff.mp H
           obtain ⟨t145, A230, H⟩ := H
           replace H : (if x5_1.length < 17592186044416 then (spec_l1Values.l0 k1 l0 l1 (x5_1 ++ [t145]) (wrap64 (x6_1 + 1))) else (none)) = some r := H
           have A23 := Aside0.mk A230
           clear A230
           by_cases c24 : x5_1.length < 17592186044416
           ·rw [if_pos c24] at H
            have LMc24 := Aside0.mk c24
            clear c24
            obtain ⟨y146, hy146⟩ : ∃ y_ : List Int, y_ = (x5_1 ++ [t145]) := ⟨_, rfl⟩
            replace H : (spec_l1Values.l0 k1 l0 l1 y146 (wrap64 (x6_1 + 1))) = some r := by first | (rw [hy146]; with_reducible exact H) | (have H2_ := (Option.bind_some _ _).symm.trans H; rw [hy146]; with_reducible exact H2_) | (have H2_ := (Option.bind_some _ _).symm.trans H; with_reducible exact H2_) | with_reducible exact H | (rw [hy146]; exact H) | exact H
            have Ny146 := Aside0.mk hy146
            clear hy146
            have H' := Aside0.mk H
            clear H
            have p134 : 0 ≤ (x6_1 : Int) := of_decide_eq_true (by first | (with_reducible assumption) | assumption)
            have q134 : x6_1 < (l0.length : Int) := of_decide_eq_true (by first | (with_reducible assumption) | assumption)
            obtain ⟨ad134, e134, hx134_0, hx134_1, hx134_2, hx134_3⟩ := at_T73 HR0.out x6_1 p134 q134
            cases e134
            try replace hx134_0 := (HB.out.cell (World.block_lt_of_cell? w _ hx134_0)).trans hx134_0
            try replace hx134_1 := (HB.out.cell (World.block_lt_of_cell? w _ hx134_1)).trans hx134_1
            try replace hx134_2 := (HB.out.cell (World.block_lt_of_cell? w _ hx134_2)).trans hx134_2
            try replace hx134_3 := (HB.out.cell (World.block_lt_of_cell? w _ hx134_3)).trans hx134_3
            replace p134 := eq_true p134
            replace q134 := eq_true q134
            try go_wp2_with (first | ((with_reducible refine gate_dst (N := 7) rfl ?_); refine box_event ?hg (N := 7) ?hd (cs := #[.int .i64 0, .int .i64 0, .int .i64 0, .int .i64 0]) (t := 73) ?hr ?_; (case hd => rfl); (case hg => rfl); (case hr => first | (go_simp; done) | (go_simp; rfl)); intro gb135 hg w25 hbox hb; have n0_ := Aside0.mk (Kd.R_below (by (with_reducible repeat (first | apply Kd.R_alloc | apply Kd.R_drewN | apply Kd.R_drew)); exact HO_5.out) hb); have n1_ := Aside0.mk (below_step (by repeat (first | (with_reducible first | exact HB.out | apply bwA | apply bwN | apply bwD) | exact HB.out)) hb); have n2_ := Aside0.mk (hbox); have n3_ := Aside0.mk ((by rw [hg]; exact (below_size (by repeat (first | (with_reducible first | exact HB.out | apply bwA | apply bwN | apply bwD) | exact HB.out))) : w.heap.size ≤ gb135)); have n4_ := Aside0.mk ((by rw [hg]; exact (below_size (by repeat (first | (with_reducible first | exact HB.out | apply bwA | apply bwN | apply bwD) | exact HB.out))) : w.heap.size ≤ gb135)); clear HO_5; clear HB; have HO_5 := n0_; have HB := n1_; have BK135 := n2_; have GW135 := n3_; have GE135 := n4_; clear n0_ n1_ n2_ n3_ n4_; clear hb hbox hg; have hcz26_0 : w25.cell? ⟨gb135, 0, none⟩ = some (.int .i64 0) := (blk_cell BK135.out 0).trans rfl; have hcz26_1 : w25.cell? ⟨gb135, 1, none⟩ = some (.int .i64 0) := (blk_cell BK135.out 1).trans rfl; have hcz26_2 : w25.cell? ⟨gb135, 2, none⟩ = some (.int .i64 0) := (blk_cell BK135.out 2).trans rfl; have hcz26_3 : w25.cell? ⟨gb135, 3, none⟩ = some (.int .i64 0) := (blk_cell BK135.out 3).trans rfl; have hfz26_0 := blk_frozen BK135.out 0; have hfz26_1 := blk_frozen BK135.out 1; have hfz26_2 := blk_frozen BK135.out 2; have hfz26_3 := blk_frozen BK135.out 3))
            have n0_ : Aside0 (Kd.R (Kd.int .i64) 3 ((((w25.setCell ⟨gb135, 0, none⟩ (.int .i64 ((rd_T73 l0 x6_1).f0))).setCell ⟨gb135, 1, none⟩ (.int .i64 ((rd_T73 l0 x6_1).f1))).setCell ⟨gb135, 2, none⟩ (.int .i64 ((rd_T73 l0 x6_1).f2))).setCell ⟨gb135, 3, none⟩ (.int .i64 ((rd_T73 l0 x6_1).f3))) w.heap.size (fun _ => True) u5 x5_1) := ⟨by (with_reducible repeat (first | apply Kd.R_alloc | apply Kd.R_drewN | apply Kd.R_drew)); exact Kd.R_mono (Kd.R_far (p := ⟨gb135, 3, none⟩) (Kd.R_far (p := ⟨gb135, 2, none⟩) (Kd.R_far (p := ⟨gb135, 1, none⟩) (Kd.R_far (p := ⟨gb135, 0, none⟩) (Kd.R_types HO_5.out BK135.out (by decide)) (fun _ hk => hk.2) (.int .i64 ((rd_T73 l0 x6_1).f0))) (fun _ hk => hk.2) (.int .i64 ((rd_T73 l0 x6_1).f1))) (fun _ hk => hk.2) (.int .i64 ((rd_T73 l0 x6_1).f2))) (fun _ hk => hk.2) (.int .i64 ((rd_T73 l0 x6_1).f3))) (fun _ hk => trivial)⟩
            have n1_ : Aside0 (((((w25.setCell ⟨gb135, 0, none⟩ (.int .i64 ((rd_T73 l0 x6_1).f0))).setCell ⟨gb135, 1, none⟩ (.int .i64 ((rd_T73 l0 x6_1).f1))).setCell ⟨gb135, 2, none⟩ (.int .i64 ((rd_T73 l0 x6_1).f2))).setCell ⟨gb135, 3, none⟩ (.int .i64 ((rd_T73 l0 x6_1).f3))).heap[gb135]? = some (.cells #[.int .i64 ((rd_T73 l0 x6_1).f0), .int .i64 ((rd_T73 l0 x6_1).f1), .int .i64 ((rd_T73 l0 x6_1).f2), .int .i64 ((rd_T73 l0 x6_1).f3)] 73 (0, 0))) := ⟨by (with_reducible repeat (first | refine blk_drewN ?_ _ | refine blk_drew ?_ | refine blk_alloc ?_ _)); refine blk_put (cs := #[.int .i64 ((rd_T73 l0 x6_1).f0), .int .i64 ((rd_T73 l0 x6_1).f1), .int .i64 ((rd_T73 l0 x6_1).f2), .int .i64 0]) ?_ 3 _ rfl; (with_reducible repeat (first | refine blk_drewN ?_ _ | refine blk_drew ?_ | refine blk_alloc ?_ _)); refine blk_put (cs := #[.int .i64 ((rd_T73 l0 x6_1).f0), .int .i64 ((rd_T73 l0 x6_1).f1), .int .i64 0, .int .i64 0]) ?_ 2 _ rfl; (with_reducible repeat (first | refine blk_drewN ?_ _ | refine blk_drew ?_ | refine blk_alloc ?_ _)); refine blk_put (cs := #[.int .i64 ((rd_T73 l0 x6_1).f0), .int .i64 0, .int .i64 0, .int .i64 0]) ?_ 1 _ rfl; (with_reducible repeat (first | refine blk_drewN ?_ _ | refine blk_drew ?_ | refine blk_alloc ?_ _)); refine blk_put (cs := #[.int .i64 0, .int .i64 0, .int .i64 0, .int .i64 0]) ?_ 0 _ rfl; (with_reducible repeat (first | refine blk_drewN ?_ _ | refine blk_drew ?_ | refine blk_alloc ?_ _)); exact BK135.out⟩
            have n2_ : Aside0 (Below w.heap.size w ((((w25.setCell ⟨gb135, 0, none⟩ (.int .i64 ((rd_T73 l0 x6_1).f0))).setCell ⟨gb135, 1, none⟩ (.int .i64 ((rd_T73 l0 x6_1).f1))).setCell ⟨gb135, 2, none⟩ (.int .i64 ((rd_T73 l0 x6_1).f2))).setCell ⟨gb135, 3, none⟩ (.int .i64 ((rd_T73 l0 x6_1).f3)))) := ⟨by repeat (first | (with_reducible first | exact HB.out | apply bwA | apply bwN | apply bwD | refine below_set ?_ GE135.out) | exact HB.out)⟩
            (try clear HO_5)
            (try clear BK135)
            (try clear HB)
            generalize ((((w25.setCell ⟨gb135, 0, none⟩ (.int .i64 ((rd_T73 l0 x6_1).f0))).setCell ⟨gb135, 1, none⟩ (.int .i64 ((rd_T73 l0 x6_1).f1))).setCell ⟨gb135, 2, none⟩ (.int .i64 ((rd_T73 l0 x6_1).f2))).setCell ⟨gb135, 3, none⟩ (.int .i64 ((rd_T73 l0 x6_1).f3))) = w27 at n0_ n1_ n2_ ⊢
            have HO_5 := n0_
            have BK135 := n1_
            have HB := n2_
            clear n0_ n1_ n2_
            have n0_ := Aside0.mk (Kd.R_drew HO_5.out)
            have n1_ := Aside0.mk (blk_drew BK135.out)
            have n2_ := Aside0.mk (below_drew1 HB.out)
            clear HO_5
            clear BK135
            clear HB
            have HO_5 := n0_
            have BK135 := n1_
            have HB := n2_
            clear n0_ n1_ n2_
            obtain ⟨Ao29, co29, eo29⟩ := Kd.R_slice HO_5.out
            (first | subst eo29 | (injection eo29 with f1_ f2_ f3_; have f4_ := f1_.symm; have f5_ := f3_.symm; clear f1_ f2_ f3_; subst f4_; subst f5_))
            have p143 : 0 ≤ (((rd_T73 l0 x6_1).f2) : Int) := of_decide_eq_true (by first | (with_reducible assumption) | assumption)
            have q143 : ((rd_T73 l0 x6_1).f2) < (x5_1.length : Int) := of_decide_eq_true (by first | (with_reducible assumption) | assumption)
            obtain ⟨ad143, e143, hx143_0⟩ := Kd.at_int (Kd.R_reads' HO_5.out).2.2 ((rd_T73 l0 x6_1).f2) p143 q143
            cases e143
            replace p143 := eq_true p143
            replace q143 := eq_true q143
            have p144 : 0 ≤ (((rd_T73 l0 x6_1).f3) : Int) := of_decide_eq_true (by first | (with_reducible assumption) | assumption)
            have q144 : ((rd_T73 l0 x6_1).f3) < (x5_1.length : Int) := of_decide_eq_true (by first | (with_reducible assumption) | assumption)
            obtain ⟨ad144, e144, hx144_0⟩ := Kd.at_int (Kd.R_reads' HO_5.out).2.2 ((rd_T73 l0 x6_1).f3) p144 q144
            obtain rfl : ad143 = ad144 := (by injection e144)
            replace p144 := eq_true p144
            replace q144 := eq_true q144
            refine start_ (n := 17) (S := fun w' => w'.cell? ⟨gb135, 0, none⟩ = some (.int .i64 ((rd_T73 l0 x6_1).f0)) ∧ w'.cell? ⟨gb135, 1, none⟩ = some (.int .i64 ((rd_T73 l0 x6_1).f1)) ∧ w'.cell? ⟨gb135, 2, none⟩ = some (.int .i64 ((rd_T73 l0 x6_1).f2)) ∧ w'.cell? ⟨gb135, 3, none⟩ = some (.int .i64 ((rd_T73 l0 x6_1).f3)) ∧ w'.cell? (ad143.add (((rd_T73 l0 x6_1).f2)).toNat) = some (.int .i64 (rd x5_1 ((rd_T73 l0 x6_1).f2))) ∧ w'.cell? (ad143.add (((rd_T73 l0 x6_1).f3)).toNat) = some (.int .i64 (rd x5_1 ((rd_T73 l0 x6_1).f3)))) (ds := [14, 15]) #[false, false, false, false, false, false, false, false, false, false, false, false, false, false, false, false, false] (by kernel_rfl) rfl rfl ⟨(blk_cell BK135.out 0).trans rfl, (blk_cell BK135.out 1).trans rfl, (blk_cell BK135.out 2).trans rfl, (blk_cell BK135.out 3).trans rfl, hx143_0, hx144_0⟩ (fun hHeld => ?_); refine with_tabW spec_l1Values.tab10 spec_l1Values.bits10 (fun HT_ HW_ => ?_)
            generalize w27.drew = w28 at HO_5 BK135 HB hx143_0 hx144_0 hHeld ⊢
            refine pure_ (i := 0) (N := some 38) (v := ?_) (a' := ?_) #[true, false, false, false, false, false, false, false, false, false, false, false, false, false, false, false, false] rfl rfl (any_of HT_.out (by kernel_rfl)) (fun _ _ _ h => h) (Or.inl ⟨by rfl, ?_⟩) ?_ ?_
            rotate_left
            ·intro w'
             go_simp
             with_reducible rfl
            rotate_left
            ·simp only [Act.put, List.setIfInBounds_toArray, List.set_cons_zero, List.set_cons_succ, i64_w, i32_w]
             rfl
            refine pure_ (i := 1) (N := some 39) (v := ?_) (a' := ?_) #[true, true, false, false, false, false, false, false, false, false, false, false, false, false, false, false, false] rfl rfl (any_of HT_.out (by kernel_rfl)) (fun _ _ _ h => h) (Or.inl ⟨by rfl, ?_⟩) ?_ ?_
            rotate_left
            ·intro w'
             go_simp
             with_reducible rfl
            rotate_left
            ·simp only [Act.put, List.setIfInBounds_toArray, List.set_cons_zero, List.set_cons_succ, i64_w, i32_w]
             rfl
            refine pure_ (i := 3) (N := some 41) (v := ?_) (a' := ?_) #[true, true, false, true, false, false, false, false, false, false, false, false, false, false, false, false, false] rfl rfl (any_of HT_.out (by kernel_rfl)) (fun _ _ _ h => h) (Or.inl ⟨by rfl, ?_⟩) ?_ ?_
            rotate_left
            ·intro w'
             go_simp
             with_reducible rfl
            rotate_left
            ·simp only [Act.put, List.setIfInBounds_toArray, List.set_cons_zero, List.set_cons_succ, i64_w, i32_w]
             rfl
            refine pure_ (i := 4) (N := some 42) (v := ?_) (a' := ?_) #[true, true, false, true, true, false, false, false, false, false, false, false, false, false, false, false, false] rfl rfl (any_of HT_.out (by kernel_rfl)) (fun _ _ _ h => h) (Or.inl ⟨by rfl, ?_⟩) ?_ ?_
            rotate_left
            ·intro w'
             go_simp
             with_reducible rfl
            rotate_left
            ·simp only [Act.put, List.setIfInBounds_toArray, List.set_cons_zero, List.set_cons_succ, i64_w, i32_w]
             rfl
            refine pure_ (i := 8) (N := some 46) (v := ?_) (a' := ?_) #[true, true, false, true, true, false, false, false, true, false, false, false, false, false, false, false, false] rfl rfl (any_of HT_.out (by kernel_rfl)) (fun _ _ _ h => h) (Or.inl ⟨by rfl, ?_⟩) ?_ ?_
            rotate_left
            ·intro w'
             go_simp
             with_reducible rfl
            rotate_left
            ·simp only [Act.put, List.setIfInBounds_toArray, List.set_cons_zero, List.set_cons_succ, i64_w, i32_w]
             rfl
            refine pure_ (i := 9) (N := some 47) (v := ?_) (a' := ?_) #[true, true, false, true, true, false, false, false, true, true, false, false, false, false, false, false, false] rfl rfl (any_of HT_.out (by kernel_rfl)) (fun _ _ _ h => h) (Or.inl ⟨by rfl, ?_⟩) ?_ ?_
            rotate_left
            ·intro w'
             go_simp
             with_reducible rfl
            rotate_left
            ·simp only [Act.put, List.setIfInBounds_toArray, List.set_cons_zero, List.set_cons_succ, i64_w, i32_w]
             rfl
            refine take_ (i := 2) (N := some 40) (v := ?_) (a' := ?_) #[true, true, true, true, true, false, false, false, true, true, false, false, false, false, false, false, false] rfl rfl (take_ofW HT_.out HW_.out (by kernel_rfl)) (fun _ _ _ h => h) (Or.inl ⟨by rfl, ?_⟩) hHeld ?_ ?_
            rotate_left
            ·rintro w' ⟨s0, s1, s2, s3, s4, s5⟩
             go_simp
             with_reducible rfl
            rotate_left
            ·simp only [Act.put, List.setIfInBounds_toArray, List.set_cons_zero, List.set_cons_succ, i64_w, i32_w]
             rfl
            refine take_ (i := 5) (N := some 43) (v := ?_) (a' := ?_) #[true, true, true, true, true, true, false, false, true, true, false, false, false, false, false, false, false] rfl rfl (take_ofW HT_.out HW_.out (by kernel_rfl)) (fun _ _ _ h => h) (Or.inl ⟨by rfl, ?_⟩) hHeld ?_ ?_
            rotate_left
            ·rintro w' ⟨s0, s1, s2, s3, s4, s5⟩
             go_simp
             with_reducible rfl
            rotate_left
            ·simp only [Act.put, List.setIfInBounds_toArray, List.set_cons_zero, List.set_cons_succ, i64_w, i32_w]
             rfl
            refine pure_ (i := 6) (N := some 44) (v := ?_) (a' := ?_) #[true, true, true, true, true, true, true, false, true, true, false, false, false, false, false, false, false] rfl rfl (any_of HT_.out (by kernel_rfl)) (fun _ _ _ h => h) (Or.inl ⟨by rfl, ?_⟩) ?_ ?_
            rotate_left
            ·intro w'
             go_simp
             with_reducible rfl
            rotate_left
            ·simp only [Act.put, List.setIfInBounds_toArray, List.set_cons_zero, List.set_cons_succ, i64_w, i32_w]
             rfl
            refine take_ (i := 7) (N := some 45) (v := ?_) (a' := ?_) #[true, true, true, true, true, true, true, true, true, true, false, false, false, false, false, false, false] rfl rfl (take_ofW HT_.out HW_.out (by kernel_rfl)) (fun _ _ _ h => h) (Or.inl ⟨by rfl, ?_⟩) hHeld ?_ ?_
            rotate_left
            ·rintro w' ⟨s0, s1, s2, s3, s4, s5⟩
             go_simp
             with_reducible rfl
            rotate_left
            ·simp only [Act.put, List.setIfInBounds_toArray, List.set_cons_zero, List.set_cons_succ, i64_w, i32_w]
             rfl
            refine take_ (i := 10) (N := some 48) (v := ?_) (a' := ?_) #[true, true, true, true, true, true, true, true, true, true, true, false, false, false, false, false, false] rfl rfl (take_ofW HT_.out HW_.out (by kernel_rfl)) (fun _ _ _ h => h) (Or.inl ⟨by rfl, ?_⟩) hHeld ?_ ?_
            rotate_left
            ·rintro w' ⟨s0, s1, s2, s3, s4, s5⟩
             go_simp
             with_reducible rfl
            rotate_left
            ·simp only [Act.put, List.setIfInBounds_toArray, List.set_cons_zero, List.set_cons_succ, i64_w, i32_w]
             rfl
            refine pure_ (i := 11) (N := some 49) (v := ?_) (a' := ?_) #[true, true, true, true, true, true, true, true, true, true, true, true, false, false, false, false, false] rfl rfl (any_of HT_.out (by kernel_rfl)) (fun _ _ _ h => h) (Or.inl ⟨by rfl, ?_⟩) ?_ ?_
            rotate_left
            ·intro w'
             go_simp
             with_reducible rfl
            rotate_left
            ·simp only [Act.put, List.setIfInBounds_toArray, List.set_cons_zero, List.set_cons_succ, i64_w, i32_w]
             rfl
            refine take_ (i := 12) (N := some 50) (v := ?_) (a' := ?_) #[true, true, true, true, true, true, true, true, true, true, true, true, true, false, false, false, false] rfl rfl (take_ofW HT_.out HW_.out (by kernel_rfl)) (fun _ _ _ h => h) (Or.inl ⟨by rfl, ?_⟩) hHeld ?_ ?_
            rotate_left
            ·rintro w' ⟨s0, s1, s2, s3, s4, s5⟩
             go_simp
             with_reducible rfl
            rotate_left
            ·simp only [Act.put, List.setIfInBounds_toArray, List.set_cons_zero, List.set_cons_succ, i64_w, i32_w]
             rfl
            refine one_ (i := 13) (N := some 51) #[true, true, true, true, true, true, true, true, true, true, true, true, true, true, false, false, false] rfl rfl (one_of HT_.out (by kernel_rfl)) (by decide) (fun K hK => ?_)
            refine goes_ Try.func101 (by kernel_rfl) rfl #[.int .i64 ((rd_T73 l0 x6_1).f0), .int .i64 (rd x5_1 ((rd_T73 l0 x6_1).f2)), .int .i64 (rd x5_1 ((rd_T73 l0 x6_1).f3))] (by rfl) rfl rfl (by (try simp only [List.map_toArray, List.map_cons, List.map_nil]); first | done | rfl | (simp only [List.length_drop, List.length_take]; rfl)) ?_
            with_reducible refine (spec_l1Do.calls ((rd_T73 l0 x6_1).f0) (rd x5_1 ((rd_T73 l0 x6_1).f2)) (rd x5_1 ((rd_T73 l0 x6_1).f3)) t145 _ A23.out).mono ?_
            rintro e w' ⟨rfl, ⟨nd, rfl⟩⟩
            refine ⟨_, rfl, ?_⟩
            refine hK.out _ _ ⟨(blk_cell BK135.out 0).trans rfl, (blk_cell BK135.out 1).trans rfl, (blk_cell BK135.out 2).trans rfl, (blk_cell BK135.out 3).trans rfl, hHeld.2.2.2.2.1, hHeld.2.2.2.2.2⟩ (fun hHeld => ?_)
            clear hK K
            refine norm_ (a' := ?_) ?_ ?_
            rotate_left
            ·show Act.put _ (some 51) _ = _
             simp only [Act.put, List.setIfInBounds_toArray, List.set_cons_zero, List.set_cons_succ, i64_w, i32_w]
             rfl
            refine last_ (i := 14) (N := some 52) #[true, true, true, true, true, true, true, true, true, true, true, true, true, true, true, false, false] rfl rfl (one_of HT_.out (by kernel_rfl)) (by decide) (fun K hK => ?_)
            refine value_ (w1 := ?_) (v := ?_) (by rfl) rfl ?_ ?_
            rotate_left 2
            ·go_simp
             constructor
             ·rfl
             ·rfl
            refine hK.out _ _ ?_
            clear hK K
            refine norm_ (a' := ?_) ?_ ?_
            rotate_left
            ·show Act.put _ (some 52) _ = _
             simp only [Act.put, List.setIfInBounds_toArray, List.set_cons_zero, List.set_cons_succ, i64_w, i32_w]
             rfl
            refine last_ (i := 15) (N := some 53) #[true, true, true, true, true, true, true, true, true, true, true, true, true, true, true, true, false] rfl rfl (one_of HT_.out (by kernel_rfl)) (by decide) (fun K hK => ?_)
            refine Kd.R_append_step (Kd.int .i64) (w0 := w) w.heap.size (by rfl) (.tmp 38) (.tmp 52) 23 3 (.int .i64 0) 8 rfl Try.underlying23 info3 rfl (by decide) (by omega) (.slice (some ad143) x5_1.length co29) x5_1 t145 [.int .i64 t145] (fun _ => True) (fun _ => False) rfl rfl ?aP (fun _ hk => hk.elim) ?aF ?aO ?aB ?aS ?aL ?_
            (case aP => exact rfl)
            (case aB => exact (by repeat (first | (with_reducible first | exact HB.out | apply bwA | apply bwN | apply bwD | refine below_set ?_ GE135.out) | exact HB.out)))
            (case aF => exact (fun _ _ => trivial))
            (case aO => exact (by (with_reducible repeat (first | apply Kd.R_alloc | apply Kd.R_drewN | apply Kd.R_drew)); exact HO_5.out))
            (case aS => exact (below_size (by repeat (first | (with_reducible first | exact HB.out | apply bwA | apply bwN | apply bwD | refine below_set ?_ GE135.out) | exact HB.out))))
            (case aL => have := LMc24.out; omega)
            intro v147 w30 ho hb hg hat
            rw [← Ny146.out] at ho
            have n0_ := Aside0.mk (blk_grown (g := gb135) (o := .cells #[.int .i64 ((rd_T73 l0 x6_1).f0), .int .i64 ((rd_T73 l0 x6_1).f1), .int .i64 ((rd_T73 l0 x6_1).f2), .int .i64 ((rd_T73 l0 x6_1).f3)] 73 (0, 0)) (by (with_reducible repeat (first | refine blk_drewN ?_ _ | refine blk_drew ?_ | refine blk_alloc ?_ _)); exact BK135.out) hg (Kd.R_ne HO_5.out BK135.out (by decide)))
            have n1_ := Aside0.mk (hb)
            have n2_ := Aside0.mk (ho)
            clear BK135
            clear HB
            clear HO_5
            have BK135 := n0_
            have HB := n1_
            have HO148 := n2_
            clear n0_ n1_ n2_
            clear ho hb hg hat
            refine hK.out _ _ ?_
            clear hK K
            refine norm_ (a' := ?_) ?_ ?_
            rotate_left
            ·show Act.put _ (some 53) _ = _
             simp only [Act.put, List.setIfInBounds_toArray, List.set_cons_zero, List.set_cons_succ, i64_w, i32_w]
             rfl
            refine pure_ (i := 16) (N := some 5) (v := ?_) (a' := ?_) #[true, true, true, true, true, true, true, true, true, true, true, true, true, true, true, true, true] rfl rfl (any_of HT_.out (by kernel_rfl)) (fun _ _ _ h => h) (Or.inl ⟨by rfl, ?_⟩) ?_ ?_
            rotate_left
            ·intro w'
             go_simp
             with_reducible rfl
            rotate_left
            ·simp only [Act.put, List.setIfInBounds_toArray, List.set_cons_zero, List.set_cons_succ, i64_w, i32_w]
             rfl
            refine done_ (done_of HT_.out (by kernel_rfl)) ?_
            try go_wp2
            go_roundg k1
            case measure => have := HK1.out; omega
            case rel => exact ⟨(y146), (wrap64 (x6_1 + 1)), (by first | rfl | (simp; done) | (simp [*]; done)), H', ⟨by have := HK1.out; omega⟩, ⟨by (with_reducible repeat (first | apply Kd.R_alloc | apply Kd.R_drewN | apply Kd.R_drew)); exact HO148.out⟩, ⟨by repeat (first | (with_reducible first | exact HB.out | apply bwA | apply bwN | apply bwD | refine below_set ?_ GE135.out) | exact HB.out)⟩⟩
           ·rw [if_neg c24] at H
            exact absurd H (by simp)
          ·rw [if_neg c22] at H
           exact absurd H (by simp)
         ·rw [if_neg c21] at H
          exact absurd H (by simp)
        ·rw [if_neg c20] at H
         exact absurd H (by simp)
       ·rw [if_neg c19] at H
        exact absurd H (by simp)
    ·rw [if_neg c6] at H
     exact absurd H (by simp)
   ·rw [if_neg c5] at H
    have c5b0 : decide (x6_1 < (l0.length : Int)) = false := decide_eq_false c5
    clear c5
    obtain rfl := Option.some.inj H
    go_wp2
    go_ret
    exact ⟨_, by first | rfl | (simp [errW_none, errW_some] <;> rfl) | (simp [*, errW_none, errW_some] <;> rfl), by (with_reducible repeat (first | apply Kd.R_alloc | apply Kd.R_drewN | apply Kd.R_drew)); exact HO_5.out, by repeat (first | (with_reducible first | exact HB.out | apply bwA | apply bwN | apply bwD) | exact HB.out)⟩

/-! ### spec_Eval: function 14 -/
def spec_Eval.f (k : Nat) (l0 : List (S73)) (l1 : List Int) : Option (Int × Bool) := (spec_TermsValid.f k l0 (l1.length : Int)).bind fun t149 => (if t149 = true then ((spec_l1State.f k l1).bind fun t150 => (if t150 = true then ((spec_l1Values.f k l0 l1).bind fun t151 => (if 0 ≤ (wrap64 ((l0.length : Int) - 1)) then (if (wrap64 ((l0.length : Int) - 1)) < (t151.length : Int) then (some (rd t151 (wrap64 ((l0.length : Int) - 1)), true)) else (none)) else (none))) else (some (0, false)))) else (some (0, false)))
theorem spec_Eval.mono : ∀ a0 a1 k, LeO (spec_Eval.f k a0 a1) (spec_Eval.f (k + 1) a0 a1) := by
 intro a0 a1 k
 unfold spec_Eval.f
 repeat' first
   | (with_reducible exact spec_TermsValid.mono _ _ _)
   | (with_reducible exact spec_l1State.mono _ _)
   | (with_reducible exact spec_l1Values.mono _ _ _)
   | (with_reducible exact LeO.refl _)
   | (with_reducible exact LeO.none _)
   | (with_reducible refine LeO.ite ?_ ?_)
   | (with_reducible refine LeO.bind ?_ (fun _ => ?_))
   | exact spec_TermsValid.mono _ _ _
   | exact spec_l1State.mono _ _
   | exact spec_l1Values.mono _ _ _
   | exact LeO.none _
   | refine LeO.ite ?_ ?_
   | refine LeO.bind ?_ (fun _ => ?_)
set_option maxHeartbeats 8000000 in
set_option maxRecDepth 100000 in
theorem spec_Eval.calls (k : Nat) (A0 : Option Addr) (c0 : Nat) (l0 : List (S73)) (A1 : Option Addr) (c1 : Nat) (l1 : List Int) (r1 : Int) (r2 : Bool) (w : World) (hr0 : Kd.C k73 w A0 l0.length l0) (hc0 : l0.length ≤ c0) (hr1 : Kd.C (Kd.int .i64) w A1 l1.length l1) (hc1 : l1.length ≤ c1) (h : spec_Eval.f k l0 l1 = some (r1, r2)) :
  Calls Try.prog 14 #[.slice A0 l0.length c0, .slice A1 l1.length c1] w fun e w' => e = .returned (.tuple #[.int .i64 r1, .bool r2]) ∧ Below w.heap.size w w' := by
 have HR0 := Aside0.mk hr0
 have HC0 := Aside0.mk hc0
 clear hr0 hc0
 have HR1 := Aside0.mk hr1
 have HC1 := Aside0.mk hc1
 clear hr1 hc1
 have HB := Aside0.mk (Below.refl w.heap.size w)
 have H : ((spec_TermsValid.f k l0 (l1.length : Int)).bind fun t149 => (if t149 = true then ((spec_l1State.f k l1).bind fun t150 => (if t150 = true then ((spec_l1Values.f k l0 l1).bind fun t151 => (if 0 ≤ (wrap64 ((l0.length : Int) - 1)) then (if (wrap64 ((l0.length : Int) - 1)) < (t151.length : Int) then (some (rd t151 (wrap64 ((l0.length : Int) - 1)), true)) else (none)) else (none))) else (some (0, false)))) else (some (0, false)))) = some (r1, r2) := h
 clear h
 replace H := Option.bind_eq_some_iff.mp H
 obtain ⟨t149, A30, H⟩ := H
 replace H : (if t149 = true then ((spec_l1State.f k l1).bind fun t150 => (if t150 = true then ((spec_l1Values.f k l0 l1).bind fun t151 => (if 0 ≤ (wrap64 ((l0.length : Int) - 1)) then (if (wrap64 ((l0.length : Int) - 1)) < (t151.length : Int) then (some (rd t151 (wrap64 ((l0.length : Int) - 1)), true)) else (none)) else (none))) else (some (0, false)))) else (some (0, false))) = some (r1, r2) := H
 have A3 := Aside0.mk A30
 clear A30
 by_cases c4 : t149 = true
 ·subst c4
  have H1 : ((spec_l1State.f k l1).bind fun t150 => (if t150 = true then ((spec_l1Values.f k l0 l1).bind fun t151 => (if 0 ≤ (wrap64 ((l0.length : Int) - 1)) then (if (wrap64 ((l0.length : Int) - 1)) < (t151.length : Int) then (some (rd t151 (wrap64 ((l0.length : Int) - 1)), true)) else (none)) else (none))) else (some (0, false)))) = some (r1, r2) := by rw [if_pos rfl] at H; exact H
  clear H
  have H := H1
  clear H1
  replace H := Option.bind_eq_some_iff.mp H
  obtain ⟨t150, A50, H⟩ := H
  replace H : (if t150 = true then ((spec_l1Values.f k l0 l1).bind fun t151 => (if 0 ≤ (wrap64 ((l0.length : Int) - 1)) then (if (wrap64 ((l0.length : Int) - 1)) < (t151.length : Int) then (some (rd t151 (wrap64 ((l0.length : Int) - 1)), true)) else (none)) else (none))) else (some (0, false))) = some (r1, r2) := H
  have A5 := Aside0.mk A50
  clear A50
  by_cases c6 : t150 = true
  ·subst c6
   have H1 : ((spec_l1Values.f k l0 l1).bind fun t151 => (if 0 ≤ (wrap64 ((l0.length : Int) - 1)) then (if (wrap64 ((l0.length : Int) - 1)) < (t151.length : Int) then (some (rd t151 (wrap64 ((l0.length : Int) - 1)), true)) else (none)) else (none))) = some (r1, r2) := by rw [if_pos rfl] at H; exact H
   clear H
   have H := H1
   clear H1
   replace H := Option.bind_eq_some_iff.mp H
   obtain ⟨t151, A70, H⟩ := H
   replace H : (if 0 ≤ (wrap64 ((l0.length : Int) - 1)) then (if (wrap64 ((l0.length : Int) - 1)) < (t151.length : Int) then (some (rd t151 (wrap64 ((l0.length : Int) - 1)), true)) else (none)) else (none)) = some (r1, r2) := H
   have A7 := Aside0.mk A70
   clear A70
   obtain ⟨ji8, hji8⟩ : ∃ j_ : Int, (wrap64 ((l0.length : Int) - 1)) = j_ := ⟨_, rfl⟩
   replace H : (if 0 ≤ (ji8) then (if (ji8) < (t151.length : Int) then (some (rd t151 (ji8), true)) else (none)) else (none)) = some (r1, r2) := by first | (rw [hji8] at H; exact H) | (simp only [hji8] at H ⊢; exact H)
   (try rw [hji8] at A3)
   (try rw [hji8] at A5)
   (try rw [hji8] at A7)
   have hji8w : (IntKind.i64.wrap ((l0.length : Int) - 1)) = ji8 := (i64_w _).trans hji8
   by_cases c9 : 0 ≤ (ji8)
   ·rw [if_pos c9] at H
    have c9b0 : decide (0 ≤ (ji8)) = true := decide_eq_true c9
    clear c9
    by_cases c10 : (ji8) < (t151.length : Int)
    ·rw [if_pos c10] at H
     have c10b0 : decide ((ji8) < (t151.length : Int)) = true := decide_eq_true c10
     clear c10
     simp only [Option.some.injEq, Prod.mk.injEq] at H
     obtain ⟨rfl, rfl⟩ := H
     go_enter Try.func14, Try.ntmps14
     go_wp2_with (first | ((with_reducible refine gate_callee (f := 24) rfl ?_); refine goesL_ (some 9) rfl rfl Try.func24 (by kernel_rfl) rfl #[.slice A0 l0.length c0, .int .i64 (l1.length : Int)] rfl (by (try simp only [List.map_toArray, List.map_cons, List.map_nil]); first | done | rfl | (simp only [List.length_drop, List.length_take]; rfl)) ?_; (with_reducible refine (spec_TermsValid.calls k _ _ l0 (l1.length : Int) true _ ?side1 ?side2 A3.out).mono ?_); (case side1 => repeat (first | exact HR0.out | (with_reducible refine Kd.C_alloc ?_ _) | (with_reducible refine Kd.C_drewN ?_ _) | (with_reducible refine Kd.C_drew ?_))); (case side2 => exact HC0.out); rintro e w11 ⟨rfl, hb⟩; refine ⟨_, rfl, ?_⟩; have n0_ := Aside0.mk (below_step (by repeat (first | (with_reducible first | exact HB.out | apply bwA | apply bwN | apply bwD) | exact HB.out)) hb); clear HB; have HB := n0_; clear n0_; (try clear hb); (try clear hb2); (try clear hk); (try clear hi)) | (go_at_call 53; (with_reducible refine (spec_l1State.calls k _ _ l1 true _ ?side1 ?side2 A5.out).mono ?_); (case side1 => repeat (first | exact (Kd.C_below HR1.out HB.out) | (with_reducible refine Kd.C_alloc ?_ _) | (with_reducible refine Kd.C_drewN ?_ _) | (with_reducible refine Kd.C_drew ?_))); (case side2 => exact HC1.out); rintro e w' ⟨rfl, ⟨nd, rfl⟩⟩) | ((with_reducible refine gate_callee (f := 54) rfl ?_); refine goesL_ (some 18) rfl rfl Try.func54 (by kernel_rfl) rfl #[.slice A0 l0.length c0, .slice A1 l1.length c1] rfl (by (try simp only [List.map_toArray, List.map_cons, List.map_nil]); first | done | rfl | (simp only [List.length_drop, List.length_take]; rfl)) ?_; (with_reducible refine (spec_l1Values.calls k _ _ l0 _ _ l1 t151 _ ?side1 ?side2 ?side3 ?side4 A7.out).mono ?_); (case side1 => repeat (first | exact (Kd.C_below HR0.out (by repeat (first | (with_reducible first | exact HB.out | apply bwA | apply bwN | apply bwD) | exact HB.out))) | (with_reducible refine Kd.C_alloc ?_ _) | (with_reducible refine Kd.C_drewN ?_ _) | (with_reducible refine Kd.C_drew ?_))); (case side2 => exact HC0.out); (case side3 => repeat (first | exact (Kd.C_below HR1.out (by repeat (first | (with_reducible first | exact HB.out | apply bwA | apply bwN | apply bwD) | exact HB.out))) | (with_reducible refine Kd.C_alloc ?_ _) | (with_reducible refine Kd.C_drewN ?_ _) | (with_reducible refine Kd.C_drew ?_))); (case side4 => exact HC1.out); rintro e w12 ⟨v152, rfl, ho0, hb⟩; refine ⟨_, rfl, ?_⟩; have n0_ := Aside0.mk (Kd.R_lower ho0 (below_size (by repeat (first | (with_reducible first | exact HB.out | apply bwA | apply bwN | apply bwD) | exact HB.out)))); have n1_ := Aside0.mk (below_step (by repeat (first | (with_reducible first | exact HB.out | apply bwA | apply bwN | apply bwD) | exact HB.out)) hb); clear HB; have HO153 := n0_; have HB := n1_; clear n0_ n1_; (try clear hb); (try clear hb2); (try clear hk); (try clear hi); (try clear ho0); obtain ⟨Ao13, co13, eo13⟩ := Kd.R_slice HO153.out; subst eo13; have p154 : 0 ≤ ((ji8) : Int) := of_decide_eq_true (by first | (with_reducible assumption) | assumption); have q154 : (ji8) < (t151.length : Int) := of_decide_eq_true (by first | (with_reducible assumption) | assumption); obtain ⟨ad154, e154, hx154_0⟩ := Kd.at_int (Kd.R_reads' HO153.out).2.2 (ji8) p154 q154; cases e154; replace p154 := eq_true p154; replace q154 := eq_true q154))
     go_ret2
     exact ⟨by first | rfl | (simp [errW_none, errW_some] <;> rfl) | (simp only [← hji8]; first | rfl | (simp [errW_none, errW_some] <;> rfl)) | (simp [*, errW_none, errW_some] <;> rfl), by repeat (first | (with_reducible first | exact HB.out | apply bwA | apply bwN | apply bwD) | exact HB.out)⟩
    ·rw [if_neg c10] at H
     exact absurd H (by simp)
   ·rw [if_neg c9] at H
    exact absurd H (by simp)
  ·replace c6 := Bool.eq_false_iff.mpr c6
   subst c6
   have H1 : (some (0, false)) = some (r1, r2) := by rw [if_neg (show ¬ (false = true) by decide)] at H; exact H
   clear H
   have H := H1
   clear H1
   simp only [Option.some.injEq, Prod.mk.injEq] at H
   obtain ⟨rfl, rfl⟩ := H
   go_enter Try.func14, Try.ntmps14
   go_wp2_with (first | ((with_reducible refine gate_callee (f := 24) rfl ?_); refine goesL_ (some 9) rfl rfl Try.func24 (by kernel_rfl) rfl #[.slice A0 l0.length c0, .int .i64 (l1.length : Int)] rfl (by (try simp only [List.map_toArray, List.map_cons, List.map_nil]); first | done | rfl | (simp only [List.length_drop, List.length_take]; rfl)) ?_; (with_reducible refine (spec_TermsValid.calls k _ _ l0 (l1.length : Int) true _ ?side1 ?side2 A3.out).mono ?_); (case side1 => repeat (first | exact HR0.out | (with_reducible refine Kd.C_alloc ?_ _) | (with_reducible refine Kd.C_drewN ?_ _) | (with_reducible refine Kd.C_drew ?_))); (case side2 => exact HC0.out); rintro e w14 ⟨rfl, hb⟩; refine ⟨_, rfl, ?_⟩; have n0_ := Aside0.mk (below_step (by repeat (first | (with_reducible first | exact HB.out | apply bwA | apply bwN | apply bwD) | exact HB.out)) hb); clear HB; have HB := n0_; clear n0_; (try clear hb); (try clear hb2); (try clear hk); (try clear hi)) | (go_at_call 53; (with_reducible refine (spec_l1State.calls k _ _ l1 false _ ?side1 ?side2 A5.out).mono ?_); (case side1 => repeat (first | exact (Kd.C_below HR1.out HB.out) | (with_reducible refine Kd.C_alloc ?_ _) | (with_reducible refine Kd.C_drewN ?_ _) | (with_reducible refine Kd.C_drew ?_))); (case side2 => exact HC1.out); rintro e w' ⟨rfl, ⟨nd, rfl⟩⟩))
   go_ret2
   exact ⟨by first | rfl | (simp [errW_none, errW_some] <;> rfl) | (simp [*, errW_none, errW_some] <;> rfl), by repeat (first | (with_reducible first | exact HB.out | apply bwA | apply bwN | apply bwD) | exact HB.out)⟩
 ·replace c4 := Bool.eq_false_iff.mpr c4
  subst c4
  have H1 : (some (0, false)) = some (r1, r2) := by rw [if_neg (show ¬ (false = true) by decide)] at H; exact H
  clear H
  have H := H1
  clear H1
  simp only [Option.some.injEq, Prod.mk.injEq] at H
  obtain ⟨rfl, rfl⟩ := H
  go_enter Try.func14, Try.ntmps14
  go_wp2_with (first | ((with_reducible refine gate_callee (f := 24) rfl ?_); refine goesL_ (some 9) rfl rfl Try.func24 (by kernel_rfl) rfl #[.slice A0 l0.length c0, .int .i64 (l1.length : Int)] rfl (by (try simp only [List.map_toArray, List.map_cons, List.map_nil]); first | done | rfl | (simp only [List.length_drop, List.length_take]; rfl)) ?_; (with_reducible refine (spec_TermsValid.calls k _ _ l0 (l1.length : Int) false _ ?side1 ?side2 A3.out).mono ?_); (case side1 => repeat (first | exact HR0.out | (with_reducible refine Kd.C_alloc ?_ _) | (with_reducible refine Kd.C_drewN ?_ _) | (with_reducible refine Kd.C_drew ?_))); (case side2 => exact HC0.out); rintro e w15 ⟨rfl, hb⟩; refine ⟨_, rfl, ?_⟩; have n0_ := Aside0.mk (below_step (by repeat (first | (with_reducible first | exact HB.out | apply bwA | apply bwN | apply bwD) | exact HB.out)) hb); clear HB; have HB := n0_; clear n0_; (try clear hb); (try clear hb2); (try clear hk); (try clear hi)))
  go_ret2
  exact ⟨by first | rfl | (simp [errW_none, errW_some] <;> rfl) | (simp [*, errW_none, errW_some] <;> rfl), by repeat (first | (with_reducible first | exact HB.out | apply bwA | apply bwN | apply bwD) | exact HB.out)⟩

/-! ### impl_in: function 62 -/
def impl_in.f (a0 : Int) (a1 : Int) (a2 : Int) : Option (Bool) := if a0 ≥ a1 then (some (decide (a0 ≤ a2))) else (some false)
set_option maxHeartbeats 8000000 in
set_option maxRecDepth 100000 in
theorem impl_in.calls (a0 : Int) (a1 : Int) (a2 : Int) (r : Bool) (w : World) (h : impl_in.f a0 a1 a2 = some r) :
  Calls Try.prog 62 #[.int .i64 a0, .int .i64 a1, .int .i64 a2] w fun e w' => e = .returned (.bool r) ∧ Drawn0 w w' := by
 have H : (if a0 ≥ a1 then (some (decide (a0 ≤ a2))) else (some false)) = some r := h
 clear h
 by_cases c4 : a0 ≥ a1
 ·rw [if_pos c4] at H
  have c4b0 : decide (a1 ≤ a0) = true := decide_eq_true c4
  clear c4
  obtain rfl := Option.some.inj H
  go_enter Try.func62, Try.ntmps62
  go_wp2
  go_ret
  exact ⟨by first | rfl | (simp; done) | (simp [*]; done), by repeat (first | exact Drawn0.refl _ | apply Drawn0.step)⟩
 ·rw [if_neg c4] at H
  have c4b0 : decide (a1 ≤ a0) = false := decide_eq_false c4
  clear c4
  obtain rfl := Option.some.inj H
  go_enter Try.func62, Try.ntmps62
  go_wp2
  go_ret
  exact ⟨by first | rfl | (simp; done) | (simp [*]; done), by repeat (first | exact Drawn0.refl _ | apply Drawn0.step)⟩

/-! ### impl_parts: function 105 -/
mutual
def impl_parts.j0 : Nat → Int → Bool → Option (Int × Int × Int)
 | 0, _, _ => none
 | k + 1, x5, x6 => if x6 = true then (some (2, 1, 1)) else (if x5 = 5 then (impl_parts.j1 k x5 (x5 == 5)) else (impl_parts.j1 k x5 (x5 == 6)))
def impl_parts.j1 : Nat → Int → Bool → Option (Int × Int × Int)
 | 0, _, _ => none
 | k + 1, x5, x10 => if x10 = true then (some (2, 1, 2)) else (if x5 = 7 then (some (1, 2, 2)) else (if x5 = 8 then (some (2, 2, 2)) else (if x5 = 9 then (some (2, 2, 2)) else (some (0, 0, 1)))))
end
def impl_parts.f (k : Nat) (a0 : Int) : Option (Int × Int × Int) := if a0 = 2 then (impl_parts.j0 k a0 (a0 == 2)) else (if a0 = 3 then (impl_parts.j0 k a0 (a0 == 3)) else (impl_parts.j0 k a0 (a0 == 4)))
theorem impl_parts.mono_l : ∀ k, (∀ y0 y1, LeO (impl_parts.j0 k y0 y1) (impl_parts.j0 (k + 1) y0 y1)) ∧ (∀ y0 y1, LeO (impl_parts.j1 k y0 y1) (impl_parts.j1 (k + 1) y0 y1))
 | 0 => ⟨fun _ _ r h => by simp [impl_parts.j0] at h, fun _ _ r h => by simp [impl_parts.j1] at h⟩
 | k + 1 => by
  obtain ⟨ih0, ih1⟩ := impl_parts.mono_l k
  refine ⟨?_, ?_⟩
  ·intro y0 y1
   unfold impl_parts.j0
   repeat' first
   | (with_reducible exact ih0 _ _)
   | (with_reducible exact ih1 _ _)
   | (with_reducible exact LeO.refl _)
   | (with_reducible exact LeO.none _)
   | (with_reducible refine LeO.ite ?_ ?_)
   | (with_reducible refine LeO.bind ?_ (fun _ => ?_))
   | exact ih0 _ _
   | exact ih1 _ _
   | exact LeO.none _
   | refine LeO.ite ?_ ?_
   | refine LeO.bind ?_ (fun _ => ?_)
  ·intro y0 y1
   unfold impl_parts.j1
   repeat' first
   | (with_reducible exact ih0 _ _)
   | (with_reducible exact ih1 _ _)
   | (with_reducible exact LeO.refl _)
   | (with_reducible exact LeO.none _)
   | (with_reducible refine LeO.ite ?_ ?_)
   | (with_reducible refine LeO.bind ?_ (fun _ => ?_))
   | exact ih0 _ _
   | exact ih1 _ _
   | exact LeO.none _
   | refine LeO.ite ?_ ?_
   | refine LeO.bind ?_ (fun _ => ?_)
theorem impl_parts.mono : ∀ a0 k, LeO (impl_parts.f k a0) (impl_parts.f (k + 1) a0) := by
 intro a0 k
 obtain ⟨ih0, ih1⟩ := impl_parts.mono_l k
 unfold impl_parts.f
 repeat' first
   | (with_reducible exact ih0 _ _)
   | (with_reducible exact ih1 _ _)
   | (with_reducible exact LeO.refl _)
   | (with_reducible exact LeO.none _)
   | (with_reducible refine LeO.ite ?_ ?_)
   | (with_reducible refine LeO.bind ?_ (fun _ => ?_))
   | exact ih0 _ _
   | exact ih1 _ _
   | exact LeO.none _
   | refine LeO.ite ?_ ?_
   | refine LeO.bind ?_ (fun _ => ?_)
set_option maxHeartbeats 8000000 in
set_option maxRecDepth 100000 in
theorem impl_parts.calls (k : Nat) (a0 : Int) (r1 : Int) (r2 : Int) (r3 : Int) (w : World) (h : impl_parts.f k a0 = some (r1, r2, r3)) :
  Calls Try.prog 105 #[.int .i64 a0] w fun e w' => e = .returned (.tuple #[.int .i64 r1, .int .i64 r2, .int .i64 r3]) ∧ Drawn0 w w' := by
 have H : (if a0 = 2 then (impl_parts.j0 k a0 (a0 == 2)) else (if a0 = 3 then (impl_parts.j0 k a0 (a0 == 3)) else (impl_parts.j0 k a0 (a0 == 4)))) = some (r1, r2, r3) := h
 clear h
 have HC2 := Aside0.mk H
 clear H
 go_enter Try.func105, Try.ntmps105
 go_upto_if 6 with (fail)
 go_cut [6] (fun v6 wc => ∃ (kq : Nat) (x6_1 : Bool), v6 = .bool x6_1 ∧ Aside0 (impl_parts.j0 kq a0 x6_1 = some (r1, r2, r3)) ∧ Aside0 (kq ≤ k) ∧ Drawn0 w wc)
 case first =>
  have H := HC2.out
  clear HC2
  by_cases c3 : a0 = 2
  ·rw [if_pos c3] at H
   have c3b0 : (a0 == 2) = true := beq_iff_eq.mpr c3
   have c3b1 : (a0 != 2) = false := bne_eq_false_iff_eq.mpr c3
   clear c3
   (first | rw [c3b0] | (simp only [i64_w, i32_w]; rw [c3b0]) | skip)
   have H' := Aside0.mk H
   clear H
   go_wp2
   go_meet
   case rel => exact ⟨_, ((a0 == 2)), (by first | rfl | (simp; done) | (simp [*]; done)), H', ⟨by first | omega | exact Nat.le_refl _⟩, by repeat (first | exact Drawn0.refl _ | apply Drawn0.step)⟩
  ·rw [if_neg c3] at H
   have c3b0 : (a0 == 2) = false := beq_eq_false_iff_ne.mpr c3
   have c3b1 : (a0 != 2) = true := bne_iff_ne.mpr c3
   (first | rw [c3b0] | (simp only [i64_w, i32_w]; rw [c3b0]) | skip)
   by_cases c4 : a0 = 3
   ·rw [if_pos c4] at H
    have c4b0 : (a0 == 3) = true := beq_iff_eq.mpr c4
    have c4b1 : (a0 != 3) = false := bne_eq_false_iff_eq.mpr c4
    clear c4
    have H' := Aside0.mk H
    clear H
    go_wp2
    go_meet
    case rel => exact ⟨_, ((a0 == 3)), (by first | rfl | (simp; done) | (simp [*]; done)), H', ⟨by first | omega | exact Nat.le_refl _⟩, by repeat (first | exact Drawn0.refl _ | apply Drawn0.step)⟩
   ·rw [if_neg c4] at H
    have c4b0 : (a0 == 3) = false := beq_eq_false_iff_ne.mpr c4
    have c4b1 : (a0 != 3) = true := bne_iff_ne.mpr c4
    have H' := Aside0.mk H
    clear H
    go_wp2
    go_meet
    case rel => exact ⟨_, ((a0 == 4)), (by first | rfl | (simp; done) | (simp [*]; done)), H', ⟨by first | omega | exact Nat.le_refl _⟩, by repeat (first | exact Drawn0.refl _ | apply Drawn0.step)⟩
 case rest =>
  clear HC2
  try clear c1
  try clear p2
  try clear c3
  try clear c3b0
  try clear c3b1
  try clear c4
  try clear c4b0
  try clear c4b1
  obtain ⟨kq, x6_1, rfl, HA, HJ1, ⟨mc1, rfl⟩⟩ := hcut
  cases kq with
  | zero => exact absurd HA.out (by simp [impl_parts.j0])
  | succ kj1 =>
   have H := HA.out
   clear HA
   simp only [impl_parts.j0] at H
   by_cases c5 : x6_1 = true
   ·subst c5
    have H1 : (some (2, 1, 1)) = some (r1, r2, r3) := by rw [if_pos rfl] at H; exact H
    clear H
    have H := H1
    clear H1
    simp only [Option.some.injEq, Prod.mk.injEq] at H
    obtain ⟨rfl, rfl, rfl⟩ := H
    go_wp2
    go_ret3
    exact ⟨by first | rfl | (simp; done) | (simp [*]; done), by repeat (first | exact Drawn0.refl _ | apply Drawn0.step)⟩
   ·replace c5 := Bool.eq_false_iff.mpr c5
    subst c5
    have H1 : (if a0 = 5 then (impl_parts.j1 kj1 a0 (a0 == 5)) else (impl_parts.j1 kj1 a0 (a0 == 6))) = some (r1, r2, r3) := by rw [if_neg (show ¬ (false = true) by decide)] at H; exact H
    clear H
    have H := H1
    clear H1
    have HC6 := Aside0.mk H
    clear H
    go_upto_if 10 with (fail)
    go_cut [10] (fun v10 wc => ∃ (kq : Nat) (x10_5 : Bool), v10 = .bool x10_5 ∧ Aside0 (impl_parts.j1 kq a0 x10_5 = some (r1, r2, r3)) ∧ Aside0 (kq ≤ kj1) ∧ Drawn0 w wc)
    case first =>
     have H := HC6.out
     clear HC6
     by_cases c7 : a0 = 5
     ·rw [if_pos c7] at H
      have c7b0 : (a0 == 5) = true := beq_iff_eq.mpr c7
      have c7b1 : (a0 != 5) = false := bne_eq_false_iff_eq.mpr c7
      clear c7
      (first | rw [c7b0] | (simp only [i64_w, i32_w]; rw [c7b0]) | skip)
      have H' := Aside0.mk H
      clear H
      go_wp2
      go_meet
      case rel => exact ⟨_, ((a0 == 5)), (by first | rfl | (simp; done) | (simp [*]; done)), H', ⟨by have := HJ1.out; first | omega | exact Nat.le_refl _⟩, by repeat (first | exact Drawn0.refl _ | apply Drawn0.step)⟩
     ·rw [if_neg c7] at H
      have c7b0 : (a0 == 5) = false := beq_eq_false_iff_ne.mpr c7
      have c7b1 : (a0 != 5) = true := bne_iff_ne.mpr c7
      (first | rw [c7b0] | (simp only [i64_w, i32_w]; rw [c7b0]) | skip)
      have H' := Aside0.mk H
      clear H
      go_wp2
      go_meet
      case rel => exact ⟨_, ((a0 == 6)), (by first | rfl | (simp; done) | (simp [*]; done)), H', ⟨by have := HJ1.out; first | omega | exact Nat.le_refl _⟩, by repeat (first | exact Drawn0.refl _ | apply Drawn0.step)⟩
    case rest =>
     clear HC6
     try clear c1
     try clear p2
     try clear c3
     try clear c3b0
     try clear c3b1
     try clear c4
     try clear c4b0
     try clear c4b1
     try clear c5
     try clear c7
     try clear c7b0
     try clear c7b1
     try clear p2
     obtain ⟨kq, x10_5, rfl, HA, HJ5, ⟨mc5, rfl⟩⟩ := hcut
     cases kq with
     | zero => exact absurd HA.out (by simp [impl_parts.j1])
     | succ kj5 =>
      have H := HA.out
      clear HA
      simp only [impl_parts.j1] at H
      by_cases c8 : x10_5 = true
      ·subst c8
       have H1 : (some (2, 1, 2)) = some (r1, r2, r3) := by rw [if_pos rfl] at H; exact H
       clear H
       have H := H1
       clear H1
       simp only [Option.some.injEq, Prod.mk.injEq] at H
       obtain ⟨rfl, rfl, rfl⟩ := H
       go_wp2
       go_ret3
       exact ⟨by first | rfl | (simp; done) | (simp [*]; done), by repeat (first | exact Drawn0.refl _ | apply Drawn0.step)⟩
      ·replace c8 := Bool.eq_false_iff.mpr c8
       subst c8
       have H1 : (if a0 = 7 then (some (1, 2, 2)) else (if a0 = 8 then (some (2, 2, 2)) else (if a0 = 9 then (some (2, 2, 2)) else (some (0, 0, 1))))) = some (r1, r2, r3) := by rw [if_neg (show ¬ (false = true) by decide)] at H; exact H
       clear H
       have H := H1
       clear H1
       by_cases c9 : a0 = 7
       ·rw [if_pos c9] at H
        have c9b0 : (a0 == 7) = true := beq_iff_eq.mpr c9
        have c9b1 : (a0 != 7) = false := bne_eq_false_iff_eq.mpr c9
        clear c9
        simp only [Option.some.injEq, Prod.mk.injEq] at H
        obtain ⟨rfl, rfl, rfl⟩ := H
        go_wp2
        go_ret3
        exact ⟨by first | rfl | (simp; done) | (simp [*]; done), by repeat (first | exact Drawn0.refl _ | apply Drawn0.step)⟩
       ·rw [if_neg c9] at H
        have c9b0 : (a0 == 7) = false := beq_eq_false_iff_ne.mpr c9
        have c9b1 : (a0 != 7) = true := bne_iff_ne.mpr c9
        by_cases c10 : a0 = 8
        ·rw [if_pos c10] at H
         have c10b0 : (a0 == 8) = true := beq_iff_eq.mpr c10
         have c10b1 : (a0 != 8) = false := bne_eq_false_iff_eq.mpr c10
         clear c10
         simp only [Option.some.injEq, Prod.mk.injEq] at H
         obtain ⟨rfl, rfl, rfl⟩ := H
         go_wp2
         go_ret3
         exact ⟨by first | rfl | (simp; done) | (simp [*]; done), by repeat (first | exact Drawn0.refl _ | apply Drawn0.step)⟩
        ·rw [if_neg c10] at H
         have c10b0 : (a0 == 8) = false := beq_eq_false_iff_ne.mpr c10
         have c10b1 : (a0 != 8) = true := bne_iff_ne.mpr c10
         by_cases c11 : a0 = 9
         ·rw [if_pos c11] at H
          have c11b0 : (a0 == 9) = true := beq_iff_eq.mpr c11
          have c11b1 : (a0 != 9) = false := bne_eq_false_iff_eq.mpr c11
          clear c11
          simp only [Option.some.injEq, Prod.mk.injEq] at H
          obtain ⟨rfl, rfl, rfl⟩ := H
          go_wp2
          go_ret3
          exact ⟨by first | rfl | (simp; done) | (simp [*]; done), by repeat (first | exact Drawn0.refl _ | apply Drawn0.step)⟩
         ·rw [if_neg c11] at H
          have c11b0 : (a0 == 9) = false := beq_eq_false_iff_ne.mpr c11
          have c11b1 : (a0 != 9) = true := bne_iff_ne.mpr c11
          simp only [Option.some.injEq, Prod.mk.injEq] at H
          obtain ⟨rfl, rfl, rfl⟩ := H
          go_wp2
          go_ret3
          exact ⟨by first | rfl | (simp; done) | (simp [*]; done), by repeat (first | exact Drawn0.refl _ | apply Drawn0.step)⟩

end Go.Proofs.Ytpfkgmcbogcmoaa.QFnEvalUsed
