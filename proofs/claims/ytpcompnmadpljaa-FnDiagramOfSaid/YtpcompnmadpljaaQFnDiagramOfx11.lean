-- Written by a program of this session (mk.py). Lean checks it.
import Derived.Test.YtpcompnmadpljaaQFnDiagramOfx0
import Derived.Test.YtpcompnmadpljaaQFnDiagramOfx1
import Derived.Test.YtpcompnmadpljaaQFnDiagramOfx10
namespace Go.Proofs.Ytpcompnmadpljaa.QFnDiagramOf
open Go.RowKit Go.Proofs.YtpcompnmadpljaaW.PrintWords Go.Proofs.YtpcompnmadpljaaW.PrintLast Go.Proofs.YtpcompnmadpljaaW.PrintMore
attribute [local go_sem] max2_int min2_int max_two min_two max_three min_three max_four min_four   -- for this text's walks alone
set_option linter.unusedVariables false
set_option linter.unusedSimpArgs false

/-! ### impl_Diagram_value: function 88 -/
def impl_Diagram_value.l0 : Nat → Int → List Int → Int → List (S71) → Option (Int)
 | 0, _, _, _, _ => none
 | k + 1, x1, x2, x293000, x293001 => if x1 ≥ 2 then (if 0 ≤ (wrap64 (x1 - 2)) then (if (wrap64 (x1 - 2)) < (x293001.length : Int) then (if 0 ≤ ((rd_T71 x293001 (wrap64 (x1 - 2))).f0) then (if ((rd_T71 x293001 (wrap64 (x1 - 2))).f0) < (x2.length : Int) then (if (rd x2 ((rd_T71 x293001 (wrap64 (x1 - 2))).f0)) = 1 then (impl_Diagram_value.l0 k ((rd_T71 x293001 (wrap64 (x1 - 2))).f2) x2 x293000 x293001) else (impl_Diagram_value.l0 k ((rd_T71 x293001 (wrap64 (x1 - 2))).f1) x2 x293000 x293001)) else (none)) else (none)) else (none)) else (none)) else (some x1)
def impl_Diagram_value.f (k : Nat) (a0_0 : Int) (l0_1 : List (S71)) (a1 : Int) (l2 : List Int) : Option (Int) := impl_Diagram_value.l0 k a1 l2 a0_0 l0_1
theorem impl_Diagram_value.mono_l : ∀ k, (∀ y0 y1 y2 y3, LeO (impl_Diagram_value.l0 k y0 y1 y2 y3) (impl_Diagram_value.l0 (k + 1) y0 y1 y2 y3))
 | 0 => fun _ _ _ _ r h => by simp [impl_Diagram_value.l0] at h
 | k + 1 => by
  have ih0 := impl_Diagram_value.mono_l k
  ·intro y0 y1 y2 y3
   unfold impl_Diagram_value.l0
   repeat' first
   | (with_reducible exact ih0 _ _ _ _)
   | (with_reducible exact LeO.refl _)
   | (with_reducible exact LeO.none _)
   | (with_reducible refine LeO.ite ?_ ?_)
   | (with_reducible refine LeO.bind ?_ (fun _ => ?_))
   | exact ih0 _ _ _ _
   | exact LeO.none _
   | refine LeO.ite ?_ ?_
   | refine LeO.bind ?_ (fun _ => ?_)
theorem impl_Diagram_value.mono : ∀ a0 a1 a2 a3 k, LeO (impl_Diagram_value.f k a0 a1 a2 a3) (impl_Diagram_value.f (k + 1) a0 a1 a2 a3) := by
 intro a0 a1 a2 a3 k
 have ih0 := impl_Diagram_value.mono_l k
 unfold impl_Diagram_value.f
 repeat' first
   | (with_reducible exact ih0 _ _ _ _)
   | (with_reducible exact LeO.refl _)
   | (with_reducible exact LeO.none _)
   | (with_reducible refine LeO.ite ?_ ?_)
   | (with_reducible refine LeO.bind ?_ (fun _ => ?_))
   | exact ih0 _ _ _ _
   | exact LeO.none _
   | refine LeO.ite ?_ ?_
   | refine LeO.bind ?_ (fun _ => ?_)
set_option maxHeartbeats 8000000 in
set_option maxRecDepth 100000 in
theorem impl_Diagram_value.calls (k : Nat) (a0_0 : Int) (A0_1 : Option Addr) (c0_1 : Nat) (l0_1 : List (S71)) (a1 : Int) (A2 : Option Addr) (c2 : Nat) (l2 : List Int) (r : Int) (w : World) (hr0_1 : Kd.C k71 w A0_1 l0_1.length l0_1) (hc0_1 : l0_1.length ≤ c0_1) (hr2 : Kd.C (Kd.int .i64) w A2 l2.length l2) (hc2 : l2.length ≤ c2) (h : impl_Diagram_value.f k a0_0 l0_1 a1 l2 = some r) :
  Calls Try.prog 88 #[.agg #[.int .i64 a0_0, .slice A0_1 l0_1.length c0_1], .int .i64 a1, .slice A2 l2.length c2] w fun e w' => e = .returned (.int .i64 r) ∧ Below w.heap.size w w' := by
 have hu25 := Try.underlying25
 have hu71 := Try.underlying71
 have HR0_1 := Aside0.mk hr0_1
 have HC0_1 := Aside0.mk hc0_1
 clear hr0_1 hc0_1
 have HR2 := Aside0.mk hr2
 have HC2 := Aside0.mk hc2
 clear hr2 hc2
 have HB := Aside0.mk (Below.refl w.heap.size w)
 have H : (impl_Diagram_value.l0 k a1 l2 a0_0 l0_1) = some r := h
 clear h
 have H' := Aside0.mk H
 clear H
 go_enter Try.func88, Try.ntmps88
 go_wp2_with (first | ((with_reducible refine gate_dst (N := 3) rfl ?_); refine box_event ?hg (N := 3) ?hd (cs := #[.int .i64 a0_0, .slice A0_1 l0_1.length c0_1]) (t := 25) ?hr ?_; (case hd => rfl); (case hg => rfl); (case hr => first | (go_simp; done) | (go_simp; rfl)); intro gb292 hg w4 hbox hb; have n0_ := Aside0.mk (below_step (by repeat (first | (with_reducible first | exact HB.out | apply bwA | apply bwN | apply bwD) | exact HB.out)) hb); have n1_ := Aside0.mk (hbox); have n2_ := Aside0.mk ((by rw [hg]; exact (below_size (by repeat (first | (with_reducible first | exact HB.out | apply bwA | apply bwN | apply bwD) | exact HB.out))) : w.heap.size ≤ gb292)); have n3_ := Aside0.mk ((by rw [hg]; exact (below_size (by repeat (first | (with_reducible first | exact HB.out | apply bwA | apply bwN | apply bwD) | exact HB.out))) : w.heap.size ≤ gb292)); clear HB; have HB := n0_; have BK292 := n1_; have GW292 := n2_; have GE292 := n3_; clear n0_ n1_ n2_ n3_; clear hb hbox hg))
 go_loopg [1] k (fun kq v1 w' => ∃ (x1_1 : Int), v1 = .int .i64 x1_1 ∧ Aside0 (impl_Diagram_value.l0 kq x1_1 l2 a0_0 l0_1 = some r) ∧ Aside0 (kq ≤ k) ∧ Aside0 (w'.heap[gb292]? = some (.cells #[.int .i64 a0_0, (.slice A0_1 l0_1.length c0_1)] 25 (0, 0))) ∧ Aside0 (Below w.heap.size w w'))
 case atStart => exact ⟨(a1), rsd, H', ⟨Nat.le_refl _⟩, ⟨bvK BK292.out⟩, ⟨by repeat (first | (with_reducible first | exact HB.out | apply bwA | apply bwN | apply bwD | refine below_set ?_ GE292.out) | exact HB.out)⟩⟩
 case round =>
  clear H'
  try clear c2
  try clear p2
  obtain ⟨x1_1, rfl, HA, HK1, BK292, HB⟩ := hrel
  cases gk with
  | zero => exact absurd HA.out (by simp [impl_Diagram_value.l0])
  | succ k1 =>
   have H := HA.out
   clear HA
   simp only [impl_Diagram_value.l0] at H
   by_cases c5 : x1_1 ≥ 2
   ·rw [if_pos c5] at H
    have c5b0 : decide (2 ≤ x1_1) = true := decide_eq_true c5
    clear c5
    obtain ⟨ji6, hji6⟩ : ∃ j_ : Int, (wrap64 (x1_1 - 2)) = j_ := ⟨_, rfl⟩
    replace H : (if 0 ≤ (ji6) then (if (ji6) < (l0_1.length : Int) then (if 0 ≤ ((rd_T71 l0_1 (ji6)).f0) then (if ((rd_T71 l0_1 (ji6)).f0) < (l2.length : Int) then (if (rd l2 ((rd_T71 l0_1 (ji6)).f0)) = 1 then (impl_Diagram_value.l0 k1 ((rd_T71 l0_1 (ji6)).f2) l2 a0_0 l0_1) else (impl_Diagram_value.l0 k1 ((rd_T71 l0_1 (ji6)).f1) l2 a0_0 l0_1)) else (none)) else (none)) else (none)) else (none)) = some r := by first | (rw [hji6] at H; exact H) | (simp only [hji6] at H ⊢; exact H)
    have hji6w : (IntKind.i64.wrap (x1_1 - 2)) = ji6 := (i64_w _).trans hji6
    by_cases c7 : 0 ≤ (ji6)
    ·rw [if_pos c7] at H
     have c7b0 : decide (0 ≤ (ji6)) = true := decide_eq_true c7
     clear c7
     by_cases c8 : (ji6) < (l0_1.length : Int)
     ·rw [if_pos c8] at H
      have c8b0 : decide ((ji6) < (l0_1.length : Int)) = true := decide_eq_true c8
      clear c8
      by_cases c9 : 0 ≤ ((rd_T71 l0_1 (ji6)).f0)
      ·rw [if_pos c9] at H
       have c9b0 : decide (0 ≤ ((rd_T71 l0_1 (ji6)).f0)) = true := decide_eq_true c9
       clear c9
       by_cases c10 : ((rd_T71 l0_1 (ji6)).f0) < (l2.length : Int)
       ·rw [if_pos c10] at H
        have c10b0 : decide (((rd_T71 l0_1 (ji6)).f0) < (l2.length : Int)) = true := decide_eq_true c10
        clear c10
        by_cases c11 : (rd l2 ((rd_T71 l0_1 (ji6)).f0)) = 1
        ·rw [if_pos c11] at H
         have c11b0 : ((rd l2 ((rd_T71 l0_1 (ji6)).f0)) == 1) = true := beq_iff_eq.mpr c11
         have c11b1 : ((rd l2 ((rd_T71 l0_1 (ji6)).f0)) != 1) = false := bne_eq_false_iff_eq.mpr c11
         clear c11
         have H' := Aside0.mk H
         clear H
         have hcz12_0 : wr.cell? ⟨gb292, 0, none⟩ = some (.int .i64 a0_0) := (blk_cell BK292.out 0).trans rfl
         have hcz12_1 : wr.cell? ⟨gb292, 1, none⟩ = some (.slice A0_1 l0_1.length c0_1) := (blk_cell BK292.out 1).trans rfl
         have hfz12_0 := blk_frozen BK292.out 0
         have hfz12_1 := blk_frozen BK292.out 1
         have p293 : 0 ≤ ((ji6) : Int) := oda
         have q293 : (ji6) < (l0_1.length : Int) := oda
         obtain ⟨ad293, e293, hx293_0, hx293_1, hx293_2⟩ := at_T71 HR0_1.out (ji6) p293 q293
         cases e293
         try replace hx293_0 := bct HB.out hx293_0
         try replace hx293_1 := bct HB.out hx293_1
         try replace hx293_2 := bct HB.out hx293_2
         replace p293 := eq_true p293
         replace q293 := eq_true q293
         go_wp2_with (first | ((with_reducible refine gate_dst (N := 7) rfl ?_); refine box_event ?hg (N := 7) ?hd (cs := #[.int .i64 0, .int .i64 0, .int .i64 0]) (t := 71) ?hr ?_; (case hd => rfl); (case hg => rfl); (case hr => first | (go_simp; done) | (go_simp; rfl)); intro gb294 hg w13 hbox hb; have n0_ := Aside0.mk (blk_below (g := gb292) (o := .cells #[.int .i64 a0_0, .slice (some ad293) l0_1.length c0_1] 25 (0, 0)) (bvK BK292.out) hb); have n1_ := Aside0.mk (below_step (by repeat (first | (with_reducible first | exact HB.out | apply bwA | apply bwN | apply bwD | refine below_set ?_ GE292.out) | exact HB.out)) hb); have n2_ := Aside0.mk (hbox); have n3_ := Aside0.mk ((by rw [hg]; exact (below_size (by repeat (first | (with_reducible first | exact HB.out | apply bwA | apply bwN | apply bwD | refine below_set ?_ GE292.out) | exact HB.out))) : w.heap.size ≤ gb294)); have n4_ := Aside0.mk ((by rw [hg]; exact (below_size (by repeat (first | (with_reducible first | exact HB.out | apply bwA | apply bwN | apply bwD | refine below_set ?_ GE292.out) | exact HB.out))) : w.heap.size ≤ gb294)); have n5_ := Aside0.mk ((by rw [hg]; exact Nat.ne_of_lt (blk_lt (g := gb292) (o := .cells #[.int .i64 a0_0, .slice (some ad293) l0_1.length c0_1] 25 (0, 0)) (bvK BK292.out)) : gb292 ≠ gb294)); have n6_ := Aside0.mk ((by rw [hg]; exact Nat.ne_of_gt (blk_lt (g := gb292) (o := .cells #[.int .i64 a0_0, .slice (some ad293) l0_1.length c0_1] 25 (0, 0)) (bvK BK292.out)) : gb294 ≠ gb292)); clear BK292; clear HB; have BK292 := n0_; have HB := n1_; have BK294 := n2_; have GW294 := n3_; have GE294 := n4_; have NB292_294 := n5_; have NB294_292 := n6_; clear n0_ n1_ n2_ n3_ n4_ n5_ n6_; clear hb hbox hg; have hnb14 := NB294_292.out; have hnc14 := NB292_294.out; have hcz15_0 : w13.cell? ⟨gb294, 0, none⟩ = some (.int .i64 0) := (blk_cell BK294.out 0).trans rfl; have hcz15_1 : w13.cell? ⟨gb294, 1, none⟩ = some (.int .i64 0) := (blk_cell BK294.out 1).trans rfl; have hcz15_2 : w13.cell? ⟨gb294, 2, none⟩ = some (.int .i64 0) := (blk_cell BK294.out 2).trans rfl; have hfz15_0 := blk_frozen BK294.out 0; have hfz15_1 := blk_frozen BK294.out 1; have hfz15_2 := blk_frozen BK294.out 2; have p295 : 0 ≤ (((rd_T71 l0_1 (ji6)).f0) : Int) := oda; have q295 : ((rd_T71 l0_1 (ji6)).f0) < (l2.length : Int) := oda; obtain ⟨ad295, e295, hx295_0⟩ := Kd.at_int HR2.out ((rd_T71 l0_1 (ji6)).f0) p295 q295; cases e295; have hn295_0 : ad295.block ≠ gb294 := Nat.ne_of_lt (Nat.lt_of_lt_of_le (blt hx295_0) GW294.out); have hn295_1 : ad295.block ≠ gb294 := Nat.ne_of_lt (Nat.lt_of_lt_of_le (blt hx295_0) GW294.out); have hn295_2 : ad295.block ≠ gb294 := Nat.ne_of_lt (Nat.lt_of_lt_of_le (blt hx295_0) GW294.out); replace hx295_0 := bct HB.out hx295_0; replace hx295_0 := (cell_far (p := ⟨gb294, 0, none⟩) (fnb hn295_0) (.int .i64 ((rd_T71 l0_1 (ji6)).f0))).trans hx295_0; replace hx295_0 := (cell_far (p := ⟨gb294, 1, none⟩) (fnb hn295_1) (.int .i64 ((rd_T71 l0_1 (ji6)).f1))).trans hx295_0; replace hx295_0 := (cell_far (p := ⟨gb294, 2, none⟩) (fnb hn295_2) (.int .i64 ((rd_T71 l0_1 (ji6)).f2))).trans hx295_0; clear hn295_0; clear hn295_1; clear hn295_2; replace p295 := eq_true p295; replace q295 := eq_true q295))
         go_roundg k1
         case measure => have := HK1.out; omega
         case rel => exact ⟨((rd_T71 l0_1 (ji6)).f2), (by first | rfl | (simp; done) | (simp only [← hji6] <;> (first | rfl | simp)) | (simp [*]; done)), H', ⟨by have := HK1.out; omega⟩, ⟨by (with_reducible repeat (first | refine blk_drewN ?_ _ | refine blk_drew ?_ | refine blk_alloc ?_ _)); refine blk_far ?_ NB292_294.out _; (with_reducible repeat (first | refine blk_drewN ?_ _ | refine blk_drew ?_ | refine blk_alloc ?_ _)); refine blk_far ?_ NB292_294.out _; (with_reducible repeat (first | refine blk_drewN ?_ _ | refine blk_drew ?_ | refine blk_alloc ?_ _)); refine blk_far ?_ NB292_294.out _; (with_reducible repeat (first | refine blk_drewN ?_ _ | refine blk_drew ?_ | refine blk_alloc ?_ _)); exact BK292.out⟩, ⟨by repeat (first | (with_reducible first | exact HB.out | apply bwA | apply bwN | apply bwD | refine below_set ?_ GE292.out | refine below_set ?_ GE294.out) | exact HB.out)⟩⟩
        ·rw [if_neg c11] at H
         have c11b0 : ((rd l2 ((rd_T71 l0_1 (ji6)).f0)) == 1) = false := beq_eq_false_iff_ne.mpr c11
         have c11b1 : ((rd l2 ((rd_T71 l0_1 (ji6)).f0)) != 1) = true := bne_iff_ne.mpr c11
         have H' := Aside0.mk H
         clear H
         have hcz16_0 : wr.cell? ⟨gb292, 0, none⟩ = some (.int .i64 a0_0) := (blk_cell BK292.out 0).trans rfl
         have hcz16_1 : wr.cell? ⟨gb292, 1, none⟩ = some (.slice A0_1 l0_1.length c0_1) := (blk_cell BK292.out 1).trans rfl
         have hfz16_0 := blk_frozen BK292.out 0
         have hfz16_1 := blk_frozen BK292.out 1
         have p293 : 0 ≤ ((ji6) : Int) := oda
         have q293 : (ji6) < (l0_1.length : Int) := oda
         obtain ⟨ad293, e293, hx293_0, hx293_1, hx293_2⟩ := at_T71 HR0_1.out (ji6) p293 q293
         cases e293
         try replace hx293_0 := bct HB.out hx293_0
         try replace hx293_1 := bct HB.out hx293_1
         try replace hx293_2 := bct HB.out hx293_2
         replace p293 := eq_true p293
         replace q293 := eq_true q293
         go_wp2_with (first | ((with_reducible refine gate_dst (N := 7) rfl ?_); refine box_event ?hg (N := 7) ?hd (cs := #[.int .i64 0, .int .i64 0, .int .i64 0]) (t := 71) ?hr ?_; (case hd => rfl); (case hg => rfl); (case hr => first | (go_simp; done) | (go_simp; rfl)); intro gb294 hg w17 hbox hb; have n0_ := Aside0.mk (blk_below (g := gb292) (o := .cells #[.int .i64 a0_0, .slice (some ad293) l0_1.length c0_1] 25 (0, 0)) (bvK BK292.out) hb); have n1_ := Aside0.mk (below_step (by repeat (first | (with_reducible first | exact HB.out | apply bwA | apply bwN | apply bwD | refine below_set ?_ GE292.out) | exact HB.out)) hb); have n2_ := Aside0.mk (hbox); have n3_ := Aside0.mk ((by rw [hg]; exact (below_size (by repeat (first | (with_reducible first | exact HB.out | apply bwA | apply bwN | apply bwD | refine below_set ?_ GE292.out) | exact HB.out))) : w.heap.size ≤ gb294)); have n4_ := Aside0.mk ((by rw [hg]; exact (below_size (by repeat (first | (with_reducible first | exact HB.out | apply bwA | apply bwN | apply bwD | refine below_set ?_ GE292.out) | exact HB.out))) : w.heap.size ≤ gb294)); have n5_ := Aside0.mk ((by rw [hg]; exact Nat.ne_of_lt (blk_lt (g := gb292) (o := .cells #[.int .i64 a0_0, .slice (some ad293) l0_1.length c0_1] 25 (0, 0)) (bvK BK292.out)) : gb292 ≠ gb294)); have n6_ := Aside0.mk ((by rw [hg]; exact Nat.ne_of_gt (blk_lt (g := gb292) (o := .cells #[.int .i64 a0_0, .slice (some ad293) l0_1.length c0_1] 25 (0, 0)) (bvK BK292.out)) : gb294 ≠ gb292)); clear BK292; clear HB; have BK292 := n0_; have HB := n1_; have BK294 := n2_; have GW294 := n3_; have GE294 := n4_; have NB292_294 := n5_; have NB294_292 := n6_; clear n0_ n1_ n2_ n3_ n4_ n5_ n6_; clear hb hbox hg; have hnb18 := NB294_292.out; have hnc18 := NB292_294.out; have hcz19_0 : w17.cell? ⟨gb294, 0, none⟩ = some (.int .i64 0) := (blk_cell BK294.out 0).trans rfl; have hcz19_1 : w17.cell? ⟨gb294, 1, none⟩ = some (.int .i64 0) := (blk_cell BK294.out 1).trans rfl; have hcz19_2 : w17.cell? ⟨gb294, 2, none⟩ = some (.int .i64 0) := (blk_cell BK294.out 2).trans rfl; have hfz19_0 := blk_frozen BK294.out 0; have hfz19_1 := blk_frozen BK294.out 1; have hfz19_2 := blk_frozen BK294.out 2; have p295 : 0 ≤ (((rd_T71 l0_1 (ji6)).f0) : Int) := oda; have q295 : ((rd_T71 l0_1 (ji6)).f0) < (l2.length : Int) := oda; obtain ⟨ad295, e295, hx295_0⟩ := Kd.at_int HR2.out ((rd_T71 l0_1 (ji6)).f0) p295 q295; cases e295; have hn295_0 : ad295.block ≠ gb294 := Nat.ne_of_lt (Nat.lt_of_lt_of_le (blt hx295_0) GW294.out); have hn295_1 : ad295.block ≠ gb294 := Nat.ne_of_lt (Nat.lt_of_lt_of_le (blt hx295_0) GW294.out); have hn295_2 : ad295.block ≠ gb294 := Nat.ne_of_lt (Nat.lt_of_lt_of_le (blt hx295_0) GW294.out); replace hx295_0 := bct HB.out hx295_0; replace hx295_0 := (cell_far (p := ⟨gb294, 0, none⟩) (fnb hn295_0) (.int .i64 ((rd_T71 l0_1 (ji6)).f0))).trans hx295_0; replace hx295_0 := (cell_far (p := ⟨gb294, 1, none⟩) (fnb hn295_1) (.int .i64 ((rd_T71 l0_1 (ji6)).f1))).trans hx295_0; replace hx295_0 := (cell_far (p := ⟨gb294, 2, none⟩) (fnb hn295_2) (.int .i64 ((rd_T71 l0_1 (ji6)).f2))).trans hx295_0; clear hn295_0; clear hn295_1; clear hn295_2; replace p295 := eq_true p295; replace q295 := eq_true q295))
         go_roundg k1
         case measure => have := HK1.out; omega
         case rel => exact ⟨((rd_T71 l0_1 (ji6)).f1), (by first | rfl | (simp; done) | (simp only [← hji6] <;> (first | rfl | simp)) | (simp [*]; done)), H', ⟨by have := HK1.out; omega⟩, ⟨by (with_reducible repeat (first | refine blk_drewN ?_ _ | refine blk_drew ?_ | refine blk_alloc ?_ _)); refine blk_far ?_ NB292_294.out _; (with_reducible repeat (first | refine blk_drewN ?_ _ | refine blk_drew ?_ | refine blk_alloc ?_ _)); refine blk_far ?_ NB292_294.out _; (with_reducible repeat (first | refine blk_drewN ?_ _ | refine blk_drew ?_ | refine blk_alloc ?_ _)); refine blk_far ?_ NB292_294.out _; (with_reducible repeat (first | refine blk_drewN ?_ _ | refine blk_drew ?_ | refine blk_alloc ?_ _)); exact BK292.out⟩, ⟨by repeat (first | (with_reducible first | exact HB.out | apply bwA | apply bwN | apply bwD | refine below_set ?_ GE292.out | refine below_set ?_ GE294.out) | exact HB.out)⟩⟩
       ·rw [if_neg c10] at H
        exact absurd H (by simp)
      ·rw [if_neg c9] at H
       exact absurd H (by simp)
     ·rw [if_neg c8] at H
      exact absurd H (by simp)
    ·rw [if_neg c7] at H
     exact absurd H (by simp)
   ·rw [if_neg c5] at H
    have c5b0 : decide (2 ≤ x1_1) = false := decide_eq_false c5
    clear c5
    obtain rfl := Option.some.inj H
    go_wp2
    go_ret
    exact ⟨ers, by repeat (first | (with_reducible first | exact HB.out | apply bwA | apply bwN | apply bwD | refine below_set ?_ GE292.out) | exact HB.out)⟩

/-! ### impl_DiagramValue: function 34 -/
def impl_DiagramValue.f (k : Nat) (a0_0 : Int) (l0_1 : List (S71)) (a1 : Int) (l2 : List Int) : Option (Int) := (impl_DiagramValid.f a0_0 l0_1).bind fun t297 => (if t297 = true then ((impl_Diagram_isPlace.f a0_0 l0_1 a1).bind fun t298 => (if t298 = true then (if (l2.length : Int) = a0_0 then ((impl_bitsValid.f l2).bind fun t299 => (if t299 = true then ((impl_Diagram_value.f k a0_0 l0_1 a1 l2).bind fun t300 => (some t300)) else (some (-1)))) else (some (-1))) else (some (-1)))) else (some (-1)))
theorem impl_DiagramValue.mono : ∀ a0 a1 a2 a3 k, LeO (impl_DiagramValue.f k a0 a1 a2 a3) (impl_DiagramValue.f (k + 1) a0 a1 a2 a3) := by
 intro a0 a1 a2 a3 k
 unfold impl_DiagramValue.f
 repeat' first
   | (with_reducible exact impl_Diagram_value.mono _ _ _ _ _)
   | (with_reducible exact LeO.refl _)
   | (with_reducible exact LeO.none _)
   | (with_reducible refine LeO.ite ?_ ?_)
   | (with_reducible refine LeO.bind ?_ (fun _ => ?_))
   | exact impl_Diagram_value.mono _ _ _ _ _
   | exact LeO.none _
   | refine LeO.ite ?_ ?_
   | refine LeO.bind ?_ (fun _ => ?_)
set_option maxHeartbeats 8000000 in
set_option maxRecDepth 100000 in
theorem impl_DiagramValue.calls (k : Nat) (a0_0 : Int) (A0_1 : Option Addr) (c0_1 : Nat) (l0_1 : List (S71)) (a1 : Int) (A2 : Option Addr) (c2 : Nat) (l2 : List Int) (r : Int) (w : World) (hr0_1 : Kd.C k71 w A0_1 l0_1.length l0_1) (hc0_1 : l0_1.length ≤ c0_1) (hr2 : Kd.C (Kd.int .i64) w A2 l2.length l2) (hc2 : l2.length ≤ c2) (h : impl_DiagramValue.f k a0_0 l0_1 a1 l2 = some r) :
  Calls Try.prog 34 #[.agg #[.int .i64 a0_0, .slice A0_1 l0_1.length c0_1], .int .i64 a1, .slice A2 l2.length c2] w fun e w' => e = .returned (.int .i64 r) ∧ Below w.heap.size w w' := by
 have hu25 := Try.underlying25
 have HR0_1 := Aside0.mk hr0_1
 have HC0_1 := Aside0.mk hc0_1
 clear hr0_1 hc0_1
 have HR2 := Aside0.mk hr2
 have HC2 := Aside0.mk hc2
 clear hr2 hc2
 have HB := Aside0.mk (Below.refl w.heap.size w)
 have H : ((impl_DiagramValid.f a0_0 l0_1).bind fun t297 => (if t297 = true then ((impl_Diagram_isPlace.f a0_0 l0_1 a1).bind fun t298 => (if t298 = true then (if (l2.length : Int) = a0_0 then ((impl_bitsValid.f l2).bind fun t299 => (if t299 = true then ((impl_Diagram_value.f k a0_0 l0_1 a1 l2).bind fun t300 => (some t300)) else (some (-1)))) else (some (-1))) else (some (-1)))) else (some (-1)))) = some r := h
 clear h
 replace H := Option.bind_eq_some_iff.mp H
 obtain ⟨t297, A40, H⟩ := H
 replace H : (if t297 = true then ((impl_Diagram_isPlace.f a0_0 l0_1 a1).bind fun t298 => (if t298 = true then (if (l2.length : Int) = a0_0 then ((impl_bitsValid.f l2).bind fun t299 => (if t299 = true then ((impl_Diagram_value.f k a0_0 l0_1 a1 l2).bind fun t300 => (some t300)) else (some (-1)))) else (some (-1))) else (some (-1)))) else (some (-1))) = some r := H
 have A4 := Aside0.mk A40
 clear A40
 by_cases c5 : t297 = true
 ·subst c5
  have H1 : ((impl_Diagram_isPlace.f a0_0 l0_1 a1).bind fun t298 => (if t298 = true then (if (l2.length : Int) = a0_0 then ((impl_bitsValid.f l2).bind fun t299 => (if t299 = true then ((impl_Diagram_value.f k a0_0 l0_1 a1 l2).bind fun t300 => (some t300)) else (some (-1)))) else (some (-1))) else (some (-1)))) = some r := by rw [if_pos rfl] at H; exact H
  clear H
  have H := H1
  clear H1
  replace H := Option.bind_eq_some_iff.mp H
  obtain ⟨t298, A60, H⟩ := H
  replace H : (if t298 = true then (if (l2.length : Int) = a0_0 then ((impl_bitsValid.f l2).bind fun t299 => (if t299 = true then ((impl_Diagram_value.f k a0_0 l0_1 a1 l2).bind fun t300 => (some t300)) else (some (-1)))) else (some (-1))) else (some (-1))) = some r := H
  have A6 := Aside0.mk A60
  clear A60
  by_cases c7 : t298 = true
  ·subst c7
   have H1 : (if (l2.length : Int) = a0_0 then ((impl_bitsValid.f l2).bind fun t299 => (if t299 = true then ((impl_Diagram_value.f k a0_0 l0_1 a1 l2).bind fun t300 => (some t300)) else (some (-1)))) else (some (-1))) = some r := by rw [if_pos rfl] at H; exact H
   clear H
   have H := H1
   clear H1
   by_cases c8 : (l2.length : Int) = a0_0
   ·rw [if_pos c8] at H
    have c8b0 : ((l2.length : Int) == a0_0) = true := beq_iff_eq.mpr c8
    have c8b1 : ((l2.length : Int) != a0_0) = false := bne_eq_false_iff_eq.mpr c8
    clear c8
    replace H := Option.bind_eq_some_iff.mp H
    obtain ⟨t299, A90, H⟩ := H
    replace H : (if t299 = true then ((impl_Diagram_value.f k a0_0 l0_1 a1 l2).bind fun t300 => (some t300)) else (some (-1))) = some r := H
    have A9 := Aside0.mk A90
    clear A90
    by_cases c10 : t299 = true
    ·subst c10
     have H1 : ((impl_Diagram_value.f k a0_0 l0_1 a1 l2).bind fun t300 => (some t300)) = some r := by rw [if_pos rfl] at H; exact H
     clear H
     have H := H1
     clear H1
     replace H := Option.bind_eq_some_iff.mp H
     obtain ⟨t300, A110, H⟩ := H
     replace H : (some t300) = some r := H
     have A11 := Aside0.mk A110
     clear A110
     obtain rfl := Option.some.inj H
     go_enter Try.func34, Try.ntmps34
     go_wp2_with (first | ((with_reducible refine gate_dst (N := 3) rfl ?_); (try (refine gate_guard (by rfl) ?_; dsimp only)); refine box_event ?hg (N := 3) ?hd (cs := #[.int .i64 a0_0, .slice A0_1 l0_1.length c0_1]) (t := 25) ?hr ?_; (case hd => rfl); (case hg => rfl); (case hr => first | (go_simp; done) | (go_simp; rfl)); intro gb296 hg w12 hbox hb; have n0_ := Aside0.mk (below_step (by repeat (first | (with_reducible first | exact HB.out | apply bwA | apply bwN | apply bwD) | exact HB.out)) hb); have n1_ := Aside0.mk (hbox); have n2_ := Aside0.mk ((by rw [hg]; exact (below_size (by repeat (first | (with_reducible first | exact HB.out | apply bwA | apply bwN | apply bwD) | exact HB.out))) : w.heap.size ≤ gb296)); have n3_ := Aside0.mk ((by rw [hg]; exact (below_size (by repeat (first | (with_reducible first | exact HB.out | apply bwA | apply bwN | apply bwD) | exact HB.out))) : w.heap.size ≤ gb296)); clear HB; have HB := n0_; have BK296 := n1_; have GW296 := n2_; have GE296 := n3_; clear n0_ n1_ n2_ n3_; clear hb hbox hg; have hcz13_0 : w12.cell? ⟨gb296, 0, none⟩ = some (.int .i64 a0_0) := (blk_cell BK296.out 0).trans rfl; have hcz13_1 : w12.cell? ⟨gb296, 1, none⟩ = some (.slice A0_1 l0_1.length c0_1) := (blk_cell BK296.out 1).trans rfl; have hfz13_0 := blk_frozen BK296.out 0; have hfz13_1 := blk_frozen BK296.out 1) | ((with_reducible refine gate_callee (f := 17) rfl ?_); refine goesL_ (some 8) rfl rfl Try.func17 (by kernel_rfl) rfl #[.agg #[.int .i64 a0_0, .slice A0_1 l0_1.length c0_1]] rfl lmB ?_; (with_reducible refine (impl_DiagramValid.calls a0_0 _ _ l0_1 true _ ?side1 ?side2 A4.out).mono ?_); (case side1 => repeat (first | exact (Kd.C_below HR0_1.out HB.out) | (with_reducible refine Kd.C_alloc ?_ _) | (with_reducible refine Kd.C_drewN ?_ _) | (with_reducible refine Kd.C_drew ?_))); (case side2 => exact HC0_1.out); rintro e w14 ⟨rfl, hb⟩; refine ⟨_, rfl, ?_⟩; have n0_ := Aside0.mk (blk_below (g := gb296) (o := .cells #[.int .i64 a0_0, .slice A0_1 l0_1.length c0_1] 25 (0, 0)) (bvK BK296.out) hb); have n1_ := Aside0.mk (below_step (by repeat (first | (with_reducible first | exact HB.out | apply bwA | apply bwN | apply bwD | refine below_set ?_ GE296.out) | exact HB.out)) hb); clear BK296; clear HB; have BK296 := n0_; have HB := n1_; clear n0_ n1_; (try clear hb); (try clear hb2); (try clear hk); (try clear hi); have hcz15_0 : w14.cell? ⟨gb296, 0, none⟩ = some (.int .i64 a0_0) := (blk_cell BK296.out 0).trans rfl; have hcz15_1 : w14.cell? ⟨gb296, 1, none⟩ = some (.slice A0_1 l0_1.length c0_1) := (blk_cell BK296.out 1).trans rfl; have hfz15_0 := blk_frozen BK296.out 0; have hfz15_1 := blk_frozen BK296.out 1) | (go_at_call 53; (with_reducible refine (impl_Diagram_isPlace.calls a0_0 _ _ l0_1 a1 true _ ?side1 ?side2 A6.out).mono ?_); (case side1 => repeat (first | exact (Kd.C_below HR0_1.out HB.out) | (with_reducible refine Kd.C_alloc ?_ _) | (with_reducible refine Kd.C_drewN ?_ _) | (with_reducible refine Kd.C_drew ?_))); (case side2 => exact HC0_1.out); rintro e w16 ⟨rfl, hb⟩; have n0_ := Aside0.mk (blk_below (g := gb296) (o := .cells #[.int .i64 a0_0, .slice A0_1 l0_1.length c0_1] 25 (0, 0)) (bvK BK296.out) hb); have n1_ := Aside0.mk (below_step (by repeat (first | (with_reducible first | exact HB.out | apply bwA | apply bwN | apply bwD | refine below_set ?_ GE296.out) | exact HB.out)) hb); clear BK296; clear HB; have BK296 := n0_; have HB := n1_; clear n0_ n1_; (try clear hb); (try clear hb2); (try clear hk); (try clear hi); have hcz17_0 : w16.cell? ⟨gb296, 0, none⟩ = some (.int .i64 a0_0) := (blk_cell BK296.out 0).trans rfl; have hcz17_1 : w16.cell? ⟨gb296, 1, none⟩ = some (.slice A0_1 l0_1.length c0_1) := (blk_cell BK296.out 1).trans rfl; have hfz17_0 := blk_frozen BK296.out 0; have hfz17_1 := blk_frozen BK296.out 1) | (go_at_call 87; (with_reducible refine (impl_bitsValid.calls _ _ l2 true _ ?side1 ?side2 A9.out).mono ?_); (case side1 => repeat (first | exact (Kd.C_below HR2.out HB.out) | (with_reducible refine Kd.C_alloc ?_ _) | (with_reducible refine Kd.C_drewN ?_ _) | (with_reducible refine Kd.C_drew ?_))); (case side2 => exact HC2.out); rintro e w18 ⟨rfl, hb⟩; have n0_ := Aside0.mk (blk_below (g := gb296) (o := .cells #[.int .i64 a0_0, .slice A0_1 l0_1.length c0_1] 25 (0, 0)) (bvK BK296.out) hb); have n1_ := Aside0.mk (below_step (by repeat (first | (with_reducible first | exact HB.out | apply bwA | apply bwN | apply bwD | refine below_set ?_ GE296.out) | exact HB.out)) hb); clear BK296; clear HB; have BK296 := n0_; have HB := n1_; clear n0_ n1_; (try clear hb); (try clear hb2); (try clear hk); (try clear hi); have hcz19_0 : w18.cell? ⟨gb296, 0, none⟩ = some (.int .i64 a0_0) := (blk_cell BK296.out 0).trans rfl; have hcz19_1 : w18.cell? ⟨gb296, 1, none⟩ = some (.slice A0_1 l0_1.length c0_1) := (blk_cell BK296.out 1).trans rfl; have hfz19_0 := blk_frozen BK296.out 0; have hfz19_1 := blk_frozen BK296.out 1) | ((with_reducible refine gate_callee (f := 88) rfl ?_); refine goesL_ (some 31) rfl rfl Try.func88 (by kernel_rfl) rfl #[.agg #[.int .i64 a0_0, .slice A0_1 l0_1.length c0_1], .int .i64 a1, .slice A2 l2.length c2] rfl lmB ?_; (with_reducible refine (impl_Diagram_value.calls k a0_0 _ _ l0_1 a1 _ _ l2 t300 _ ?side1 ?side2 ?side3 ?side4 A11.out).mono ?_); (case side1 => repeat (first | exact (Kd.C_below HR0_1.out HB.out) | (with_reducible refine Kd.C_alloc ?_ _) | (with_reducible refine Kd.C_drewN ?_ _) | (with_reducible refine Kd.C_drew ?_))); (case side2 => exact HC0_1.out); (case side3 => repeat (first | exact (Kd.C_below HR2.out HB.out) | (with_reducible refine Kd.C_alloc ?_ _) | (with_reducible refine Kd.C_drewN ?_ _) | (with_reducible refine Kd.C_drew ?_))); (case side4 => exact HC2.out); rintro e w20 ⟨rfl, hb⟩; refine ⟨_, rfl, ?_⟩; have n0_ := Aside0.mk (blk_below (g := gb296) (o := .cells #[.int .i64 a0_0, .slice A0_1 l0_1.length c0_1] 25 (0, 0)) (bvK BK296.out) hb); have n1_ := Aside0.mk (below_step (by repeat (first | (with_reducible first | exact HB.out | apply bwA | apply bwN | apply bwD | refine below_set ?_ GE296.out) | exact HB.out)) hb); clear BK296; clear HB; have BK296 := n0_; have HB := n1_; clear n0_ n1_; (try clear hb); (try clear hb2); (try clear hk); (try clear hi)))
     go_ret
     exact ⟨ers, by repeat (first | (with_reducible first | exact HB.out | apply bwA | apply bwN | apply bwD | refine below_set ?_ GE296.out) | exact HB.out)⟩
    ·replace c10 := Bool.eq_false_iff.mpr c10
     subst c10
     have H1 : (some (-1)) = some r := by rw [if_neg (show ¬ (false = true) by decide)] at H; exact H
     clear H
     have H := H1
     clear H1
     obtain rfl := Option.some.inj H
     go_enter Try.func34, Try.ntmps34
     go_wp2_with (first | ((with_reducible refine gate_dst (N := 3) rfl ?_); (try (refine gate_guard (by rfl) ?_; dsimp only)); refine box_event ?hg (N := 3) ?hd (cs := #[.int .i64 a0_0, .slice A0_1 l0_1.length c0_1]) (t := 25) ?hr ?_; (case hd => rfl); (case hg => rfl); (case hr => first | (go_simp; done) | (go_simp; rfl)); intro gb296 hg w21 hbox hb; have n0_ := Aside0.mk (below_step (by repeat (first | (with_reducible first | exact HB.out | apply bwA | apply bwN | apply bwD) | exact HB.out)) hb); have n1_ := Aside0.mk (hbox); have n2_ := Aside0.mk ((by rw [hg]; exact (below_size (by repeat (first | (with_reducible first | exact HB.out | apply bwA | apply bwN | apply bwD) | exact HB.out))) : w.heap.size ≤ gb296)); have n3_ := Aside0.mk ((by rw [hg]; exact (below_size (by repeat (first | (with_reducible first | exact HB.out | apply bwA | apply bwN | apply bwD) | exact HB.out))) : w.heap.size ≤ gb296)); clear HB; have HB := n0_; have BK296 := n1_; have GW296 := n2_; have GE296 := n3_; clear n0_ n1_ n2_ n3_; clear hb hbox hg; have hcz22_0 : w21.cell? ⟨gb296, 0, none⟩ = some (.int .i64 a0_0) := (blk_cell BK296.out 0).trans rfl; have hcz22_1 : w21.cell? ⟨gb296, 1, none⟩ = some (.slice A0_1 l0_1.length c0_1) := (blk_cell BK296.out 1).trans rfl; have hfz22_0 := blk_frozen BK296.out 0; have hfz22_1 := blk_frozen BK296.out 1) | ((with_reducible refine gate_callee (f := 17) rfl ?_); refine goesL_ (some 8) rfl rfl Try.func17 (by kernel_rfl) rfl #[.agg #[.int .i64 a0_0, .slice A0_1 l0_1.length c0_1]] rfl lmB ?_; (with_reducible refine (impl_DiagramValid.calls a0_0 _ _ l0_1 true _ ?side1 ?side2 A4.out).mono ?_); (case side1 => repeat (first | exact (Kd.C_below HR0_1.out HB.out) | (with_reducible refine Kd.C_alloc ?_ _) | (with_reducible refine Kd.C_drewN ?_ _) | (with_reducible refine Kd.C_drew ?_))); (case side2 => exact HC0_1.out); rintro e w23 ⟨rfl, hb⟩; refine ⟨_, rfl, ?_⟩; have n0_ := Aside0.mk (blk_below (g := gb296) (o := .cells #[.int .i64 a0_0, .slice A0_1 l0_1.length c0_1] 25 (0, 0)) (bvK BK296.out) hb); have n1_ := Aside0.mk (below_step (by repeat (first | (with_reducible first | exact HB.out | apply bwA | apply bwN | apply bwD | refine below_set ?_ GE296.out) | exact HB.out)) hb); clear BK296; clear HB; have BK296 := n0_; have HB := n1_; clear n0_ n1_; (try clear hb); (try clear hb2); (try clear hk); (try clear hi); have hcz24_0 : w23.cell? ⟨gb296, 0, none⟩ = some (.int .i64 a0_0) := (blk_cell BK296.out 0).trans rfl; have hcz24_1 : w23.cell? ⟨gb296, 1, none⟩ = some (.slice A0_1 l0_1.length c0_1) := (blk_cell BK296.out 1).trans rfl; have hfz24_0 := blk_frozen BK296.out 0; have hfz24_1 := blk_frozen BK296.out 1) | (go_at_call 53; (with_reducible refine (impl_Diagram_isPlace.calls a0_0 _ _ l0_1 a1 true _ ?side1 ?side2 A6.out).mono ?_); (case side1 => repeat (first | exact (Kd.C_below HR0_1.out HB.out) | (with_reducible refine Kd.C_alloc ?_ _) | (with_reducible refine Kd.C_drewN ?_ _) | (with_reducible refine Kd.C_drew ?_))); (case side2 => exact HC0_1.out); rintro e w25 ⟨rfl, hb⟩; have n0_ := Aside0.mk (blk_below (g := gb296) (o := .cells #[.int .i64 a0_0, .slice A0_1 l0_1.length c0_1] 25 (0, 0)) (bvK BK296.out) hb); have n1_ := Aside0.mk (below_step (by repeat (first | (with_reducible first | exact HB.out | apply bwA | apply bwN | apply bwD | refine below_set ?_ GE296.out) | exact HB.out)) hb); clear BK296; clear HB; have BK296 := n0_; have HB := n1_; clear n0_ n1_; (try clear hb); (try clear hb2); (try clear hk); (try clear hi); have hcz26_0 : w25.cell? ⟨gb296, 0, none⟩ = some (.int .i64 a0_0) := (blk_cell BK296.out 0).trans rfl; have hcz26_1 : w25.cell? ⟨gb296, 1, none⟩ = some (.slice A0_1 l0_1.length c0_1) := (blk_cell BK296.out 1).trans rfl; have hfz26_0 := blk_frozen BK296.out 0; have hfz26_1 := blk_frozen BK296.out 1) | (go_at_call 87; (with_reducible refine (impl_bitsValid.calls _ _ l2 false _ ?side1 ?side2 A9.out).mono ?_); (case side1 => repeat (first | exact (Kd.C_below HR2.out HB.out) | (with_reducible refine Kd.C_alloc ?_ _) | (with_reducible refine Kd.C_drewN ?_ _) | (with_reducible refine Kd.C_drew ?_))); (case side2 => exact HC2.out); rintro e w27 ⟨rfl, hb⟩; have n0_ := Aside0.mk (blk_below (g := gb296) (o := .cells #[.int .i64 a0_0, .slice A0_1 l0_1.length c0_1] 25 (0, 0)) (bvK BK296.out) hb); have n1_ := Aside0.mk (below_step (by repeat (first | (with_reducible first | exact HB.out | apply bwA | apply bwN | apply bwD | refine below_set ?_ GE296.out) | exact HB.out)) hb); clear BK296; clear HB; have BK296 := n0_; have HB := n1_; clear n0_ n1_; (try clear hb); (try clear hb2); (try clear hk); (try clear hi)))
     go_ret
     exact ⟨ers, by repeat (first | (with_reducible first | exact HB.out | apply bwA | apply bwN | apply bwD | refine below_set ?_ GE296.out) | exact HB.out)⟩
   ·rw [if_neg c8] at H
    have c8b0 : ((l2.length : Int) == a0_0) = false := beq_eq_false_iff_ne.mpr c8
    have c8b1 : ((l2.length : Int) != a0_0) = true := bne_iff_ne.mpr c8
    obtain rfl := Option.some.inj H
    go_enter Try.func34, Try.ntmps34
    go_wp2_with (first | ((with_reducible refine gate_dst (N := 3) rfl ?_); (try (refine gate_guard (by rfl) ?_; dsimp only)); refine box_event ?hg (N := 3) ?hd (cs := #[.int .i64 a0_0, .slice A0_1 l0_1.length c0_1]) (t := 25) ?hr ?_; (case hd => rfl); (case hg => rfl); (case hr => first | (go_simp; done) | (go_simp; rfl)); intro gb296 hg w28 hbox hb; have n0_ := Aside0.mk (below_step (by repeat (first | (with_reducible first | exact HB.out | apply bwA | apply bwN | apply bwD) | exact HB.out)) hb); have n1_ := Aside0.mk (hbox); have n2_ := Aside0.mk ((by rw [hg]; exact (below_size (by repeat (first | (with_reducible first | exact HB.out | apply bwA | apply bwN | apply bwD) | exact HB.out))) : w.heap.size ≤ gb296)); have n3_ := Aside0.mk ((by rw [hg]; exact (below_size (by repeat (first | (with_reducible first | exact HB.out | apply bwA | apply bwN | apply bwD) | exact HB.out))) : w.heap.size ≤ gb296)); clear HB; have HB := n0_; have BK296 := n1_; have GW296 := n2_; have GE296 := n3_; clear n0_ n1_ n2_ n3_; clear hb hbox hg; have hcz29_0 : w28.cell? ⟨gb296, 0, none⟩ = some (.int .i64 a0_0) := (blk_cell BK296.out 0).trans rfl; have hcz29_1 : w28.cell? ⟨gb296, 1, none⟩ = some (.slice A0_1 l0_1.length c0_1) := (blk_cell BK296.out 1).trans rfl; have hfz29_0 := blk_frozen BK296.out 0; have hfz29_1 := blk_frozen BK296.out 1) | ((with_reducible refine gate_callee (f := 17) rfl ?_); refine goesL_ (some 8) rfl rfl Try.func17 (by kernel_rfl) rfl #[.agg #[.int .i64 a0_0, .slice A0_1 l0_1.length c0_1]] rfl lmB ?_; (with_reducible refine (impl_DiagramValid.calls a0_0 _ _ l0_1 true _ ?side1 ?side2 A4.out).mono ?_); (case side1 => repeat (first | exact (Kd.C_below HR0_1.out HB.out) | (with_reducible refine Kd.C_alloc ?_ _) | (with_reducible refine Kd.C_drewN ?_ _) | (with_reducible refine Kd.C_drew ?_))); (case side2 => exact HC0_1.out); rintro e w30 ⟨rfl, hb⟩; refine ⟨_, rfl, ?_⟩; have n0_ := Aside0.mk (blk_below (g := gb296) (o := .cells #[.int .i64 a0_0, .slice A0_1 l0_1.length c0_1] 25 (0, 0)) (bvK BK296.out) hb); have n1_ := Aside0.mk (below_step (by repeat (first | (with_reducible first | exact HB.out | apply bwA | apply bwN | apply bwD | refine below_set ?_ GE296.out) | exact HB.out)) hb); clear BK296; clear HB; have BK296 := n0_; have HB := n1_; clear n0_ n1_; (try clear hb); (try clear hb2); (try clear hk); (try clear hi); have hcz31_0 : w30.cell? ⟨gb296, 0, none⟩ = some (.int .i64 a0_0) := (blk_cell BK296.out 0).trans rfl; have hcz31_1 : w30.cell? ⟨gb296, 1, none⟩ = some (.slice A0_1 l0_1.length c0_1) := (blk_cell BK296.out 1).trans rfl; have hfz31_0 := blk_frozen BK296.out 0; have hfz31_1 := blk_frozen BK296.out 1) | (go_at_call 53; (with_reducible refine (impl_Diagram_isPlace.calls a0_0 _ _ l0_1 a1 true _ ?side1 ?side2 A6.out).mono ?_); (case side1 => repeat (first | exact (Kd.C_below HR0_1.out HB.out) | (with_reducible refine Kd.C_alloc ?_ _) | (with_reducible refine Kd.C_drewN ?_ _) | (with_reducible refine Kd.C_drew ?_))); (case side2 => exact HC0_1.out); rintro e w32 ⟨rfl, hb⟩; have n0_ := Aside0.mk (blk_below (g := gb296) (o := .cells #[.int .i64 a0_0, .slice A0_1 l0_1.length c0_1] 25 (0, 0)) (bvK BK296.out) hb); have n1_ := Aside0.mk (below_step (by repeat (first | (with_reducible first | exact HB.out | apply bwA | apply bwN | apply bwD | refine below_set ?_ GE296.out) | exact HB.out)) hb); clear BK296; clear HB; have BK296 := n0_; have HB := n1_; clear n0_ n1_; (try clear hb); (try clear hb2); (try clear hk); (try clear hi); have hcz33_0 : w32.cell? ⟨gb296, 0, none⟩ = some (.int .i64 a0_0) := (blk_cell BK296.out 0).trans rfl; have hcz33_1 : w32.cell? ⟨gb296, 1, none⟩ = some (.slice A0_1 l0_1.length c0_1) := (blk_cell BK296.out 1).trans rfl; have hfz33_0 := blk_frozen BK296.out 0; have hfz33_1 := blk_frozen BK296.out 1))
    go_ret
    exact ⟨ers, by repeat (first | (with_reducible first | exact HB.out | apply bwA | apply bwN | apply bwD | refine below_set ?_ GE296.out) | exact HB.out)⟩
  ·replace c7 := Bool.eq_false_iff.mpr c7
   subst c7
   have H1 : (some (-1)) = some r := by rw [if_neg (show ¬ (false = true) by decide)] at H; exact H
   clear H
   have H := H1
   clear H1
   obtain rfl := Option.some.inj H
   go_enter Try.func34, Try.ntmps34
   go_wp2_with (first | ((with_reducible refine gate_dst (N := 3) rfl ?_); (try (refine gate_guard (by rfl) ?_; dsimp only)); refine box_event ?hg (N := 3) ?hd (cs := #[.int .i64 a0_0, .slice A0_1 l0_1.length c0_1]) (t := 25) ?hr ?_; (case hd => rfl); (case hg => rfl); (case hr => first | (go_simp; done) | (go_simp; rfl)); intro gb296 hg w34 hbox hb; have n0_ := Aside0.mk (below_step (by repeat (first | (with_reducible first | exact HB.out | apply bwA | apply bwN | apply bwD) | exact HB.out)) hb); have n1_ := Aside0.mk (hbox); have n2_ := Aside0.mk ((by rw [hg]; exact (below_size (by repeat (first | (with_reducible first | exact HB.out | apply bwA | apply bwN | apply bwD) | exact HB.out))) : w.heap.size ≤ gb296)); have n3_ := Aside0.mk ((by rw [hg]; exact (below_size (by repeat (first | (with_reducible first | exact HB.out | apply bwA | apply bwN | apply bwD) | exact HB.out))) : w.heap.size ≤ gb296)); clear HB; have HB := n0_; have BK296 := n1_; have GW296 := n2_; have GE296 := n3_; clear n0_ n1_ n2_ n3_; clear hb hbox hg; have hcz35_0 : w34.cell? ⟨gb296, 0, none⟩ = some (.int .i64 a0_0) := (blk_cell BK296.out 0).trans rfl; have hcz35_1 : w34.cell? ⟨gb296, 1, none⟩ = some (.slice A0_1 l0_1.length c0_1) := (blk_cell BK296.out 1).trans rfl; have hfz35_0 := blk_frozen BK296.out 0; have hfz35_1 := blk_frozen BK296.out 1) | ((with_reducible refine gate_callee (f := 17) rfl ?_); refine goesL_ (some 8) rfl rfl Try.func17 (by kernel_rfl) rfl #[.agg #[.int .i64 a0_0, .slice A0_1 l0_1.length c0_1]] rfl lmB ?_; (with_reducible refine (impl_DiagramValid.calls a0_0 _ _ l0_1 true _ ?side1 ?side2 A4.out).mono ?_); (case side1 => repeat (first | exact (Kd.C_below HR0_1.out HB.out) | (with_reducible refine Kd.C_alloc ?_ _) | (with_reducible refine Kd.C_drewN ?_ _) | (with_reducible refine Kd.C_drew ?_))); (case side2 => exact HC0_1.out); rintro e w36 ⟨rfl, hb⟩; refine ⟨_, rfl, ?_⟩; have n0_ := Aside0.mk (blk_below (g := gb296) (o := .cells #[.int .i64 a0_0, .slice A0_1 l0_1.length c0_1] 25 (0, 0)) (bvK BK296.out) hb); have n1_ := Aside0.mk (below_step (by repeat (first | (with_reducible first | exact HB.out | apply bwA | apply bwN | apply bwD | refine below_set ?_ GE296.out) | exact HB.out)) hb); clear BK296; clear HB; have BK296 := n0_; have HB := n1_; clear n0_ n1_; (try clear hb); (try clear hb2); (try clear hk); (try clear hi); have hcz37_0 : w36.cell? ⟨gb296, 0, none⟩ = some (.int .i64 a0_0) := (blk_cell BK296.out 0).trans rfl; have hcz37_1 : w36.cell? ⟨gb296, 1, none⟩ = some (.slice A0_1 l0_1.length c0_1) := (blk_cell BK296.out 1).trans rfl; have hfz37_0 := blk_frozen BK296.out 0; have hfz37_1 := blk_frozen BK296.out 1) | (go_at_call 53; (with_reducible refine (impl_Diagram_isPlace.calls a0_0 _ _ l0_1 a1 false _ ?side1 ?side2 A6.out).mono ?_); (case side1 => repeat (first | exact (Kd.C_below HR0_1.out HB.out) | (with_reducible refine Kd.C_alloc ?_ _) | (with_reducible refine Kd.C_drewN ?_ _) | (with_reducible refine Kd.C_drew ?_))); (case side2 => exact HC0_1.out); rintro e w38 ⟨rfl, hb⟩; have n0_ := Aside0.mk (blk_below (g := gb296) (o := .cells #[.int .i64 a0_0, .slice A0_1 l0_1.length c0_1] 25 (0, 0)) (bvK BK296.out) hb); have n1_ := Aside0.mk (below_step (by repeat (first | (with_reducible first | exact HB.out | apply bwA | apply bwN | apply bwD | refine below_set ?_ GE296.out) | exact HB.out)) hb); clear BK296; clear HB; have BK296 := n0_; have HB := n1_; clear n0_ n1_; (try clear hb); (try clear hb2); (try clear hk); (try clear hi)))
   go_ret
   exact ⟨ers, by repeat (first | (with_reducible first | exact HB.out | apply bwA | apply bwN | apply bwD | refine below_set ?_ GE296.out) | exact HB.out)⟩
 ·replace c5 := Bool.eq_false_iff.mpr c5
  subst c5
  have H1 : (some (-1)) = some r := by rw [if_neg (show ¬ (false = true) by decide)] at H; exact H
  clear H
  have H := H1
  clear H1
  obtain rfl := Option.some.inj H
  go_enter Try.func34, Try.ntmps34
  go_wp2_with (first | ((with_reducible refine gate_dst (N := 3) rfl ?_); (try (refine gate_guard (by rfl) ?_; dsimp only)); refine box_event ?hg (N := 3) ?hd (cs := #[.int .i64 a0_0, .slice A0_1 l0_1.length c0_1]) (t := 25) ?hr ?_; (case hd => rfl); (case hg => rfl); (case hr => first | (go_simp; done) | (go_simp; rfl)); intro gb296 hg w39 hbox hb; have n0_ := Aside0.mk (below_step (by repeat (first | (with_reducible first | exact HB.out | apply bwA | apply bwN | apply bwD) | exact HB.out)) hb); have n1_ := Aside0.mk (hbox); have n2_ := Aside0.mk ((by rw [hg]; exact (below_size (by repeat (first | (with_reducible first | exact HB.out | apply bwA | apply bwN | apply bwD) | exact HB.out))) : w.heap.size ≤ gb296)); have n3_ := Aside0.mk ((by rw [hg]; exact (below_size (by repeat (first | (with_reducible first | exact HB.out | apply bwA | apply bwN | apply bwD) | exact HB.out))) : w.heap.size ≤ gb296)); clear HB; have HB := n0_; have BK296 := n1_; have GW296 := n2_; have GE296 := n3_; clear n0_ n1_ n2_ n3_; clear hb hbox hg; have hcz40_0 : w39.cell? ⟨gb296, 0, none⟩ = some (.int .i64 a0_0) := (blk_cell BK296.out 0).trans rfl; have hcz40_1 : w39.cell? ⟨gb296, 1, none⟩ = some (.slice A0_1 l0_1.length c0_1) := (blk_cell BK296.out 1).trans rfl; have hfz40_0 := blk_frozen BK296.out 0; have hfz40_1 := blk_frozen BK296.out 1) | ((with_reducible refine gate_callee (f := 17) rfl ?_); refine goesL_ (some 8) rfl rfl Try.func17 (by kernel_rfl) rfl #[.agg #[.int .i64 a0_0, .slice A0_1 l0_1.length c0_1]] rfl lmB ?_; (with_reducible refine (impl_DiagramValid.calls a0_0 _ _ l0_1 false _ ?side1 ?side2 A4.out).mono ?_); (case side1 => repeat (first | exact (Kd.C_below HR0_1.out HB.out) | (with_reducible refine Kd.C_alloc ?_ _) | (with_reducible refine Kd.C_drewN ?_ _) | (with_reducible refine Kd.C_drew ?_))); (case side2 => exact HC0_1.out); rintro e w41 ⟨rfl, hb⟩; refine ⟨_, rfl, ?_⟩; have n0_ := Aside0.mk (blk_below (g := gb296) (o := .cells #[.int .i64 a0_0, .slice A0_1 l0_1.length c0_1] 25 (0, 0)) (bvK BK296.out) hb); have n1_ := Aside0.mk (below_step (by repeat (first | (with_reducible first | exact HB.out | apply bwA | apply bwN | apply bwD | refine below_set ?_ GE296.out) | exact HB.out)) hb); clear BK296; clear HB; have BK296 := n0_; have HB := n1_; clear n0_ n1_; (try clear hb); (try clear hb2); (try clear hk); (try clear hi)))
  go_ret
  exact ⟨ers, by repeat (first | (with_reducible first | exact HB.out | apply bwA | apply bwN | apply bwD | refine below_set ?_ GE296.out) | exact HB.out)⟩

end Go.Proofs.Ytpcompnmadpljaa.QFnDiagramOf
