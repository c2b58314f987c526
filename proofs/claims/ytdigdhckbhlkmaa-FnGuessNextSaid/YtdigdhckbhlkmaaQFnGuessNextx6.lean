-- Written by a program of this session (mk.py). Lean checks it.
import Derived.Test.YtdigdhckbhlkmaaQFnGuessNextx0
namespace Go.Proofs.Ytdigdhckbhlkmaa.QFnGuessNext
open Go.RowKit Go.Proofs.YtdigdhckbhlkmaaW.PrintWords Go.Proofs.YtdigdhckbhlkmaaW.PrintLast Go.Proofs.YtdigdhckbhlkmaaW.PrintMore
attribute [local go_sem] max2_int min2_int max_two min_two max_three min_three max_four min_four   -- for this text's walks alone
set_option linter.unusedVariables false
set_option linter.unusedSimpArgs false

/-! ### impl_behindOk: function 53 -/
mutual
def impl_behindOk.l0 : Nat → List Int → List Int → List (S37) → Int → Int → Option (Bool)
 | 0, _, _, _, _, _ => none
 | k + 1, x1, x2, x12, x13, x14 => if x14 < x13 then (if 0 ≤ x14 then (if x14 < (x12.length : Int) then (if ((rd_T37 x12 x14).f0) ≥ 5 then (impl_behindOk.j1 k x1 x2 x14 ((rd_T37 x12 x14).f2) ((rd_T37 x12 x14).f3) x12 x13 x14 ((rd_T37 x12 x14).f0) ((rd_T37 x12 x14).f1) ((rd_T37 x12 x14).f2) ((rd_T37 x12 x14).f3)) else (impl_behindOk.j1 k x1 x2 x14 0 0 x12 x13 x14 ((rd_T37 x12 x14).f0) ((rd_T37 x12 x14).f1) ((rd_T37 x12 x14).f2) ((rd_T37 x12 x14).f3))) else (none)) else (none)) else (some true)
def impl_behindOk.j1 : Nat → List Int → List Int → Int → Int → Int → List (S37) → Int → Int → Int → Int → Int → Int → Option (Bool)
 | 0, _, _, _, _, _, _, _, _, _, _, _, _ => none
 | k + 1, x1, x2, x7, x9, x10, x12, x13, x14, x229000, x229001, x229002, x229003 => if 0 ≤ x7 then (if x7 < (x1.length : Int) then (if x229000 = 5 then (if 0 ≤ x9 then (if x9 < (x2.length : Int) then (if (rd x1 x7) = (rd x2 x9) then (impl_behindOk.l0 k x1 x2 x12 x13 (wrap64 (x14 + 1))) else (some false)) else (none)) else (none)) else (if x229000 = 6 then (if 0 ≤ x10 then (if x10 < (x1.length : Int) then (if 0 ≤ x9 then (if x9 < (x1.length : Int) then (if x7 < (x2.length : Int) then (if (rd x1 x7) = (Go.bits .or .i64 (rd x1 x10) (Go.bits .and .i64 (rd x1 x9) (rd x2 x7))) then (impl_behindOk.l0 k x1 x2 x12 x13 (wrap64 (x14 + 1))) else (some false)) else (none)) else (none)) else (none)) else (none)) else (none)) else (if x229000 = 7 then (if 0 ≤ x10 then (if x10 < (x1.length : Int) then (if 0 ≤ x9 then (if x9 < (x1.length : Int) then (if x7 < (x2.length : Int) then (if (rd x1 x7) = (Go.bits .and .i64 (rd x1 x10) (Go.bits .or .i64 (rd x1 x9) (rd x2 x7))) then (impl_behindOk.l0 k x1 x2 x12 x13 (wrap64 (x14 + 1))) else (some false)) else (none)) else (none)) else (none)) else (none)) else (none)) else (impl_behindOk.l0 k x1 x2 x12 x13 (wrap64 (x14 + 1)))))) else (none)) else (none)
end
def impl_behindOk.f (k : Nat) (l0 : List (S37)) (l1 : List Int) (l2 : List Int) : Option (Bool) := impl_behindOk.l0 k l1 l2 l0 (l0.length : Int) 0
theorem impl_behindOk.mono_l : ∀ k, (∀ y0 y1 y2 y3 y4, LeO (impl_behindOk.l0 k y0 y1 y2 y3 y4) (impl_behindOk.l0 (k + 1) y0 y1 y2 y3 y4)) ∧ (∀ y0 y1 y2 y3 y4 y5 y6 y7 y8 y9 y10 y11, LeO (impl_behindOk.j1 k y0 y1 y2 y3 y4 y5 y6 y7 y8 y9 y10 y11) (impl_behindOk.j1 (k + 1) y0 y1 y2 y3 y4 y5 y6 y7 y8 y9 y10 y11))
 | 0 => ⟨fun _ _ _ _ _ r h => by simp [impl_behindOk.l0] at h, fun _ _ _ _ _ _ _ _ _ _ _ _ r h => by simp [impl_behindOk.j1] at h⟩
 | k + 1 => by
  obtain ⟨ih0, ih1⟩ := impl_behindOk.mono_l k
  refine ⟨?_, ?_⟩
  ·intro y0 y1 y2 y3 y4
   unfold impl_behindOk.l0
   repeat' first
   | (with_reducible exact ih0 _ _ _ _ _)
   | (with_reducible exact ih1 _ _ _ _ _ _ _ _ _ _ _ _)
   | (with_reducible exact LeO.refl _)
   | (with_reducible exact LeO.none _)
   | (with_reducible refine LeO.ite ?_ ?_)
   | (with_reducible refine LeO.bind ?_ (fun _ => ?_))
   | exact ih0 _ _ _ _ _
   | exact ih1 _ _ _ _ _ _ _ _ _ _ _ _
   | exact LeO.none _
   | refine LeO.ite ?_ ?_
   | refine LeO.bind ?_ (fun _ => ?_)
  ·intro y0 y1 y2 y3 y4 y5 y6 y7 y8 y9 y10 y11
   unfold impl_behindOk.j1
   repeat' first
   | (with_reducible exact ih0 _ _ _ _ _)
   | (with_reducible exact ih1 _ _ _ _ _ _ _ _ _ _ _ _)
   | (with_reducible exact LeO.refl _)
   | (with_reducible exact LeO.none _)
   | (with_reducible refine LeO.ite ?_ ?_)
   | (with_reducible refine LeO.bind ?_ (fun _ => ?_))
   | exact ih0 _ _ _ _ _
   | exact ih1 _ _ _ _ _ _ _ _ _ _ _ _
   | exact LeO.none _
   | refine LeO.ite ?_ ?_
   | refine LeO.bind ?_ (fun _ => ?_)
theorem impl_behindOk.mono : ∀ a0 a1 a2 k, LeO (impl_behindOk.f k a0 a1 a2) (impl_behindOk.f (k + 1) a0 a1 a2) := by
 intro a0 a1 a2 k
 obtain ⟨ih0, ih1⟩ := impl_behindOk.mono_l k
 unfold impl_behindOk.f
 repeat' first
   | (with_reducible exact ih0 _ _ _ _ _)
   | (with_reducible exact ih1 _ _ _ _ _ _ _ _ _ _ _ _)
   | (with_reducible exact LeO.refl _)
   | (with_reducible exact LeO.none _)
   | (with_reducible refine LeO.ite ?_ ?_)
   | (with_reducible refine LeO.bind ?_ (fun _ => ?_))
   | exact ih0 _ _ _ _ _
   | exact ih1 _ _ _ _ _ _ _ _ _ _ _ _
   | exact LeO.none _
   | refine LeO.ite ?_ ?_
   | refine LeO.bind ?_ (fun _ => ?_)
set_option maxHeartbeats 8000000 in
set_option maxRecDepth 100000 in
theorem impl_behindOk.calls (k : Nat) (A0 : Option Addr) (c0 : Nat) (l0 : List (S37)) (A1 : Option Addr) (c1 : Nat) (l1 : List Int) (A2 : Option Addr) (c2 : Nat) (l2 : List Int) (r : Bool) (w : World) (hr0 : Kd.C k37 w A0 l0.length l0) (hc0 : l0.length ≤ c0) (hr1 : Kd.C (Kd.int .i64) w A1 l1.length l1) (hc1 : l1.length ≤ c1) (hr2 : Kd.C (Kd.int .i64) w A2 l2.length l2) (hc2 : l2.length ≤ c2) (h : impl_behindOk.f k l0 l1 l2 = some r) :
  Calls Try.prog 53 #[.slice A0 l0.length c0, .slice A1 l1.length c1, .slice A2 l2.length c2] w fun e w' => e = .returned (.bool r) ∧ Below w.heap.size w w' := by
 have hu37 := Try.underlying37
 have HR0 := Aside0.mk hr0
 have HC0 := Aside0.mk hc0
 clear hr0 hc0
 have HR1 := Aside0.mk hr1
 have HC1 := Aside0.mk hc1
 clear hr1 hc1
 have HR2 := Aside0.mk hr2
 have HC2 := Aside0.mk hc2
 clear hr2 hc2
 have HB := Aside0.mk (Below.refl w.heap.size w)
 have H : (impl_behindOk.l0 k l1 l2 l0 (l0.length : Int) 0) = some r := h
 clear h
 have H' := Aside0.mk H
 clear H
 go_enter Try.func53, Try.ntmps53
 go_wp2
 repeat (go_quiet (fail); try go_wp2)
 go_loopg [14] k (fun kq v14 w' => ∃ (x14_1 : Int), v14 = .int .i64 x14_1 ∧ Aside0 (impl_behindOk.l0 kq l1 l2 l0 (l0.length : Int) x14_1 = some r) ∧ Aside0 (kq ≤ k) ∧ Aside0 (Below w.heap.size w w'))
 case atStart => exact ⟨(0), rsd, H', ⟨Nat.le_refl _⟩, ⟨by repeat (first | (with_reducible first | exact HB.out | apply bwA | apply bwN | apply bwD) | exact HB.out)⟩⟩
 case round =>
  clear H'
  try clear c1
  try clear c2
  try clear p2
  obtain ⟨x14_1, rfl, HA, HK1, HB⟩ := hrel
  cases gk with
  | zero => exact absurd HA.out (by simp [impl_behindOk.l0])
  | succ k1 =>
   have H := HA.out
   clear HA
   simp only [impl_behindOk.l0] at H
   by_cases c4 : x14_1 < (l0.length : Int)
   ·rw [if_pos c4] at H
    have c4b0 : decide (x14_1 < (l0.length : Int)) = true := decide_eq_true c4
    clear c4
    by_cases c5 : 0 ≤ x14_1
    ·rw [if_pos c5] at H
     have c5b0 : decide (0 ≤ x14_1) = true := decide_eq_true c5
     clear c5
     by_cases c6 : x14_1 < (l0.length : Int)
     ·rw [if_pos c6] at H
      have c6b0 : decide (x14_1 < (l0.length : Int)) = true := decide_eq_true c6
      clear c6
      have HC7 := Aside0.mk H
      clear H
      have p227 : 0 ≤ (x14_1 : Int) := oda
      have q227 : x14_1 < (l0.length : Int) := oda
      obtain ⟨ad227, e227, hx227_0, hx227_1, hx227_2, hx227_3⟩ := at_T37 HR0.out x14_1 p227 q227
      cases e227
      try replace hx227_0 := bct HB.out hx227_0
      try replace hx227_1 := bct HB.out hx227_1
      try replace hx227_2 := bct HB.out hx227_2
      try replace hx227_3 := bct HB.out hx227_3
      replace p227 := eq_true p227
      replace q227 := eq_true q227
      go_upto_if 21 with (first | ((with_reducible refine gate_dst (N := 8) rfl ?_); refine box_event ?hg (N := 8) ?hd (cs := #[.int .i64 0, .int .i64 0, .int .i64 0, .int .i64 0]) (t := 37) ?hr ?_; (case hd => rfl); (case hg => rfl); (case hr => first | (go_simp; done) | (go_simp; rfl)); intro gb228 hg w8 hbox hb; have n0_ := Aside0.mk (below_step (by repeat (first | (with_reducible first | exact HB.out | apply bwA | apply bwN | apply bwD) | exact HB.out)) hb); have n1_ := Aside0.mk (hbox); have n2_ := Aside0.mk ((by rw [hg]; exact (below_size (by repeat (first | (with_reducible first | exact HB.out | apply bwA | apply bwN | apply bwD) | exact HB.out))) : w.heap.size ≤ gb228)); have n3_ := Aside0.mk ((by rw [hg]; exact (below_size (by repeat (first | (with_reducible first | exact HB.out | apply bwA | apply bwN | apply bwD) | exact HB.out))) : w.heap.size ≤ gb228)); clear HB; have HB := n0_; have BK228 := n1_; have GW228 := n2_; have GE228 := n3_; clear n0_ n1_ n2_ n3_; clear hb hbox hg; have hcz9_0 : w8.cell? ⟨gb228, 0, none⟩ = some (.int .i64 0) := (blk_cell BK228.out 0).trans rfl; have hcz9_1 : w8.cell? ⟨gb228, 1, none⟩ = some (.int .i64 0) := (blk_cell BK228.out 1).trans rfl; have hcz9_2 : w8.cell? ⟨gb228, 2, none⟩ = some (.int .i64 0) := (blk_cell BK228.out 2).trans rfl; have hcz9_3 : w8.cell? ⟨gb228, 3, none⟩ = some (.int .i64 0) := (blk_cell BK228.out 3).trans rfl; have hfz9_0 := blk_frozen BK228.out 0; have hfz9_1 := blk_frozen BK228.out 1; have hfz9_2 := blk_frozen BK228.out 2; have hfz9_3 := blk_frozen BK228.out 3))
      repeat (go_quiet (first | ((with_reducible refine gate_dst (N := 8) rfl ?_); refine box_event ?hg (N := 8) ?hd (cs := #[.int .i64 0, .int .i64 0, .int .i64 0, .int .i64 0]) (t := 37) ?hr ?_; (case hd => rfl); (case hg => rfl); (case hr => first | (go_simp; done) | (go_simp; rfl)); intro gb228 hg w8 hbox hb; have n0_ := Aside0.mk (below_step (by repeat (first | (with_reducible first | exact HB.out | apply bwA | apply bwN | apply bwD) | exact HB.out)) hb); have n1_ := Aside0.mk (hbox); have n2_ := Aside0.mk ((by rw [hg]; exact (below_size (by repeat (first | (with_reducible first | exact HB.out | apply bwA | apply bwN | apply bwD) | exact HB.out))) : w.heap.size ≤ gb228)); have n3_ := Aside0.mk ((by rw [hg]; exact (below_size (by repeat (first | (with_reducible first | exact HB.out | apply bwA | apply bwN | apply bwD) | exact HB.out))) : w.heap.size ≤ gb228)); clear HB; have HB := n0_; have BK228 := n1_; have GW228 := n2_; have GE228 := n3_; clear n0_ n1_ n2_ n3_; clear hb hbox hg; have hcz9_0 : w8.cell? ⟨gb228, 0, none⟩ = some (.int .i64 0) := (blk_cell BK228.out 0).trans rfl; have hcz9_1 : w8.cell? ⟨gb228, 1, none⟩ = some (.int .i64 0) := (blk_cell BK228.out 1).trans rfl; have hcz9_2 : w8.cell? ⟨gb228, 2, none⟩ = some (.int .i64 0) := (blk_cell BK228.out 2).trans rfl; have hcz9_3 : w8.cell? ⟨gb228, 3, none⟩ = some (.int .i64 0) := (blk_cell BK228.out 3).trans rfl; have hfz9_0 := blk_frozen BK228.out 0; have hfz9_1 := blk_frozen BK228.out 1; have hfz9_2 := blk_frozen BK228.out 2; have hfz9_3 := blk_frozen BK228.out 3)); go_upto_if 21 with (first | ((with_reducible refine gate_dst (N := 8) rfl ?_); refine box_event ?hg (N := 8) ?hd (cs := #[.int .i64 0, .int .i64 0, .int .i64 0, .int .i64 0]) (t := 37) ?hr ?_; (case hd => rfl); (case hg => rfl); (case hr => first | (go_simp; done) | (go_simp; rfl)); intro gb228 hg w8 hbox hb; have n0_ := Aside0.mk (below_step (by repeat (first | (with_reducible first | exact HB.out | apply bwA | apply bwN | apply bwD) | exact HB.out)) hb); have n1_ := Aside0.mk (hbox); have n2_ := Aside0.mk ((by rw [hg]; exact (below_size (by repeat (first | (with_reducible first | exact HB.out | apply bwA | apply bwN | apply bwD) | exact HB.out))) : w.heap.size ≤ gb228)); have n3_ := Aside0.mk ((by rw [hg]; exact (below_size (by repeat (first | (with_reducible first | exact HB.out | apply bwA | apply bwN | apply bwD) | exact HB.out))) : w.heap.size ≤ gb228)); clear HB; have HB := n0_; have BK228 := n1_; have GW228 := n2_; have GE228 := n3_; clear n0_ n1_ n2_ n3_; clear hb hbox hg; have hcz9_0 : w8.cell? ⟨gb228, 0, none⟩ = some (.int .i64 0) := (blk_cell BK228.out 0).trans rfl; have hcz9_1 : w8.cell? ⟨gb228, 1, none⟩ = some (.int .i64 0) := (blk_cell BK228.out 1).trans rfl; have hcz9_2 : w8.cell? ⟨gb228, 2, none⟩ = some (.int .i64 0) := (blk_cell BK228.out 2).trans rfl; have hcz9_3 : w8.cell? ⟨gb228, 3, none⟩ = some (.int .i64 0) := (blk_cell BK228.out 3).trans rfl; have hfz9_0 := blk_frozen BK228.out 0; have hfz9_1 := blk_frozen BK228.out 1; have hfz9_2 := blk_frozen BK228.out 2; have hfz9_3 := blk_frozen BK228.out 3)))
      (try simp only [Act.put, List.setIfInBounds_toArray, List.set_cons_zero, List.set_cons_succ])
      go_cut [9, 10] (fun v9 v10 wc => ∃ (kq : Nat) (x9_6 : Int) (x10_6 : Int), v9 = .int .i64 x9_6 ∧ v10 = .int .i64 x10_6 ∧ Aside0 (impl_behindOk.j1 kq l1 l2 x14_1 x9_6 x10_6 l0 (l0.length : Int) x14_1 ((rd_T37 l0 x14_1).f0) ((rd_T37 l0 x14_1).f1) ((rd_T37 l0 x14_1).f2) ((rd_T37 l0 x14_1).f3) = some r) ∧ Aside0 (kq ≤ k1) ∧ Aside0 (wc.heap[gb228]? = some (.cells #[.int .i64 ((rd_T37 l0 x14_1).f0), .int .i64 ((rd_T37 l0 x14_1).f1), .int .i64 ((rd_T37 l0 x14_1).f2), .int .i64 ((rd_T37 l0 x14_1).f3)] 37 (0, 0))) ∧ Aside0 (Below w.heap.size w wc))
      case first =>
       have H := HC7.out
       clear HC7
       by_cases c10 : ((rd_T37 l0 x14_1).f0) ≥ 5
       ·rw [if_pos c10] at H
        have c10b0 : decide (5 ≤ ((rd_T37 l0 x14_1).f0)) = true := decide_eq_true c10
        clear c10
        (first | rw [c10b0] | (simp only [i64_w, i32_w]; rw [c10b0]) | skip)
        have H' := Aside0.mk H
        clear H
        have hcz11_0 : w8.cell? ⟨gb228, 0, none⟩ = some (.int .i64 0) := (blk_cell BK228.out 0).trans rfl
        have hcz11_1 : w8.cell? ⟨gb228, 1, none⟩ = some (.int .i64 0) := (blk_cell BK228.out 1).trans rfl
        have hcz11_2 : w8.cell? ⟨gb228, 2, none⟩ = some (.int .i64 0) := (blk_cell BK228.out 2).trans rfl
        have hcz11_3 : w8.cell? ⟨gb228, 3, none⟩ = some (.int .i64 0) := (blk_cell BK228.out 3).trans rfl
        have hfz11_0 := blk_frozen BK228.out 0
        have hfz11_1 := blk_frozen BK228.out 1
        have hfz11_2 := blk_frozen BK228.out 2
        have hfz11_3 := blk_frozen BK228.out 3
        go_wp2
        repeat (go_quiet (fail); try go_wp2)
        go_meet
        case rel => exact ⟨_, ((rd_T37 l0 x14_1).f2), ((rd_T37 l0 x14_1).f3), rsd, rsd, H', ⟨by have := HK1.out; first | omega | exact Nat.le_refl _⟩, ⟨by (with_reducible repeat (first | refine blk_drewN ?_ _ | refine blk_drew ?_ | refine blk_alloc ?_ _)); refine blk_put (cs := #[.int .i64 ((rd_T37 l0 x14_1).f0), .int .i64 ((rd_T37 l0 x14_1).f1), .int .i64 ((rd_T37 l0 x14_1).f2), .int .i64 0]) ?_ 3 _ rfl; (with_reducible repeat (first | refine blk_drewN ?_ _ | refine blk_drew ?_ | refine blk_alloc ?_ _)); refine blk_put (cs := #[.int .i64 ((rd_T37 l0 x14_1).f0), .int .i64 ((rd_T37 l0 x14_1).f1), .int .i64 0, .int .i64 0]) ?_ 2 _ rfl; (with_reducible repeat (first | refine blk_drewN ?_ _ | refine blk_drew ?_ | refine blk_alloc ?_ _)); refine blk_put (cs := #[.int .i64 ((rd_T37 l0 x14_1).f0), .int .i64 0, .int .i64 0, .int .i64 0]) ?_ 1 _ rfl; (with_reducible repeat (first | refine blk_drewN ?_ _ | refine blk_drew ?_ | refine blk_alloc ?_ _)); refine blk_put (cs := #[.int .i64 0, .int .i64 0, .int .i64 0, .int .i64 0]) ?_ 0 _ rfl; (with_reducible repeat (first | refine blk_drewN ?_ _ | refine blk_drew ?_ | refine blk_alloc ?_ _)); exact BK228.out⟩, ⟨by repeat (first | (with_reducible first | exact HB.out | apply bwA | apply bwN | apply bwD | refine below_set ?_ GE228.out) | exact HB.out)⟩⟩
       ·rw [if_neg c10] at H
        have c10b0 : decide (5 ≤ ((rd_T37 l0 x14_1).f0)) = false := decide_eq_false c10
        clear c10
        (first | rw [c10b0] | (simp only [i64_w, i32_w]; rw [c10b0]) | skip)
        have H' := Aside0.mk H
        clear H
        go_wp2
        repeat (go_quiet (fail); try go_wp2)
        go_meet
        case rel => exact ⟨_, (0), (0), rsd, rsd, H', ⟨by have := HK1.out; first | omega | exact Nat.le_refl _⟩, ⟨by (with_reducible repeat (first | refine blk_drewN ?_ _ | refine blk_drew ?_ | refine blk_alloc ?_ _)); refine blk_put (cs := #[.int .i64 ((rd_T37 l0 x14_1).f0), .int .i64 ((rd_T37 l0 x14_1).f1), .int .i64 ((rd_T37 l0 x14_1).f2), .int .i64 0]) ?_ 3 _ rfl; (with_reducible repeat (first | refine blk_drewN ?_ _ | refine blk_drew ?_ | refine blk_alloc ?_ _)); refine blk_put (cs := #[.int .i64 ((rd_T37 l0 x14_1).f0), .int .i64 ((rd_T37 l0 x14_1).f1), .int .i64 0, .int .i64 0]) ?_ 2 _ rfl; (with_reducible repeat (first | refine blk_drewN ?_ _ | refine blk_drew ?_ | refine blk_alloc ?_ _)); refine blk_put (cs := #[.int .i64 ((rd_T37 l0 x14_1).f0), .int .i64 0, .int .i64 0, .int .i64 0]) ?_ 1 _ rfl; (with_reducible repeat (first | refine blk_drewN ?_ _ | refine blk_drew ?_ | refine blk_alloc ?_ _)); refine blk_put (cs := #[.int .i64 0, .int .i64 0, .int .i64 0, .int .i64 0]) ?_ 0 _ rfl; (with_reducible repeat (first | refine blk_drewN ?_ _ | refine blk_drew ?_ | refine blk_alloc ?_ _)); exact BK228.out⟩, ⟨by repeat (first | (with_reducible first | exact HB.out | apply bwA | apply bwN | apply bwD | refine below_set ?_ GE228.out) | exact HB.out)⟩⟩
      case rest =>
       clear HC7
       try clear c1
       try clear c2
       try clear p2
       try clear q2
       try clear hx2
       try clear c4
       try clear c4b0
       try clear c5
       try clear c5b0
       try clear c6
       try clear c6b0
       try clear c10
       try clear c10b0
       try clear hcz11_0
       try clear hcz11_1
       try clear hcz11_2
       try clear hcz11_3
       try clear hcz9_0
       try clear hcz9_1
       try clear hcz9_2
       try clear hcz9_3
       try clear hfz11_0
       try clear hfz11_1
       try clear hfz11_2
       try clear hfz11_3
       try clear hfz9_0
       try clear hfz9_1
       try clear hfz9_2
       try clear hfz9_3
       try clear hx227_0
       try clear hx227_1
       try clear hx227_2
       try clear hx227_3
       try clear p2
       try clear p227
       try clear q227
       obtain ⟨kq, x9_6, x10_6, rfl, rfl, HA, HJ6, BK228, HB⟩ := hcut
       cases kq with
       | zero => exact absurd HA.out (by simp [impl_behindOk.j1])
       | succ kj6 =>
        have H := HA.out
        clear HA
        simp only [impl_behindOk.j1] at H
        by_cases c12 : 0 ≤ x14_1
        ·rw [if_pos c12] at H
         have c12b0 : decide (0 ≤ x14_1) = true := decide_eq_true c12
         clear c12
         by_cases c13 : x14_1 < (l1.length : Int)
         ·rw [if_pos c13] at H
          have c13b0 : decide (x14_1 < (l1.length : Int)) = true := decide_eq_true c13
          clear c13
          by_cases c14 : ((rd_T37 l0 x14_1).f0) = 5
          ·rw [if_pos c14] at H
           have c14b0 : (((rd_T37 l0 x14_1).f0) == 5) = true := beq_iff_eq.mpr c14
           have c14b1 : (((rd_T37 l0 x14_1).f0) != 5) = false := bne_eq_false_iff_eq.mpr c14
           clear c14
           by_cases c15 : 0 ≤ x9_6
           ·rw [if_pos c15] at H
            have c15b0 : decide (0 ≤ x9_6) = true := decide_eq_true c15
            clear c15
            by_cases c16 : x9_6 < (l2.length : Int)
            ·rw [if_pos c16] at H
             have c16b0 : decide (x9_6 < (l2.length : Int)) = true := decide_eq_true c16
             clear c16
             by_cases c17 : (rd l1 x14_1) = (rd l2 x9_6)
             ·rw [if_pos c17] at H
              have c17b0 : ((rd l1 x14_1) == (rd l2 x9_6)) = true := beq_iff_eq.mpr c17
              have c17b1 : ((rd l1 x14_1) != (rd l2 x9_6)) = false := bne_eq_false_iff_eq.mpr c17
              clear c17
              have H' := Aside0.mk H
              clear H
              have p229 : 0 ≤ (x14_1 : Int) := oda
              have q229 : x14_1 < (l1.length : Int) := oda
              obtain ⟨ad229, e229, hx229_0⟩ := Kd.at_int HR1.out x14_1 p229 q229
              cases e229
              try replace hx229_0 := bct HB.out hx229_0
              replace p229 := eq_true p229
              replace q229 := eq_true q229
              have hcz18_0 : wc.cell? ⟨gb228, 0, none⟩ = some (.int .i64 ((rd_T37 l0 x14_1).f0)) := (blk_cell BK228.out 0).trans rfl
              have hcz18_1 : wc.cell? ⟨gb228, 1, none⟩ = some (.int .i64 ((rd_T37 l0 x14_1).f1)) := (blk_cell BK228.out 1).trans rfl
              have hcz18_2 : wc.cell? ⟨gb228, 2, none⟩ = some (.int .i64 ((rd_T37 l0 x14_1).f2)) := (blk_cell BK228.out 2).trans rfl
              have hcz18_3 : wc.cell? ⟨gb228, 3, none⟩ = some (.int .i64 ((rd_T37 l0 x14_1).f3)) := (blk_cell BK228.out 3).trans rfl
              have hfz18_0 := blk_frozen BK228.out 0
              have hfz18_1 := blk_frozen BK228.out 1
              have hfz18_2 := blk_frozen BK228.out 2
              have hfz18_3 := blk_frozen BK228.out 3
              have p230 : 0 ≤ (x9_6 : Int) := oda
              have q230 : x9_6 < (l2.length : Int) := oda
              obtain ⟨ad230, e230, hx230_0⟩ := Kd.at_int HR2.out x9_6 p230 q230
              cases e230
              try replace hx230_0 := bct HB.out hx230_0
              replace p230 := eq_true p230
              replace q230 := eq_true q230
              have p231 : 0 ≤ (x14_1 : Int) := oda
              have q231 : x14_1 < (l1.length : Int) := oda
              obtain ⟨ad231, e231, hx231_0⟩ := Kd.at_int HR1.out x14_1 p231 q231
              obtain rfl : ad229 = ad231 := (by injection e231)
              try replace hx231_0 := bct HB.out hx231_0
              replace p231 := eq_true p231
              replace q231 := eq_true q231
              go_wp2
              repeat (go_quiet (fail); try go_wp2)
              go_roundg kj6
              case measure => have := HK1.out; have := HJ6.out; omega
              case rel => exact ⟨(wrap64 (x14_1 + 1)), rsd, H', ⟨by have := HK1.out; have := HJ6.out; omega⟩, ⟨by repeat (first | (with_reducible first | exact HB.out | apply bwA | apply bwN | apply bwD | refine below_set ?_ GE228.out) | exact HB.out)⟩⟩
             ·rw [if_neg c17] at H
              have c17b0 : ((rd l1 x14_1) == (rd l2 x9_6)) = false := beq_eq_false_iff_ne.mpr c17
              have c17b1 : ((rd l1 x14_1) != (rd l2 x9_6)) = true := bne_iff_ne.mpr c17
              obtain rfl := Option.some.inj H
              have p229 : 0 ≤ (x14_1 : Int) := oda
              have q229 : x14_1 < (l1.length : Int) := oda
              obtain ⟨ad229, e229, hx229_0⟩ := Kd.at_int HR1.out x14_1 p229 q229
              cases e229
              try replace hx229_0 := bct HB.out hx229_0
              replace p229 := eq_true p229
              replace q229 := eq_true q229
              have hcz19_0 : wc.cell? ⟨gb228, 0, none⟩ = some (.int .i64 ((rd_T37 l0 x14_1).f0)) := (blk_cell BK228.out 0).trans rfl
              have hcz19_1 : wc.cell? ⟨gb228, 1, none⟩ = some (.int .i64 ((rd_T37 l0 x14_1).f1)) := (blk_cell BK228.out 1).trans rfl
              have hcz19_2 : wc.cell? ⟨gb228, 2, none⟩ = some (.int .i64 ((rd_T37 l0 x14_1).f2)) := (blk_cell BK228.out 2).trans rfl
              have hcz19_3 : wc.cell? ⟨gb228, 3, none⟩ = some (.int .i64 ((rd_T37 l0 x14_1).f3)) := (blk_cell BK228.out 3).trans rfl
              have hfz19_0 := blk_frozen BK228.out 0
              have hfz19_1 := blk_frozen BK228.out 1
              have hfz19_2 := blk_frozen BK228.out 2
              have hfz19_3 := blk_frozen BK228.out 3
              have p230 : 0 ≤ (x9_6 : Int) := oda
              have q230 : x9_6 < (l2.length : Int) := oda
              obtain ⟨ad230, e230, hx230_0⟩ := Kd.at_int HR2.out x9_6 p230 q230
              cases e230
              try replace hx230_0 := bct HB.out hx230_0
              replace p230 := eq_true p230
              replace q230 := eq_true q230
              have p231 : 0 ≤ (x14_1 : Int) := oda
              have q231 : x14_1 < (l1.length : Int) := oda
              obtain ⟨ad231, e231, hx231_0⟩ := Kd.at_int HR1.out x14_1 p231 q231
              obtain rfl : ad229 = ad231 := (by injection e231)
              try replace hx231_0 := bct HB.out hx231_0
              replace p231 := eq_true p231
              replace q231 := eq_true q231
              go_wp2
              repeat (go_quiet (fail); try go_wp2)
              go_ret
              exact ⟨ers, by repeat (first | (with_reducible first | exact HB.out | apply bwA | apply bwN | apply bwD | refine below_set ?_ GE228.out) | exact HB.out)⟩
            ·rw [if_neg c16] at H
             exact absurd H (by simp)
           ·rw [if_neg c15] at H
            exact absurd H (by simp)
          ·rw [if_neg c14] at H
           have c14b0 : (((rd_T37 l0 x14_1).f0) == 5) = false := beq_eq_false_iff_ne.mpr c14
           have c14b1 : (((rd_T37 l0 x14_1).f0) != 5) = true := bne_iff_ne.mpr c14
           by_cases c20 : ((rd_T37 l0 x14_1).f0) = 6
           ·rw [if_pos c20] at H
            have c20b0 : (((rd_T37 l0 x14_1).f0) == 6) = true := beq_iff_eq.mpr c20
            have c20b1 : (((rd_T37 l0 x14_1).f0) != 6) = false := bne_eq_false_iff_eq.mpr c20
            clear c20
            by_cases c21 : 0 ≤ x10_6
            ·rw [if_pos c21] at H
             have c21b0 : decide (0 ≤ x10_6) = true := decide_eq_true c21
             clear c21
             by_cases c22 : x10_6 < (l1.length : Int)
             ·rw [if_pos c22] at H
              have c22b0 : decide (x10_6 < (l1.length : Int)) = true := decide_eq_true c22
              clear c22
              by_cases c23 : 0 ≤ x9_6
              ·rw [if_pos c23] at H
               have c23b0 : decide (0 ≤ x9_6) = true := decide_eq_true c23
               clear c23
               by_cases c24 : x9_6 < (l1.length : Int)
               ·rw [if_pos c24] at H
                have c24b0 : decide (x9_6 < (l1.length : Int)) = true := decide_eq_true c24
                clear c24
                by_cases c25 : x14_1 < (l2.length : Int)
                ·rw [if_pos c25] at H
                 have c25b0 : decide (x14_1 < (l2.length : Int)) = true := decide_eq_true c25
                 clear c25
                 by_cases c26 : (rd l1 x14_1) = (Go.bits .or .i64 (rd l1 x10_6) (Go.bits .and .i64 (rd l1 x9_6) (rd l2 x14_1)))
                 ·rw [if_pos c26] at H
                  have c26b0 : ((rd l1 x14_1) == (Go.bits .or .i64 (rd l1 x10_6) (Go.bits .and .i64 (rd l1 x9_6) (rd l2 x14_1)))) = true := beq_iff_eq.mpr c26
                  have c26b1 : ((rd l1 x14_1) != (Go.bits .or .i64 (rd l1 x10_6) (Go.bits .and .i64 (rd l1 x9_6) (rd l2 x14_1)))) = false := bne_eq_false_iff_eq.mpr c26
                  clear c26
                  have H' := Aside0.mk H
                  clear H
                  have p229 : 0 ≤ (x14_1 : Int) := oda
                  have q229 : x14_1 < (l1.length : Int) := oda
                  obtain ⟨ad229, e229, hx229_0⟩ := Kd.at_int HR1.out x14_1 p229 q229
                  cases e229
                  try replace hx229_0 := bct HB.out hx229_0
                  replace p229 := eq_true p229
                  replace q229 := eq_true q229
                  have hcz27_0 : wc.cell? ⟨gb228, 0, none⟩ = some (.int .i64 ((rd_T37 l0 x14_1).f0)) := (blk_cell BK228.out 0).trans rfl
                  have hcz27_1 : wc.cell? ⟨gb228, 1, none⟩ = some (.int .i64 ((rd_T37 l0 x14_1).f1)) := (blk_cell BK228.out 1).trans rfl
                  have hcz27_2 : wc.cell? ⟨gb228, 2, none⟩ = some (.int .i64 ((rd_T37 l0 x14_1).f2)) := (blk_cell BK228.out 2).trans rfl
                  have hcz27_3 : wc.cell? ⟨gb228, 3, none⟩ = some (.int .i64 ((rd_T37 l0 x14_1).f3)) := (blk_cell BK228.out 3).trans rfl
                  have hfz27_0 := blk_frozen BK228.out 0
                  have hfz27_1 := blk_frozen BK228.out 1
                  have hfz27_2 := blk_frozen BK228.out 2
                  have hfz27_3 := blk_frozen BK228.out 3
                  have p232 : 0 ≤ (x10_6 : Int) := oda
                  have q232 : x10_6 < (l1.length : Int) := oda
                  obtain ⟨ad232, e232, hx232_0⟩ := Kd.at_int HR1.out x10_6 p232 q232
                  obtain rfl : ad229 = ad232 := (by injection e232)
                  try replace hx232_0 := bct HB.out hx232_0
                  replace p232 := eq_true p232
                  replace q232 := eq_true q232
                  have p233 : 0 ≤ (x9_6 : Int) := oda
                  have q233 : x9_6 < (l1.length : Int) := oda
                  obtain ⟨ad233, e233, hx233_0⟩ := Kd.at_int HR1.out x9_6 p233 q233
                  obtain rfl : ad229 = ad233 := (by injection e233)
                  try replace hx233_0 := bct HB.out hx233_0
                  replace p233 := eq_true p233
                  replace q233 := eq_true q233
                  have p234 : 0 ≤ (x14_1 : Int) := oda
                  have q234 : x14_1 < (l2.length : Int) := oda
                  obtain ⟨ad234, e234, hx234_0⟩ := Kd.at_int HR2.out x14_1 p234 q234
                  cases e234
                  try replace hx234_0 := bct HB.out hx234_0
                  replace p234 := eq_true p234
                  replace q234 := eq_true q234
                  have p235 : 0 ≤ (x14_1 : Int) := oda
                  have q235 : x14_1 < (l1.length : Int) := oda
                  obtain ⟨ad235, e235, hx235_0⟩ := Kd.at_int HR1.out x14_1 p235 q235
                  obtain rfl : ad229 = ad235 := (by injection e235)
                  try replace hx235_0 := bct HB.out hx235_0
                  replace p235 := eq_true p235
                  replace q235 := eq_true q235
                  go_wp2
                  repeat (go_quiet (fail); try go_wp2)
                  go_roundg kj6
                  case measure => have := HK1.out; have := HJ6.out; omega
                  case rel => exact ⟨(wrap64 (x14_1 + 1)), rsd, H', ⟨by have := HK1.out; have := HJ6.out; omega⟩, ⟨by repeat (first | (with_reducible first | exact HB.out | apply bwA | apply bwN | apply bwD | refine below_set ?_ GE228.out) | exact HB.out)⟩⟩
                 ·rw [if_neg c26] at H
                  have c26b0 : ((rd l1 x14_1) == (Go.bits .or .i64 (rd l1 x10_6) (Go.bits .and .i64 (rd l1 x9_6) (rd l2 x14_1)))) = false := beq_eq_false_iff_ne.mpr c26
                  have c26b1 : ((rd l1 x14_1) != (Go.bits .or .i64 (rd l1 x10_6) (Go.bits .and .i64 (rd l1 x9_6) (rd l2 x14_1)))) = true := bne_iff_ne.mpr c26
                  obtain rfl := Option.some.inj H
                  have p229 : 0 ≤ (x14_1 : Int) := oda
                  have q229 : x14_1 < (l1.length : Int) := oda
                  obtain ⟨ad229, e229, hx229_0⟩ := Kd.at_int HR1.out x14_1 p229 q229
                  cases e229
                  try replace hx229_0 := bct HB.out hx229_0
                  replace p229 := eq_true p229
                  replace q229 := eq_true q229
                  have hcz28_0 : wc.cell? ⟨gb228, 0, none⟩ = some (.int .i64 ((rd_T37 l0 x14_1).f0)) := (blk_cell BK228.out 0).trans rfl
                  have hcz28_1 : wc.cell? ⟨gb228, 1, none⟩ = some (.int .i64 ((rd_T37 l0 x14_1).f1)) := (blk_cell BK228.out 1).trans rfl
                  have hcz28_2 : wc.cell? ⟨gb228, 2, none⟩ = some (.int .i64 ((rd_T37 l0 x14_1).f2)) := (blk_cell BK228.out 2).trans rfl
                  have hcz28_3 : wc.cell? ⟨gb228, 3, none⟩ = some (.int .i64 ((rd_T37 l0 x14_1).f3)) := (blk_cell BK228.out 3).trans rfl
                  have hfz28_0 := blk_frozen BK228.out 0
                  have hfz28_1 := blk_frozen BK228.out 1
                  have hfz28_2 := blk_frozen BK228.out 2
                  have hfz28_3 := blk_frozen BK228.out 3
                  have p232 : 0 ≤ (x10_6 : Int) := oda
                  have q232 : x10_6 < (l1.length : Int) := oda
                  obtain ⟨ad232, e232, hx232_0⟩ := Kd.at_int HR1.out x10_6 p232 q232
                  obtain rfl : ad229 = ad232 := (by injection e232)
                  try replace hx232_0 := bct HB.out hx232_0
                  replace p232 := eq_true p232
                  replace q232 := eq_true q232
                  have p233 : 0 ≤ (x9_6 : Int) := oda
                  have q233 : x9_6 < (l1.length : Int) := oda
                  obtain ⟨ad233, e233, hx233_0⟩ := Kd.at_int HR1.out x9_6 p233 q233
                  obtain rfl : ad229 = ad233 := (by injection e233)
                  try replace hx233_0 := bct HB.out hx233_0
                  replace p233 := eq_true p233
                  replace q233 := eq_true q233
                  have p234 : 0 ≤ (x14_1 : Int) := oda
                  have q234 : x14_1 < (l2.length : Int) := oda
                  obtain ⟨ad234, e234, hx234_0⟩ := Kd.at_int HR2.out x14_1 p234 q234
                  cases e234
                  try replace hx234_0 := bct HB.out hx234_0
                  replace p234 := eq_true p234
                  replace q234 := eq_true q234
                  have p235 : 0 ≤ (x14_1 : Int) := oda
                  have q235 : x14_1 < (l1.length : Int) := oda
                  obtain ⟨ad235, e235, hx235_0⟩ := Kd.at_int HR1.out x14_1 p235 q235
                  obtain rfl : ad229 = ad235 := (by injection e235)
                  try replace hx235_0 := bct HB.out hx235_0
                  replace p235 := eq_true p235
                  replace q235 := eq_true q235
                  go_wp2
                  repeat (go_quiet (fail); try go_wp2)
                  go_ret
                  exact ⟨ers, by repeat (first | (with_reducible first | exact HB.out | apply bwA | apply bwN | apply bwD | refine below_set ?_ GE228.out) | exact HB.out)⟩
                ·rw [if_neg c25] at H
                 exact absurd H (by simp)
               ·rw [if_neg c24] at H
                exact absurd H (by simp)
              ·rw [if_neg c23] at H
               exact absurd H (by simp)
             ·rw [if_neg c22] at H
              exact absurd H (by simp)
            ·rw [if_neg c21] at H
             exact absurd H (by simp)
           ·rw [if_neg c20] at H
            have c20b0 : (((rd_T37 l0 x14_1).f0) == 6) = false := beq_eq_false_iff_ne.mpr c20
            have c20b1 : (((rd_T37 l0 x14_1).f0) != 6) = true := bne_iff_ne.mpr c20
            by_cases c29 : ((rd_T37 l0 x14_1).f0) = 7
            ·rw [if_pos c29] at H
             have c29b0 : (((rd_T37 l0 x14_1).f0) == 7) = true := beq_iff_eq.mpr c29
             have c29b1 : (((rd_T37 l0 x14_1).f0) != 7) = false := bne_eq_false_iff_eq.mpr c29
             clear c29
             by_cases c30 : 0 ≤ x10_6
             ·rw [if_pos c30] at H
              have c30b0 : decide (0 ≤ x10_6) = true := decide_eq_true c30
              clear c30
              by_cases c31 : x10_6 < (l1.length : Int)
              ·rw [if_pos c31] at H
               have c31b0 : decide (x10_6 < (l1.length : Int)) = true := decide_eq_true c31
               clear c31
               by_cases c32 : 0 ≤ x9_6
               ·rw [if_pos c32] at H
                have c32b0 : decide (0 ≤ x9_6) = true := decide_eq_true c32
                clear c32
                by_cases c33 : x9_6 < (l1.length : Int)
                ·rw [if_pos c33] at H
                 have c33b0 : decide (x9_6 < (l1.length : Int)) = true := decide_eq_true c33
                 clear c33
                 by_cases c34 : x14_1 < (l2.length : Int)
                 ·rw [if_pos c34] at H
                  have c34b0 : decide (x14_1 < (l2.length : Int)) = true := decide_eq_true c34
                  clear c34
                  by_cases c35 : (rd l1 x14_1) = (Go.bits .and .i64 (rd l1 x10_6) (Go.bits .or .i64 (rd l1 x9_6) (rd l2 x14_1)))
                  ·rw [if_pos c35] at H
                   have c35b0 : ((rd l1 x14_1) == (Go.bits .and .i64 (rd l1 x10_6) (Go.bits .or .i64 (rd l1 x9_6) (rd l2 x14_1)))) = true := beq_iff_eq.mpr c35
                   have c35b1 : ((rd l1 x14_1) != (Go.bits .and .i64 (rd l1 x10_6) (Go.bits .or .i64 (rd l1 x9_6) (rd l2 x14_1)))) = false := bne_eq_false_iff_eq.mpr c35
                   clear c35
                   have H' := Aside0.mk H
                   clear H
                   have p229 : 0 ≤ (x14_1 : Int) := oda
                   have q229 : x14_1 < (l1.length : Int) := oda
                   obtain ⟨ad229, e229, hx229_0⟩ := Kd.at_int HR1.out x14_1 p229 q229
                   cases e229
                   try replace hx229_0 := bct HB.out hx229_0
                   replace p229 := eq_true p229
                   replace q229 := eq_true q229
                   have hcz36_0 : wc.cell? ⟨gb228, 0, none⟩ = some (.int .i64 ((rd_T37 l0 x14_1).f0)) := (blk_cell BK228.out 0).trans rfl
                   have hcz36_1 : wc.cell? ⟨gb228, 1, none⟩ = some (.int .i64 ((rd_T37 l0 x14_1).f1)) := (blk_cell BK228.out 1).trans rfl
                   have hcz36_2 : wc.cell? ⟨gb228, 2, none⟩ = some (.int .i64 ((rd_T37 l0 x14_1).f2)) := (blk_cell BK228.out 2).trans rfl
                   have hcz36_3 : wc.cell? ⟨gb228, 3, none⟩ = some (.int .i64 ((rd_T37 l0 x14_1).f3)) := (blk_cell BK228.out 3).trans rfl
                   have hfz36_0 := blk_frozen BK228.out 0
                   have hfz36_1 := blk_frozen BK228.out 1
                   have hfz36_2 := blk_frozen BK228.out 2
                   have hfz36_3 := blk_frozen BK228.out 3
                   have p236 : 0 ≤ (x10_6 : Int) := oda
                   have q236 : x10_6 < (l1.length : Int) := oda
                   obtain ⟨ad236, e236, hx236_0⟩ := Kd.at_int HR1.out x10_6 p236 q236
                   obtain rfl : ad229 = ad236 := (by injection e236)
                   try replace hx236_0 := bct HB.out hx236_0
                   replace p236 := eq_true p236
                   replace q236 := eq_true q236
                   have p237 : 0 ≤ (x9_6 : Int) := oda
                   have q237 : x9_6 < (l1.length : Int) := oda
                   obtain ⟨ad237, e237, hx237_0⟩ := Kd.at_int HR1.out x9_6 p237 q237
                   obtain rfl : ad229 = ad237 := (by injection e237)
                   try replace hx237_0 := bct HB.out hx237_0
                   replace p237 := eq_true p237
                   replace q237 := eq_true q237
                   have p238 : 0 ≤ (x14_1 : Int) := oda
                   have q238 : x14_1 < (l2.length : Int) := oda
                   obtain ⟨ad238, e238, hx238_0⟩ := Kd.at_int HR2.out x14_1 p238 q238
                   cases e238
                   try replace hx238_0 := bct HB.out hx238_0
                   replace p238 := eq_true p238
                   replace q238 := eq_true q238
                   have p239 : 0 ≤ (x14_1 : Int) := oda
                   have q239 : x14_1 < (l1.length : Int) := oda
                   obtain ⟨ad239, e239, hx239_0⟩ := Kd.at_int HR1.out x14_1 p239 q239
                   obtain rfl : ad229 = ad239 := (by injection e239)
                   try replace hx239_0 := bct HB.out hx239_0
                   replace p239 := eq_true p239
                   replace q239 := eq_true q239
                   go_wp2
                   repeat (go_quiet (fail); try go_wp2)
                   go_roundg kj6
                   case measure => have := HK1.out; have := HJ6.out; omega
                   case rel => exact ⟨(wrap64 (x14_1 + 1)), rsd, H', ⟨by have := HK1.out; have := HJ6.out; omega⟩, ⟨by repeat (first | (with_reducible first | exact HB.out | apply bwA | apply bwN | apply bwD | refine below_set ?_ GE228.out) | exact HB.out)⟩⟩
                  ·rw [if_neg c35] at H
                   have c35b0 : ((rd l1 x14_1) == (Go.bits .and .i64 (rd l1 x10_6) (Go.bits .or .i64 (rd l1 x9_6) (rd l2 x14_1)))) = false := beq_eq_false_iff_ne.mpr c35
                   have c35b1 : ((rd l1 x14_1) != (Go.bits .and .i64 (rd l1 x10_6) (Go.bits .or .i64 (rd l1 x9_6) (rd l2 x14_1)))) = true := bne_iff_ne.mpr c35
                   obtain rfl := Option.some.inj H
                   have p229 : 0 ≤ (x14_1 : Int) := oda
                   have q229 : x14_1 < (l1.length : Int) := oda
                   obtain ⟨ad229, e229, hx229_0⟩ := Kd.at_int HR1.out x14_1 p229 q229
                   cases e229
                   try replace hx229_0 := bct HB.out hx229_0
                   replace p229 := eq_true p229
                   replace q229 := eq_true q229
                   have hcz37_0 : wc.cell? ⟨gb228, 0, none⟩ = some (.int .i64 ((rd_T37 l0 x14_1).f0)) := (blk_cell BK228.out 0).trans rfl
                   have hcz37_1 : wc.cell? ⟨gb228, 1, none⟩ = some (.int .i64 ((rd_T37 l0 x14_1).f1)) := (blk_cell BK228.out 1).trans rfl
                   have hcz37_2 : wc.cell? ⟨gb228, 2, none⟩ = some (.int .i64 ((rd_T37 l0 x14_1).f2)) := (blk_cell BK228.out 2).trans rfl
                   have hcz37_3 : wc.cell? ⟨gb228, 3, none⟩ = some (.int .i64 ((rd_T37 l0 x14_1).f3)) := (blk_cell BK228.out 3).trans rfl
                   have hfz37_0 := blk_frozen BK228.out 0
                   have hfz37_1 := blk_frozen BK228.out 1
                   have hfz37_2 := blk_frozen BK228.out 2
                   have hfz37_3 := blk_frozen BK228.out 3
                   have p236 : 0 ≤ (x10_6 : Int) := oda
                   have q236 : x10_6 < (l1.length : Int) := oda
                   obtain ⟨ad236, e236, hx236_0⟩ := Kd.at_int HR1.out x10_6 p236 q236
                   obtain rfl : ad229 = ad236 := (by injection e236)
                   try replace hx236_0 := bct HB.out hx236_0
                   replace p236 := eq_true p236
                   replace q236 := eq_true q236
                   have p237 : 0 ≤ (x9_6 : Int) := oda
                   have q237 : x9_6 < (l1.length : Int) := oda
                   obtain ⟨ad237, e237, hx237_0⟩ := Kd.at_int HR1.out x9_6 p237 q237
                   obtain rfl : ad229 = ad237 := (by injection e237)
                   try replace hx237_0 := bct HB.out hx237_0
                   replace p237 := eq_true p237
                   replace q237 := eq_true q237
                   have p238 : 0 ≤ (x14_1 : Int) := oda
                   have q238 : x14_1 < (l2.length : Int) := oda
                   obtain ⟨ad238, e238, hx238_0⟩ := Kd.at_int HR2.out x14_1 p238 q238
                   cases e238
                   try replace hx238_0 := bct HB.out hx238_0
                   replace p238 := eq_true p238
                   replace q238 := eq_true q238
                   have p239 : 0 ≤ (x14_1 : Int) := oda
                   have q239 : x14_1 < (l1.length : Int) := oda
                   obtain ⟨ad239, e239, hx239_0⟩ := Kd.at_int HR1.out x14_1 p239 q239
                   obtain rfl : ad229 = ad239 := (by injection e239)
                   try replace hx239_0 := bct HB.out hx239_0
                   replace p239 := eq_true p239
                   replace q239 := eq_true q239
                   go_wp2
                   repeat (go_quiet (fail); try go_wp2)
                   go_ret
                   exact ⟨ers, by repeat (first | (with_reducible first | exact HB.out | apply bwA | apply bwN | apply bwD | refine below_set ?_ GE228.out) | exact HB.out)⟩
                 ·rw [if_neg c34] at H
                  exact absurd H (by simp)
                ·rw [if_neg c33] at H
                 exact absurd H (by simp)
               ·rw [if_neg c32] at H
                exact absurd H (by simp)
              ·rw [if_neg c31] at H
               exact absurd H (by simp)
             ·rw [if_neg c30] at H
              exact absurd H (by simp)
            ·rw [if_neg c29] at H
             have c29b0 : (((rd_T37 l0 x14_1).f0) == 7) = false := beq_eq_false_iff_ne.mpr c29
             have c29b1 : (((rd_T37 l0 x14_1).f0) != 7) = true := bne_iff_ne.mpr c29
             have H' := Aside0.mk H
             clear H
             have p229 : 0 ≤ (x14_1 : Int) := oda
             have q229 : x14_1 < (l1.length : Int) := oda
             obtain ⟨ad229, e229, hx229_0⟩ := Kd.at_int HR1.out x14_1 p229 q229
             cases e229
             try replace hx229_0 := bct HB.out hx229_0
             replace p229 := eq_true p229
             replace q229 := eq_true q229
             have hcz38_0 : wc.cell? ⟨gb228, 0, none⟩ = some (.int .i64 ((rd_T37 l0 x14_1).f0)) := (blk_cell BK228.out 0).trans rfl
             have hcz38_1 : wc.cell? ⟨gb228, 1, none⟩ = some (.int .i64 ((rd_T37 l0 x14_1).f1)) := (blk_cell BK228.out 1).trans rfl
             have hcz38_2 : wc.cell? ⟨gb228, 2, none⟩ = some (.int .i64 ((rd_T37 l0 x14_1).f2)) := (blk_cell BK228.out 2).trans rfl
             have hcz38_3 : wc.cell? ⟨gb228, 3, none⟩ = some (.int .i64 ((rd_T37 l0 x14_1).f3)) := (blk_cell BK228.out 3).trans rfl
             have hfz38_0 := blk_frozen BK228.out 0
             have hfz38_1 := blk_frozen BK228.out 1
             have hfz38_2 := blk_frozen BK228.out 2
             have hfz38_3 := blk_frozen BK228.out 3
             have p240 : 0 ≤ (x14_1 : Int) := oda
             have q240 : x14_1 < (l1.length : Int) := oda
             obtain ⟨ad240, e240, hx240_0⟩ := Kd.at_int HR1.out x14_1 p240 q240
             obtain rfl : ad229 = ad240 := (by injection e240)
             try replace hx240_0 := bct HB.out hx240_0
             replace p240 := eq_true p240
             replace q240 := eq_true q240
             go_wp2
             repeat (go_quiet (fail); try go_wp2)
             go_roundg kj6
             case measure => have := HK1.out; have := HJ6.out; omega
             case rel => exact ⟨(wrap64 (x14_1 + 1)), rsd, H', ⟨by have := HK1.out; have := HJ6.out; omega⟩, ⟨by repeat (first | (with_reducible first | exact HB.out | apply bwA | apply bwN | apply bwD | refine below_set ?_ GE228.out) | exact HB.out)⟩⟩
         ·rw [if_neg c13] at H
          exact absurd H (by simp)
        ·rw [if_neg c12] at H
         exact absurd H (by simp)
     ·rw [if_neg c6] at H
      exact absurd H (by simp)
    ·rw [if_neg c5] at H
     exact absurd H (by simp)
   ·rw [if_neg c4] at H
    have c4b0 : decide (x14_1 < (l0.length : Int)) = false := decide_eq_false c4
    clear c4
    obtain rfl := Option.some.inj H
    go_wp2
    repeat (go_quiet (fail); try go_wp2)
    go_ret
    exact ⟨ers, by repeat (first | (with_reducible first | exact HB.out | apply bwA | apply bwN | apply bwD) | exact HB.out)⟩

/-! ### impl_valueBits: function 62 -/
def impl_valueBits.l0 : Nat → Int → Int → List Int → Int → Int → Option (List Int)
 | 0, _, _, _, _, _ => none
 | k + 1, x0, x1, x5, x10, x11 => if x11 < x10 then (if 0 ≤ (wrap64 ((wrap64 (x1 - 1)) - x11)) then (if 0 ≤ x11 then (if x11 < (x5.length : Int) then (impl_valueBits.l0 k x0 x1 (x5.set (x11 : Int).toNat (Go.bits .and .i64 (shr .i64 x0 (wrap64 ((wrap64 (x1 - 1)) - x11))) 1)) x10 (wrap64 (x11 + 1))) else (none)) else (none)) else (none)) else (some x5)
def impl_valueBits.f (k : Nat) (a0 : Int) (a1 : Int) : Option (List Int) := if 0 ≤ a1 then (if (a1 : Int).toNat ≤ 35184372088832 then ((some (List.replicate (a1 : Int).toNat 0 : List Int)).bind fun y241 => (impl_valueBits.l0 k a0 a1 y241 (y241.length : Int) 0)) else (none)) else (none)
theorem impl_valueBits.mono_l : ∀ k, (∀ y0 y1 y2 y3 y4, LeO (impl_valueBits.l0 k y0 y1 y2 y3 y4) (impl_valueBits.l0 (k + 1) y0 y1 y2 y3 y4))
 | 0 => fun _ _ _ _ _ r h => by simp [impl_valueBits.l0] at h
 | k + 1 => by
  have ih0 := impl_valueBits.mono_l k
  ·intro y0 y1 y2 y3 y4
   unfold impl_valueBits.l0
   repeat' first
   | (with_reducible exact ih0 _ _ _ _ _)
   | (with_reducible exact LeO.refl _)
   | (with_reducible exact LeO.none _)
   | (with_reducible refine LeO.ite ?_ ?_)
   | (with_reducible refine LeO.bind ?_ (fun _ => ?_))
   | exact ih0 _ _ _ _ _
   | exact LeO.none _
   | refine LeO.ite ?_ ?_
   | refine LeO.bind ?_ (fun _ => ?_)
theorem impl_valueBits.mono : ∀ a0 a1 k, LeO (impl_valueBits.f k a0 a1) (impl_valueBits.f (k + 1) a0 a1) := by
 intro a0 a1 k
 have ih0 := impl_valueBits.mono_l k
 unfold impl_valueBits.f
 repeat' first
   | (with_reducible exact ih0 _ _ _ _ _)
   | (with_reducible exact LeO.refl _)
   | (with_reducible exact LeO.none _)
   | (with_reducible refine LeO.ite ?_ ?_)
   | (with_reducible refine LeO.bind ?_ (fun _ => ?_))
   | exact ih0 _ _ _ _ _
   | exact LeO.none _
   | refine LeO.ite ?_ ?_
   | refine LeO.bind ?_ (fun _ => ?_)
set_option maxHeartbeats 8000000 in
set_option maxRecDepth 100000 in
theorem impl_valueBits.calls (k : Nat) (a0 : Int) (a1 : Int) (r : List Int) (w : World) (h : impl_valueBits.f k a0 a1 = some r) :
  Calls Try.prog 62 #[.int .i64 a0, .int .i64 a1] w fun e w' => ∃ v0_ : Value, e = .returned (v0_) ∧ Kd.R (Kd.int .i64) 3 w' w.heap.size (fun _ => True) v0_ r ∧ Below w.heap.size w w' := by
 have HB := Aside0.mk (Below.refl w.heap.size w)
 have H : (if 0 ≤ a1 then (if (a1 : Int).toNat ≤ 35184372088832 then ((some (List.replicate (a1 : Int).toNat 0 : List Int)).bind fun y241 => (impl_valueBits.l0 k a0 a1 y241 (y241.length : Int) 0)) else (none)) else (none)) = some r := h
 clear h
 by_cases c3 : 0 ≤ a1
 ·rw [if_pos c3] at H
  have c3b0 := eq_true c3
  have c3b1 : decide (0 ≤ a1) = true := decide_eq_true c3
  clear c3
  by_cases c4 : (a1 : Int).toNat ≤ 35184372088832
  ·rw [if_pos c4] at H
   have c4b0 := eq_true c4
   have c4b1 : decide ((a1 : Int).toNat ≤ 35184372088832) = true := decide_eq_true c4
   clear c4
   obtain ⟨y241, hy241⟩ : ∃ y_ : List Int, y_ = (List.replicate (a1 : Int).toNat 0) := ⟨_, rfl⟩
   replace H : (impl_valueBits.l0 k a0 a1 y241 (y241.length : Int) 0) = some r := by first | (rw [hy241]; with_reducible exact H) | (have H2_ := (Option.bind_some _ _).symm.trans H; rw [hy241]; with_reducible exact H2_) | (have H2_ := (Option.bind_some _ _).symm.trans H; with_reducible exact H2_) | with_reducible exact H | (rw [hy241]; exact H) | exact H
   have Ny241 := Aside0.mk hy241
   clear hy241
   have H' := Aside0.mk H
   clear H
   go_enter Try.func62, Try.ntmps62
   go_wp2_with (first | ((with_reducible refine gate_dst (N := 8) rfl ?_); refine Kd.R_make (Kd.int .i64) _ 3 rfl (N := 8) rfl 33 _ _ rfl a1 rfl rfl Try.underlying33 (.int .i64 0) 8 info3 rfl (by decide) (by omega) 0 (ok := fun _ => True) (okp := fun _ => True) rfl (fun _ hk => hk) trivial (oda) (Nat.le_trans (Nat.mul_le_mul_right _ (oda : a1.toNat ≤ 35184372088832)) (by omega)) (Below.refl _ _) (Nat.le_refl _) ?_; intro v242 w5 ho6 hb hg_ hnew_; clear hg_ hnew_; (first | rw [← Ny241.out] at ho6 | (simp only [Int.reduceToNat] at ho6; rw [← Ny241.out] at ho6)); have n0_ := Aside0.mk (Kd.R_lower ho6 (below_size (by repeat (first | (with_reducible first | exact HB.out | apply bwA | apply bwN | apply bwD) | exact HB.out)))); have n1_ := Aside0.mk (below_step (by repeat (first | (with_reducible first | exact HB.out | apply bwA | apply bwN | apply bwD) | exact HB.out)) hb); clear HB; have HO243 := n0_; have HB := n1_; clear n0_ n1_; clear hb ho6; obtain ⟨Ao7, co7, eo7⟩ := Kd.R_slice HO243.out; subst eo7))
   go_loopg [11] k (fun kq v11 w' => ∃ (x5_1 : List Int) (x11_1 : Int), v11 = .int .i64 x11_1 ∧ Aside0 (impl_valueBits.l0 kq a0 a1 x5_1 (y241.length : Int) x11_1 = some r) ∧ Aside0 (kq ≤ k) ∧ Aside0 (Kd.R (Kd.int .i64) 3 w' w.heap.size (fun _ => True) (.slice Ao7 y241.length co7) x5_1) ∧ Aside0 (Below w.heap.size w w'))
   case atStart => exact ⟨(y241), (0), rsd, H', ⟨Nat.le_refl _⟩, ⟨rvR HO243.out⟩, ⟨by repeat (first | (with_reducible first | exact HB.out | apply bwA | apply bwN | apply bwD) | exact HB.out)⟩⟩
   case round =>
    clear H'
    try clear p2
    try clear c3
    try clear c3b0
    try clear c3b1
    try clear c4
    try clear c4b0
    try clear c4b1
    try clear c6
    obtain ⟨x5_1, x11_1, rfl, HA, HK1, HO_5, HB⟩ := hrel
    have hl5_1 := (Kd.R_reads' HO_5.out).1
    rw [hl5_1] at HO_5
    (try simp only [hl5_1])
    cases gk with
    | zero => exact absurd HA.out (by simp [impl_valueBits.l0])
    | succ k1 =>
     have H := HA.out
     clear HA
     simp only [impl_valueBits.l0] at H
     by_cases c8 : x11_1 < (y241.length : Int)
     ·rw [if_pos c8] at H
      have c8b0 : decide (x11_1 < (y241.length : Int)) = true := decide_eq_true c8
      clear c8
      obtain ⟨ji9, hji9⟩ : ∃ j_ : Int, (wrap64 ((wrap64 (a1 - 1)) - x11_1)) = j_ := ⟨_, rfl⟩
      replace H : (if 0 ≤ (ji9) then (if 0 ≤ x11_1 then (if x11_1 < (x5_1.length : Int) then (impl_valueBits.l0 k1 a0 a1 (x5_1.set (x11_1 : Int).toNat (Go.bits .and .i64 (shr .i64 a0 (ji9)) 1)) (y241.length : Int) (wrap64 (x11_1 + 1))) else (none)) else (none)) else (none)) = some r := by first | (rw [hji9] at H; exact H) | (simp only [hji9] at H ⊢; exact H)
      have hji9w : (IntKind.i64.wrap ((wrap64 (a1 - 1)) - x11_1)) = ji9 := (i64_w _).trans hji9
      by_cases c10 : 0 ≤ (ji9)
      ·rw [if_pos c10] at H
       have c10b0 := eq_true c10
       have c10b1 : decide (0 ≤ (ji9)) = true := decide_eq_true c10
       clear c10
       obtain ⟨ji11, hji11⟩ : ∃ j_ : Int, (shr .i64 a0 (ji9)) = j_ := ⟨_, rfl⟩
       replace H : (if 0 ≤ x11_1 then (if x11_1 < (x5_1.length : Int) then (impl_valueBits.l0 k1 a0 a1 (x5_1.set (x11_1 : Int).toNat (Go.bits .and .i64 (ji11) 1)) (y241.length : Int) (wrap64 (x11_1 + 1))) else (none)) else (none)) = some r := by first | (rw [hji11] at H; exact H) | (simp only [hji11] at H ⊢; exact H)
       have hji11_ : (a0 / 2 ^ min (ji9).toNat 64) = ji11 := hji11
       have hji11z : (ji9) ≤ 64 → (a0 / 2 ^ (ji9).toNat) = ji11 := shr_small hji11
       by_cases c12 : 0 ≤ x11_1
       ·rw [if_pos c12] at H
        have c12b0 : decide (0 ≤ x11_1) = true := decide_eq_true c12
        clear c12
        by_cases c13 : x11_1 < (x5_1.length : Int)
        ·rw [if_pos c13] at H
         have c13b0 : decide (x11_1 < (x5_1.length : Int)) = true := decide_eq_true c13
         clear c13
         obtain ⟨y244, hy244⟩ : ∃ y_ : List Int, y_ = (x5_1.set (x11_1 : Int).toNat (Go.bits .and .i64 (ji11) 1)) := ⟨_, rfl⟩
         replace H : (impl_valueBits.l0 k1 a0 a1 y244 (y241.length : Int) (wrap64 (x11_1 + 1))) = some r := by first | (rw [hy244]; with_reducible exact H) | (have H2_ := (Option.bind_some _ _).symm.trans H; rw [hy244]; with_reducible exact H2_) | (have H2_ := (Option.bind_some _ _).symm.trans H; with_reducible exact H2_) | with_reducible exact H | (rw [hy244]; exact H) | exact H
         have Ny244 := Aside0.mk hy244
         clear hy244
         have H' := Aside0.mk H
         clear H
         have p14 : 0 ≤ (x11_1 : Int) := oda
         have q14 : (x11_1 : Int) < ((x5_1.length : Int) : Int) := oda
         obtain ⟨go14, co14, eo14, gb14, gl14, cl14, HG14⟩ := Kd.R_form HO_5.out (by omega)
         (first | cases eo14 | (injection eo14 with ea_ en_ ec_; (first | subst ea_ | (injection ea_ with ea_; subst ea_)); subst ec_; clear en_))
         have GB14 := Aside0.mk gb14
         have GG14 := Aside0.mk HG14
         clear gb14 gl14 HG14
         obtain ⟨hx14_0, hf14_0⟩ := Kd.R_celln 0 HO_5.out (x11_1 : Int) p14 q14
         replace p14 := eq_true p14
         replace q14 := eq_true q14
         have HP15 := Kd.R_putg HO_5.out (x11_1 : Int) (Go.bits .and .i64 (ji11) 1)
         go_wp2_with (first | ((with_reducible refine gate_store (t := 3) (p := 23) rfl ?_); refine store_event (t := 3) (p := 23) (v := ?vo_w16) (w1 := (wr.setCell ⟨go14, (x11_1 : Int).toNat, none⟩ (.int .i64 (Go.bits .and .i64 (ji11) 1)))) ?hg ?ho ?hn ?hr ?_; (case ho => rfl); (case hg => rfl); (case hn => rfl); (case hr => first | (go_simp; done) | (go_simp; rfl)); intro w16 hw; have hg : wr.grownBy w16 (some go14) := (by rw [hw]; exact HP15.2); have hp_ : Kd.R (Kd.int .i64) 3 w16 w.heap.size (fun _ => True) (.slice (some ⟨go14, 0, none⟩) x5_1.length co7) y244 := (by rw [hw, Ny244.out]; exact HP15.1); clear HP15; have n0_ := Aside0.mk (hp_); have n1_ := Aside0.mk ((by rw [hw]; exact below_set (HB.out) GB14.out : Below w.heap.size w w16)); clear HO_5; clear HB; have HO_5 := n0_; have HB := n1_; clear n0_ n1_; clear hg hw hp_))
         (try simp only [← hl5_1])
         go_roundg k1
         case measure => have := HK1.out; omega
         case rel => exact ⟨(y244), (wrap64 (x11_1 + 1)), rsd, H', ⟨by have := HK1.out; omega⟩, ⟨by (try simp only [hl5_1]); (with_reducible repeat (first | apply Kd.R_alloc | apply Kd.R_drewN | apply Kd.R_drew)); exact HO_5.out⟩, ⟨by repeat (first | (with_reducible first | exact HB.out | apply bwA | apply bwN | apply bwD) | exact HB.out)⟩⟩
        ·rw [if_neg c13] at H
         exact absurd H (by simp)
       ·rw [if_neg c12] at H
        exact absurd H (by simp)
      ·rw [if_neg c10] at H
       exact absurd H (by simp)
     ·rw [if_neg c8] at H
      have c8b0 : decide (x11_1 < (y241.length : Int)) = false := decide_eq_false c8
      clear c8
      obtain rfl := Option.some.inj H
      (try rw [hl5_1] at c8b0)
      go_wp2
      go_ret
      exact ⟨_, ers, by (with_reducible repeat (first | apply Kd.R_alloc | apply Kd.R_drewN | apply Kd.R_drew)); exact HO_5.out, by repeat (first | (with_reducible first | exact HB.out | apply bwA | apply bwN | apply bwD) | exact HB.out)⟩
  ·rw [if_neg c4] at H
   exact absurd H (by simp)
 ·rw [if_neg c3] at H
  exact absurd H (by simp)

end Go.Proofs.Ytdigdhckbhlkmaa.QFnGuessNext
