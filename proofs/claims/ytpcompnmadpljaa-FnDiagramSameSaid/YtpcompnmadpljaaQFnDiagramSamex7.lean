-- Written by a program of this session (mk.py). Lean checks it.
import Derived.Test.YtpcompnmadpljaaQFnDiagramSamex2
import Derived.Test.YtpcompnmadpljaaQFnDiagramSamex0
import Derived.Test.YtpcompnmadpljaaQFnDiagramSamex4
namespace Go.Proofs.Ytpcompnmadpljaa.QFnDiagramSame
open Go.RowKit Go.Proofs.YtpcompnmadpljaaW.PrintWords Go.Proofs.YtpcompnmadpljaaW.PrintLast Go.Proofs.YtpcompnmadpljaaW.PrintMore
attribute [local go_sem] max2_int min2_int max_two min_two max_three min_three max_four min_four   -- for this text's walks alone
set_option linter.unusedVariables false
set_option linter.unusedSimpArgs false

/-! ### spec_l8Copy: function 61 -/
def spec_l8Copy.l0 : Nat → Int → Int → List (S71) → Int → List (S71) → Option (Int × (List (S71)))
 | 0, _, _, _, _, _ => none
 | k + 1, x4, x145000, x145001, x147000, x147001 => if x4 < (x145001.length : Int) then (if 0 ≤ x4 then (if x147001.length < 5864062014805 then (spec_l8Copy.l0 k (wrap64 (x4 + 1)) x145000 x145001 x147000 (x147001 ++ [(⟨(rd_T71 x145001 x4).f0, (rd_T71 x145001 x4).f1, (rd_T71 x145001 x4).f2⟩ : S71)])) else (none)) else (none)) else (some (x147000, x147001))
def spec_l8Copy.f (k : Nat) (a0_0 : Int) (l0_1 : List (S71)) : Option (Int × (List (S71))) := spec_l8Copy.l0 k 0 a0_0 l0_1 a0_0 ([] : List (S71))
theorem spec_l8Copy.mono_l : ∀ k, (∀ y0 y1 y2 y3 y4, LeO (spec_l8Copy.l0 k y0 y1 y2 y3 y4) (spec_l8Copy.l0 (k + 1) y0 y1 y2 y3 y4))
 | 0 => fun _ _ _ _ _ r h => by simp [spec_l8Copy.l0] at h
 | k + 1 => by
  have ih0 := spec_l8Copy.mono_l k
  ·intro y0 y1 y2 y3 y4
   unfold spec_l8Copy.l0
   repeat' first
   | (with_reducible exact ih0 _ _ _ _ _)
   | (with_reducible exact LeO.refl _)
   | (with_reducible exact LeO.none _)
   | (with_reducible refine LeO.ite ?_ ?_)
   | (with_reducible refine LeO.bind ?_ (fun _ => ?_))
   | exact ih0 _ _ _ _ _
   | exact LeO.none _
   | refine LeO.ite ?_ ?_
   | refine LeO.bind ?_ (fun _ => ?_)
theorem spec_l8Copy.mono : ∀ a0 a1 k, LeO (spec_l8Copy.f k a0 a1) (spec_l8Copy.f (k + 1) a0 a1) := by
 intro a0 a1 k
 have ih0 := spec_l8Copy.mono_l k
 unfold spec_l8Copy.f
 repeat' first
   | (with_reducible exact ih0 _ _ _ _ _)
   | (with_reducible exact LeO.refl _)
   | (with_reducible exact LeO.none _)
   | (with_reducible refine LeO.ite ?_ ?_)
   | (with_reducible refine LeO.bind ?_ (fun _ => ?_))
   | exact ih0 _ _ _ _ _
   | exact LeO.none _
   | refine LeO.ite ?_ ?_
   | refine LeO.bind ?_ (fun _ => ?_)
def spec_l8Copy.T5 : Bool × List (List Nat × List Nat) := (true, [([], []), ([0], [0]), ([], []), ([2], [2]), ([], []), ([3, 4], [3, 4]), ([5], [5]), ([6], [6]), ([1, 7], [1, 7]), ([0, 1, 2, 3, 4, 5, 6, 7, 8], []), ([9, 8, 8, 0, 1, 2, 3, 4, 5, 6, 7, 8], [8, 9])])
def spec_l8Copy.B5 : List Nat := [0, 1, 0, 4, 0, 28, 60, 124, 255, 511, 1023]
theorem spec_l8Copy.tab5 : rtab .any (opsOf Try.f61 5) = spec_l8Copy.T5 := by kernel_rfl
theorem spec_l8Copy.bits5 : waitsOk spec_l8Copy.T5.2 spec_l8Copy.B5 = true := by kernel_rfl
set_option maxHeartbeats 8000000 in
set_option maxRecDepth 100000 in
theorem spec_l8Copy.calls (k : Nat) (a0_0 : Int) (A0_1 : Option Addr) (c0_1 : Nat) (l0_1 : List (S71)) (r1 : Int) (r2 : List (S71)) (w : World) (hr0_1 : Kd.C k71 w A0_1 l0_1.length l0_1) (hc0_1 : l0_1.length ≤ c0_1) (h : spec_l8Copy.f k a0_0 l0_1 = some (r1, r2)) :
  Calls Try.prog 61 #[.agg #[.int .i64 a0_0, .slice A0_1 l0_1.length c0_1]] w fun e w' => ∃ v1_ : Value, e = .returned (.agg #[.int .i64 r1, v1_]) ∧ Kd.R k71 71 w' w.heap.size (fun _ => True) v1_ r2 ∧ Below w.heap.size w w' := by
 have hu25 := Try.underlying25
 have hu71 := Try.underlying71
 have HR0_1 := Aside0.mk hr0_1
 have HC0_1 := Aside0.mk hc0_1
 clear hr0_1 hc0_1
 have HB := Aside0.mk (Below.refl w.heap.size w)
 have H : (spec_l8Copy.l0 k 0 a0_0 l0_1 a0_0 ([] : List (S71))) = some (r1, r2) := h
 clear h
 have H' := Aside0.mk H
 clear H
 go_enter Try.func61, Try.ntmps61
 go_wp2_with (first | ((with_reducible refine gate_dst (N := 1) rfl ?_); refine box_event ?hg (N := 1) ?hd (cs := #[.int .i64 a0_0, .slice A0_1 l0_1.length c0_1]) (t := 25) ?hr ?_; (case hd => rfl); (case hg => rfl); (case hr => first | (go_simp; done) | (go_simp; rfl)); intro gb144 hg w2 hbox hb; have n0_ := Aside0.mk (below_step (by repeat (first | (with_reducible first | exact HB.out | apply bwA | apply bwN | apply bwD) | exact HB.out)) hb); have n1_ := Aside0.mk (hbox); have n2_ := Aside0.mk ((by rw [hg]; exact (below_size (by repeat (first | (with_reducible first | exact HB.out | apply bwA | apply bwN | apply bwD) | exact HB.out))) : w.heap.size ≤ gb144)); have n3_ := Aside0.mk ((by rw [hg]; exact (below_size (by repeat (first | (with_reducible first | exact HB.out | apply bwA | apply bwN | apply bwD) | exact HB.out))) : w.heap.size ≤ gb144)); clear HB; have HB := n0_; have BK144 := n1_; have GW144 := n2_; have GE144 := n3_; clear n0_ n1_ n2_ n3_; clear hb hbox hg) | ((with_reducible refine gate_dst (N := 2) rfl ?_); refine box_event ?hg (N := 2) ?hd (cs := #[.int .i64 0, .slice none 0 0]) (t := 25) ?hr ?_; (case hd => rfl); (case hg => rfl); (case hr => first | (go_simp; done) | (go_simp; rfl)); intro gb145 hg w3 hbox hb; have n0_ := Aside0.mk (blk_below (g := gb144) (o := .cells #[.int .i64 a0_0, .slice A0_1 l0_1.length c0_1] 25 (0, 0)) (bvK BK144.out) hb); have n1_ := Aside0.mk (below_step (by repeat (first | (with_reducible first | exact HB.out | apply bwA | apply bwN | apply bwD | refine below_set ?_ GE144.out) | exact HB.out)) hb); have n2_ := Aside0.mk (hbox); have n3_ := Aside0.mk ((by rw [hg]; exact (below_size (by repeat (first | (with_reducible first | exact HB.out | apply bwA | apply bwN | apply bwD | refine below_set ?_ GE144.out) | exact HB.out))) : w.heap.size ≤ gb145)); have n4_ := Aside0.mk ((by rw [hg]; exact (below_size (by repeat (first | (with_reducible first | exact HB.out | apply bwA | apply bwN | apply bwD | refine below_set ?_ GE144.out) | exact HB.out))) : w.heap.size ≤ gb145)); have n5_ := Aside0.mk ((by rw [hg]; exact Nat.ne_of_lt (blk_lt (g := gb144) (o := .cells #[.int .i64 a0_0, .slice A0_1 l0_1.length c0_1] 25 (0, 0)) (bvK BK144.out)) : gb144 ≠ gb145)); have n6_ := Aside0.mk ((by rw [hg]; exact Nat.ne_of_gt (blk_lt (g := gb144) (o := .cells #[.int .i64 a0_0, .slice A0_1 l0_1.length c0_1] 25 (0, 0)) (bvK BK144.out)) : gb145 ≠ gb144)); clear BK144; clear HB; have BK144 := n0_; have HB := n1_; have BK145 := n2_; have GW145 := n3_; have GE145 := n4_; have NB144_145 := n5_; have NB145_144 := n6_; clear n0_ n1_ n2_ n3_ n4_ n5_ n6_; clear hb hbox hg; have hnb4 := NB144_145.out; have hnc4 := NB145_144.out; have hcz5_0 : w3.cell? ⟨gb144, 0, none⟩ = some (.int .i64 a0_0) := (blk_cell BK144.out 0).trans rfl; have hcz5_1 : w3.cell? ⟨gb144, 1, none⟩ = some (.slice A0_1 l0_1.length c0_1) := (blk_cell BK144.out 1).trans rfl; have hfz5_0 := blk_frozen BK144.out 0; have hfz5_1 := blk_frozen BK144.out 1) | ((with_reducible refine gate_dst (N := 3) rfl ?_); refine box_event ?hg (N := 3) ?hd (cs := #[.int .i64 0, .slice none 0 0]) (t := 25) ?hr ?_; (case hd => rfl); (case hg => rfl); (case hr => first | (go_simp; done) | (go_simp; rfl)); intro gb146 hg w6 hbox hb; have n0_ := Aside0.mk (blk_below (g := gb144) (o := .cells #[.int .i64 a0_0, .slice A0_1 l0_1.length c0_1] 25 (0, 0)) (bvK BK144.out) hb); have n1_ := Aside0.mk (blk_below (g := gb145) (o := .cells #[.int .i64 0, .slice none 0 0] 25 (0, 0)) (bvK BK145.out) hb); have n2_ := Aside0.mk (below_step (by repeat (first | (with_reducible first | exact HB.out | apply bwA | apply bwN | apply bwD | refine below_set ?_ GE144.out | refine below_set ?_ GE145.out) | exact HB.out)) hb); have n3_ := Aside0.mk (hbox); have n4_ := Aside0.mk ((by rw [hg]; exact (below_size (by repeat (first | (with_reducible first | exact HB.out | apply bwA | apply bwN | apply bwD | refine below_set ?_ GE144.out | refine below_set ?_ GE145.out) | exact HB.out))) : w.heap.size ≤ gb146)); have n5_ := Aside0.mk ((by rw [hg]; exact (below_size (by repeat (first | (with_reducible first | exact HB.out | apply bwA | apply bwN | apply bwD | refine below_set ?_ GE144.out | refine below_set ?_ GE145.out) | exact HB.out))) : w.heap.size ≤ gb146)); have n6_ := Aside0.mk ((by rw [hg]; exact Nat.ne_of_lt (blk_lt (g := gb144) (o := .cells #[.int .i64 a0_0, .slice A0_1 l0_1.length c0_1] 25 (0, 0)) (bvK BK144.out)) : gb144 ≠ gb146)); have n7_ := Aside0.mk ((by rw [hg]; exact Nat.ne_of_gt (blk_lt (g := gb144) (o := .cells #[.int .i64 a0_0, .slice A0_1 l0_1.length c0_1] 25 (0, 0)) (bvK BK144.out)) : gb146 ≠ gb144)); have n8_ := Aside0.mk ((by rw [hg]; exact Nat.ne_of_lt (blk_lt (g := gb145) (o := .cells #[.int .i64 0, .slice none 0 0] 25 (0, 0)) (bvK BK145.out)) : gb145 ≠ gb146)); have n9_ := Aside0.mk ((by rw [hg]; exact Nat.ne_of_gt (blk_lt (g := gb145) (o := .cells #[.int .i64 0, .slice none 0 0] 25 (0, 0)) (bvK BK145.out)) : gb146 ≠ gb145)); clear BK144; clear BK145; clear HB; have BK144 := n0_; have BK145 := n1_; have HB := n2_; have BK146 := n3_; have GW146 := n4_; have GE146 := n5_; have NB144_146 := n6_; have NB146_144 := n7_; have NB145_146 := n8_; have NB146_145 := n9_; clear n0_ n1_ n2_ n3_ n4_ n5_ n6_ n7_ n8_ n9_; clear hb hbox hg; have hnb7 := NB146_144.out; have hnc7 := NB144_146.out; have hnb8 := NB146_145.out; have hnc8 := NB145_146.out; have hcz9_0 : w6.cell? ⟨gb146, 0, none⟩ = some (.int .i64 0) := (blk_cell BK146.out 0).trans rfl; have hcz9_1 : w6.cell? ⟨gb146, 1, none⟩ = some (.slice none 0 0) := (blk_cell BK146.out 1).trans rfl; have hfz9_0 := blk_frozen BK146.out 0; have hfz9_1 := blk_frozen BK146.out 1))
 go_loopg [4] k (fun kq v4 w' => ∃ (x4_1 : Int) (x147001_1 : List (S71)) (u147001 : Value), v4 = .int .i64 x4_1 ∧ Aside0 (spec_l8Copy.l0 kq x4_1 a0_0 l0_1 a0_0 x147001_1 = some (r1, r2)) ∧ Aside0 (kq ≤ k) ∧ Aside0 (Kd.R k71 71 w' w.heap.size (fun _ => True) u147001 x147001_1) ∧ Aside0 (w'.heap[gb144]? = some (.cells #[.int .i64 a0_0, (.slice A0_1 l0_1.length c0_1)] 25 (0, 0))) ∧ Aside0 (w'.heap[gb145]? = some (.cells #[.int .i64 0, (.slice none 0 0)] 25 (0, 0))) ∧ Aside0 (w'.heap[gb146]? = some (.cells #[.int .i64 a0_0, u147001] 25 (0, 0))) ∧ Aside0 (Below w.heap.size w w'))
 case atStart => exact ⟨(0), (([] : List (S71))), (.slice none 0 0), rsd, H', ⟨Nat.le_refl _⟩, ⟨by first | exact Kd.R_nil _ _ _ _ _ | exact Kd.N_nil _ _ _ _ _ | exact Kd.V_nil _ _ _ _ _ | exact Kd.Q_nil _ _ _ _ _ | exact Kd.S_nil _ _ _ _ _⟩, ⟨by (with_reducible repeat (first | refine blk_drewN ?_ _ | refine blk_drew ?_ | refine blk_alloc ?_ _)); refine blk_far ?_ NB144_146.out _; (with_reducible repeat (first | refine blk_drewN ?_ _ | refine blk_drew ?_ | refine blk_alloc ?_ _)); refine blk_far ?_ NB144_146.out _; (with_reducible repeat (first | refine blk_drewN ?_ _ | refine blk_drew ?_ | refine blk_alloc ?_ _)); exact BK144.out⟩, ⟨by (with_reducible repeat (first | refine blk_drewN ?_ _ | refine blk_drew ?_ | refine blk_alloc ?_ _)); refine blk_far ?_ NB145_146.out _; (with_reducible repeat (first | refine blk_drewN ?_ _ | refine blk_drew ?_ | refine blk_alloc ?_ _)); refine blk_far ?_ NB145_146.out _; (with_reducible repeat (first | refine blk_drewN ?_ _ | refine blk_drew ?_ | refine blk_alloc ?_ _)); exact BK145.out⟩, ⟨by (with_reducible repeat (first | refine blk_drewN ?_ _ | refine blk_drew ?_ | refine blk_alloc ?_ _)); refine blk_put (cs := #[.int .i64 a0_0, .slice none 0 0]) ?_ 1 _ rfl; (with_reducible repeat (first | refine blk_drewN ?_ _ | refine blk_drew ?_ | refine blk_alloc ?_ _)); refine blk_put (cs := #[.int .i64 0, .slice none 0 0]) ?_ 0 _ rfl; (with_reducible repeat (first | refine blk_drewN ?_ _ | refine blk_drew ?_ | refine blk_alloc ?_ _)); exact BK146.out⟩, ⟨by repeat (first | (with_reducible first | exact HB.out | apply bwA | apply bwN | apply bwD | refine below_set ?_ GE144.out | refine below_set ?_ GE145.out | refine below_set ?_ GE146.out) | exact HB.out)⟩⟩
 case round =>
  clear H'
  try clear p2
  try clear c4
  try clear c6
  try clear c7
  try clear c8
  try clear hcz5_0
  try clear hcz5_1
  try clear hcz9_0
  try clear hcz9_1
  try clear hfz5_0
  try clear hfz5_1
  try clear hfz9_0
  try clear hfz9_1
  obtain ⟨x4_1, x147001_1, u147001, rfl, HA, HK1, HO_147001, BK144, BK145, BK146, HB⟩ := hrel
  cases gk with
  | zero => exact absurd HA.out (by simp [spec_l8Copy.l0])
  | succ k1 =>
   have H := HA.out
   clear HA
   simp only [spec_l8Copy.l0] at H
   by_cases c10 : x4_1 < (l0_1.length : Int)
   ·rw [if_pos c10] at H
    have c10b0 : decide (x4_1 < (l0_1.length : Int)) = true := decide_eq_true c10
    clear c10
    by_cases c11 : 0 ≤ x4_1
    ·rw [if_pos c11] at H
     have c11b0 : decide (0 ≤ x4_1) = true := decide_eq_true c11
     clear c11
     by_cases c12 : x147001_1.length < 5864062014805
     ·rw [if_pos c12] at H
      have LMc12 := Aside0.mk c12
      clear c12
      obtain ⟨y148, hy148⟩ : ∃ y_ : List (S71), y_ = (x147001_1 ++ [(⟨(rd_T71 l0_1 x4_1).f0, (rd_T71 l0_1 x4_1).f1, (rd_T71 l0_1 x4_1).f2⟩ : S71)]) := ⟨_, rfl⟩
      replace H : (spec_l8Copy.l0 k1 (wrap64 (x4_1 + 1)) a0_0 l0_1 a0_0 y148) = some (r1, r2) := by first | (rw [hy148]; with_reducible exact H) | (have H2_ := (Option.bind_some _ _).symm.trans H; rw [hy148]; with_reducible exact H2_) | (have H2_ := (Option.bind_some _ _).symm.trans H; with_reducible exact H2_) | with_reducible exact H | (rw [hy148]; exact H) | exact H
      have Ny148 := Aside0.mk hy148
      clear hy148
      have H' := Aside0.mk H
      clear H
      have hnb13 := NB144_145.out
      have hnc13 := NB145_144.out
      have hnb14 := NB144_146.out
      have hnc14 := NB146_144.out
      have hcz15_0 : wr.cell? ⟨gb144, 0, none⟩ = some (.int .i64 a0_0) := (blk_cell BK144.out 0).trans rfl
      have hcz15_1 : wr.cell? ⟨gb144, 1, none⟩ = some (.slice A0_1 l0_1.length c0_1) := (blk_cell BK144.out 1).trans rfl
      have hfz15_0 := blk_frozen BK144.out 0
      have hfz15_1 := blk_frozen BK144.out 1
      try go_wp2
      have n0_ := Aside0.mk (Kd.R_drew HO_147001.out)
      have n1_ := Aside0.mk (blk_drew BK144.out)
      have n2_ := Aside0.mk (blk_drew BK145.out)
      have n3_ := Aside0.mk (blk_drew BK146.out)
      have n4_ := Aside0.mk (below_drew1 HB.out)
      clear HO_147001
      clear BK144
      clear BK145
      clear BK146
      clear HB
      have HO_147001 := n0_
      have BK144 := n1_
      have BK145 := n2_
      have BK146 := n3_
      have HB := n4_
      clear n0_ n1_ n2_ n3_ n4_
      have p147 : 0 ≤ (x4_1 : Int) := oda
      have q147 : x4_1 < (l0_1.length : Int) := oda
      obtain ⟨ad147, e147, hx147_0, hx147_1, hx147_2⟩ := at_T71 HR0_1.out x4_1 p147 q147
      have hw147_2 := hx147_2
      have hw147_1 := hx147_1
      have hw147_0 := hx147_0
      cases e147
      try replace hx147_0 := bct HB.out hx147_0
      try replace hx147_1 := bct HB.out hx147_1
      try replace hx147_2 := bct HB.out hx147_2
      replace p147 := eq_true p147
      replace q147 := eq_true q147
      refine start_ (n := 11) (S := fun w' => w'.cell? ⟨gb146, 0, none⟩ = some (.int .i64 a0_0) ∧ w'.cell? ⟨gb146, 1, none⟩ = some (u147001) ∧ w'.cell? ⟨gb144, 0, none⟩ = some (.int .i64 a0_0) ∧ w'.cell? ⟨gb144, 1, none⟩ = some (.slice (some ad147) l0_1.length c0_1) ∧ w'.cell? (ad147.add ((x4_1).toNat * 3)) = some (.int .i64 ((rd_T71 l0_1 x4_1).f0)) ∧ w'.cell? ⟨(ad147.add ((x4_1).toNat * 3)).block, (ad147.add ((x4_1).toNat * 3)).off + 1, none⟩ = some (.int .i64 ((rd_T71 l0_1 x4_1).f1)) ∧ w'.cell? ⟨(ad147.add ((x4_1).toNat * 3)).block, (ad147.add ((x4_1).toNat * 3)).off + 2, none⟩ = some (.int .i64 ((rd_T71 l0_1 x4_1).f2))) (ds := [10]) (Pt.bm 11 0) (by kernel_rfl) rfl rfl ⟨(blk_cell BK146.out 0).trans rfl, (blk_cell BK146.out 1).trans rfl, (blk_cell BK144.out 0).trans rfl, (blk_cell BK144.out 1).trans rfl, ((HB.out.cell (World.block_lt_of_cell? w _ hw147_0)).trans hw147_0), ((HB.out.cell (World.block_lt_of_cell? w _ hw147_1)).trans hw147_1), ((HB.out.cell (World.block_lt_of_cell? w _ hw147_2)).trans hw147_2)⟩ (fun hHeld => ?_); refine with_tabW spec_l8Copy.tab5 spec_l8Copy.bits5 (fun HT_ HW_ => ?_)
      generalize wr.drew = w16 at HO_147001 BK144 BK145 BK146 HB hx147_0 hx147_1 hx147_2 hHeld ⊢
      refine Pt.pu 0 (some 15) (Pt.bm 11 1) (any_of HT_.out (by kernel_rfl)) ?_
      refine Pt.pu 2 (some 17) (Pt.bm 11 5) (any_of HT_.out (by kernel_rfl)) ?_
      refine Pt.pu 4 (some 19) (Pt.bm 11 21) (any_of HT_.out (by kernel_rfl)) ?_
      refine Pt.tk 1 (some 16) (Pt.bm 11 23) rfl rfl (take_ofW HT_.out HW_.out (by kernel_rfl)) hHeld (Or.inl ⟨by rfl, by rintro w' ⟨s0, s1, s2, s3, s4, s5, s6⟩; go_simp; with_reducible rfl⟩) ?_
      refine Pt.tk 3 (some 18) (Pt.bm 11 31) rfl rfl (take_ofW HT_.out HW_.out (by kernel_rfl)) hHeld (Or.inl ⟨by rfl, by rintro w' ⟨s0, s1, s2, s3, s4, s5, s6⟩; go_simp; with_reducible rfl⟩) ?_
      refine Pt.pu 5 (some 20) (Pt.bm 11 63) (any_of HT_.out (by kernel_rfl)) ?_
      refine Pt.tk 6 (some 21) (Pt.bm 11 127) rfl rfl (take_ofW HT_.out HW_.out (by kernel_rfl)) hHeld (Or.inl ⟨by rfl, by rintro w' ⟨s0, s1, s2, s3, s4, s5, s6⟩; go_simp; with_reducible rfl⟩) ?_
      refine one_ (i := 7) (N := some 22) (Pt.bm 11 255) rfl rfl (one_of HT_.out (by kernel_rfl)) (by decide) (fun K hK => ?_)
      refine value_ (w1 := ?_) (v := ?_) (by rfl) rfl ?_ ?_
      rotate_left 2
      ·go_simp
       constructor
       ·rfl
       ·rfl
      refine hK.out _ _ ⟨(blk_cell (blk_alloc BK146.out _) 0).trans rfl, (blk_cell (blk_alloc BK146.out _) 1).trans rfl, (blk_cell (blk_alloc BK144.out _) 0).trans rfl, (blk_cell (blk_alloc BK144.out _) 1).trans rfl, (World.cell?_alloc_lt _ _ _ (World.block_lt_of_cell? _ _ (((HB.out.cell (World.block_lt_of_cell? w _ hw147_0)).trans hw147_0)))).trans (((HB.out.cell (World.block_lt_of_cell? w _ hw147_0)).trans hw147_0)), (World.cell?_alloc_lt _ _ _ (World.block_lt_of_cell? _ _ (((HB.out.cell (World.block_lt_of_cell? w _ hw147_1)).trans hw147_1)))).trans (((HB.out.cell (World.block_lt_of_cell? w _ hw147_1)).trans hw147_1)), (World.cell?_alloc_lt _ _ _ (World.block_lt_of_cell? _ _ (((HB.out.cell (World.block_lt_of_cell? w _ hw147_2)).trans hw147_2)))).trans (((HB.out.cell (World.block_lt_of_cell? w _ hw147_2)).trans hw147_2))⟩ (fun hHeld => ?_)
      clear hK K
      refine norm_ (a' := ?_) ?_ ?_
      rotate_left
      ·show Act.put _ (some 22) _ = _
       simp only [Act.put, List.setIfInBounds_toArray, List.set_cons_zero, List.set_cons_succ, i64_w, i32_w]
       rfl
      refine one_ (i := 8) (N := some 23) (Pt.bm 11 511) rfl rfl (one_of HT_.out (by kernel_rfl)) (by decide) (fun K hK => ?_)
      refine Kd.R_append_step k71 (w0 := w) w.heap.size (by rfl) (.tmp 16) (.tmp 22) 23 71 (.agg #[(.int .i64 0), (.int .i64 0), (.int .i64 0)]) 24 rfl Try.underlying23 info71 rfl (by decide) (by omega) u147001 x147001_1 (⟨(rd_T71 l0_1 x4_1).f0, (rd_T71 l0_1 x4_1).f1, (rd_T71 l0_1 x4_1).f2⟩ : S71) [.int .i64 ((rd_T71 l0_1 x4_1).f0), .int .i64 ((rd_T71 l0_1 x4_1).f1), .int .i64 ((rd_T71 l0_1 x4_1).f2)] (fun _ => True) (fun _ => False) rfl rfl ?aP (fun _ hk => hk.elim) ?aF ?aO ?aB ?aS ?aL ?_
      (case aP => exact k71_mkM _ _ _ (⟨(rd_T71 l0_1 x4_1).f0, (rd_T71 l0_1 x4_1).f1, (rd_T71 l0_1 x4_1).f2⟩ : S71))
      (case aB => exact (by repeat (first | (with_reducible first | exact HB.out | apply bwA | apply bwN | apply bwD | refine below_set ?_ GE144.out | refine below_set ?_ GE145.out | refine below_set ?_ GE146.out) | exact HB.out)))
      (case aF => exact (fun _ _ => trivial))
      (case aO => exact (rvR HO_147001.out))
      (case aS => exact (below_size (by repeat (first | (with_reducible first | exact HB.out | apply bwA | apply bwN | apply bwD | refine below_set ?_ GE144.out | refine below_set ?_ GE145.out | refine below_set ?_ GE146.out) | exact HB.out))))
      (case aL => have := LMc12.out; omega)
      intro v149 w17 ho hb hg hat
      rw [← Ny148.out] at ho
      have n0_ := Aside0.mk (blk_grown (g := gb144) (o := .cells #[.int .i64 a0_0, .slice (some ad147) l0_1.length c0_1] 25 (0, 0)) (bvK BK144.out) hg (Kd.R_ne HO_147001.out BK144.out (by decide)))
      have n1_ := Aside0.mk (blk_grown (g := gb145) (o := .cells #[.int .i64 0, .slice none 0 0] 25 (0, 0)) (bvK BK145.out) hg (Kd.R_ne HO_147001.out BK145.out (by decide)))
      have n2_ := Aside0.mk (blk_grown (g := gb146) (o := .cells #[.int .i64 a0_0, u147001] 25 (0, 0)) (bvK BK146.out) hg (Kd.R_ne HO_147001.out BK146.out (by decide)))
      have n3_ := Aside0.mk (hb)
      have n4_ := Aside0.mk (ho)
      clear BK144
      clear BK145
      clear BK146
      clear HB
      clear HO_147001
      have BK144 := n0_
      have BK145 := n1_
      have BK146 := n2_
      have HB := n3_
      have HO150 := n4_
      clear n0_ n1_ n2_ n3_ n4_
      clear ho hb hg hat
      obtain ⟨Ao18, co18, eo18⟩ := Kd.R_slice HO150.out
      (first | subst eo18 | (injection eo18 with f1_ f2_ f3_; have f4_ := f1_.symm; have f5_ := f3_.symm; clear f1_ f2_ f3_; subst f4_; subst f5_))
      refine hK.out _ _ ⟨(blk_cell BK146.out 0).trans rfl, (blk_cell BK146.out 1).trans rfl, (blk_cell BK144.out 0).trans rfl, (blk_cell BK144.out 1).trans rfl, ((HB.out.cell (World.block_lt_of_cell? w _ hw147_0)).trans hw147_0), ((HB.out.cell (World.block_lt_of_cell? w _ hw147_1)).trans hw147_1), ((HB.out.cell (World.block_lt_of_cell? w _ hw147_2)).trans hw147_2)⟩ (fun hHeld => ?_)
      clear hK K
      refine norm_ (a' := ?_) ?_ ?_
      rotate_left
      ·show Act.put _ (some 23) _ = _
       simp only [Act.put, List.setIfInBounds_toArray, List.set_cons_zero, List.set_cons_succ, i64_w, i32_w]
       rfl
      refine Pt.pu 9 (some 24) (Pt.bm 11 1023) (any_of HT_.out (by kernel_rfl)) ?_
      refine last_ (i := 10) (N := none) (Pt.bm 11 2047) rfl rfl (one_of HT_.out (by kernel_rfl)) (by decide) (fun K hK => ?_)
      have hs19 : w17.cell? ⟨gb146, 1, none⟩ = some (u147001) := (blk_cell BK146.out 1).trans rfl
      have hfs19 := blk_frozen BK146.out 1
      have hns19_0 := NB144_146.out
      have hns19_1 := NB145_146.out
      have hms19_0 := NB146_144.out
      have hms19_1 := NB146_145.out
      refine skip_ (w1 := ?_) (by rfl) rfl ?_ ?_
      rotate_left
      ·go_simp
       rfl
      refine hK.out _ _ ?_
      clear hK K
      refine done_ (done_of HT_.out (by kernel_rfl)) ?_
      try go_wp2
      go_roundg k1
      case measure => have := HK1.out; omega
      case rel => exact ⟨(wrap64 (x4_1 + 1)), (y148), (.slice Ao18 y148.length co18), rsd, H', ⟨by have := HK1.out; omega⟩, ⟨by (with_reducible repeat (first | apply Kd.R_alloc | apply Kd.R_drewN | apply Kd.R_drew)); exact Kd.R_mono (Kd.R_far (p := ⟨gb146, 1, none⟩) (Kd.R_types HO150.out BK146.out (by decide)) (fun _ hk => hk.2) (.slice Ao18 y148.length co18)) (fun _ hk => trivial)⟩, ⟨by (with_reducible repeat (first | refine blk_drewN ?_ _ | refine blk_drew ?_ | refine blk_alloc ?_ _)); refine blk_far ?_ NB144_146.out _; (with_reducible repeat (first | refine blk_drewN ?_ _ | refine blk_drew ?_ | refine blk_alloc ?_ _)); exact BK144.out⟩, ⟨by (with_reducible repeat (first | refine blk_drewN ?_ _ | refine blk_drew ?_ | refine blk_alloc ?_ _)); refine blk_far ?_ NB145_146.out _; (with_reducible repeat (first | refine blk_drewN ?_ _ | refine blk_drew ?_ | refine blk_alloc ?_ _)); exact BK145.out⟩, ⟨by (with_reducible repeat (first | refine blk_drewN ?_ _ | refine blk_drew ?_ | refine blk_alloc ?_ _)); refine blk_put (cs := #[.int .i64 a0_0, u147001]) ?_ 1 _ rfl; (with_reducible repeat (first | refine blk_drewN ?_ _ | refine blk_drew ?_ | refine blk_alloc ?_ _)); exact BK146.out⟩, ⟨by repeat (first | (with_reducible first | exact HB.out | apply bwA | apply bwN | apply bwD | refine below_set ?_ GE144.out | refine below_set ?_ GE145.out | refine below_set ?_ GE146.out) | exact HB.out)⟩⟩
     ·rw [if_neg c12] at H
      exact absurd H (by simp)
    ·rw [if_neg c11] at H
     exact absurd H (by simp)
   ·rw [if_neg c10] at H
    have c10b0 : decide (x4_1 < (l0_1.length : Int)) = false := decide_eq_false c10
    clear c10
    simp only [Option.some.injEq, Prod.mk.injEq] at H
    obtain ⟨rfl, rfl⟩ := H
    have hnb20 := NB144_145.out
    have hnc20 := NB145_144.out
    have hnb21 := NB144_146.out
    have hnc21 := NB146_144.out
    have hcz22_0 : wr.cell? ⟨gb144, 0, none⟩ = some (.int .i64 a0_0) := (blk_cell BK144.out 0).trans rfl
    have hcz22_1 : wr.cell? ⟨gb144, 1, none⟩ = some (.slice A0_1 l0_1.length c0_1) := (blk_cell BK144.out 1).trans rfl
    have hfz22_0 := blk_frozen BK144.out 0
    have hfz22_1 := blk_frozen BK144.out 1
    have hnb23 := NB146_145.out
    have hnc23 := NB145_146.out
    have hcz24_0 : wr.cell? ⟨gb146, 0, none⟩ = some (.int .i64 a0_0) := (blk_cell BK146.out 0).trans rfl
    have hcz24_1 : wr.cell? ⟨gb146, 1, none⟩ = some (u147001) := (blk_cell BK146.out 1).trans rfl
    have hfz24_0 := blk_frozen BK146.out 0
    have hfz24_1 := blk_frozen BK146.out 1
    have hcz25_0 : wr.cell? ⟨gb145, 0, none⟩ = some (.int .i64 0) := (blk_cell BK145.out 0).trans rfl
    have hcz25_1 : wr.cell? ⟨gb145, 1, none⟩ = some (.slice none 0 0) := (blk_cell BK145.out 1).trans rfl
    have hfz25_0 := blk_frozen BK145.out 0
    have hfz25_1 := blk_frozen BK145.out 1
    obtain ⟨Ao26, co26, eo26⟩ := Kd.R_slice HO_147001.out
    subst eo26
    go_wp2
    refine bodyPost_ret (results_cell_row rfl _ _ gb145 25 #[.int .i64 a0_0, .slice Ao26 x147001_1.length co26] (0, 0) _ rfl (by (with_reducible repeat (first | refine blk_drewN ?_ _ | refine blk_drew ?_ | refine blk_alloc ?_ _)); refine blk_put (cs := #[.int .i64 a0_0, .slice none 0 0]) ?_ 1 _ rfl; (with_reducible repeat (first | refine blk_drewN ?_ _ | refine blk_drew ?_ | refine blk_alloc ?_ _)); refine blk_put (cs := #[.int .i64 0, .slice none 0 0]) ?_ 0 _ rfl; (with_reducible repeat (first | refine blk_drewN ?_ _ | refine blk_drew ?_ | refine blk_alloc ?_ _)); exact BK145.out) Try.underlying25 rfl (by kernel_rfl)) rfl ?_
    exact ⟨_, ers, by (with_reducible repeat (first | apply Kd.R_alloc | apply Kd.R_drewN | apply Kd.R_drew)); exact Kd.R_mono (Kd.R_far (p := ⟨gb145, 1, none⟩) (Kd.R_far (p := ⟨gb145, 0, none⟩) (Kd.R_types HO_147001.out BK145.out (by decide)) (fun _ hk => hk.2) (.int .i64 a0_0)) (fun _ hk => hk.2) (.slice Ao26 x147001_1.length co26)) (fun _ hk => trivial), by repeat (first | (with_reducible first | exact HB.out | apply bwA | apply bwN | apply bwD | refine below_set ?_ GE144.out | refine below_set ?_ GE145.out | refine below_set ?_ GE146.out) | exact HB.out)⟩

/-! ### spec_l8Told: function 62 -/
def spec_l8Told.f (a0_0 : Int) (l0_1 : List (S71)) (a1 : Int) : Option (Int × (List (S71)) × Int) := if a1 < 0 then (some (0, ([] : List (S71)), (-1))) else (some (a0_0, l0_1, a1))
set_option maxHeartbeats 8000000 in
set_option maxRecDepth 100000 in
theorem spec_l8Told.calls (a0_0 : Int) (P0_1_ : Nat → Prop) (u9000_ : Value) (l0_1 : List (S71)) (a1 : Int) (r1 : Int) (r2 : List (S71)) (r3 : Int) (w0 w : World) (hB : Below w0.heap.size w0 w) (ho0_1 : Kd.R k71 71 w w0.heap.size P0_1_ u9000_ l0_1) (h : spec_l8Told.f a0_0 l0_1 a1 = some (r1, r2, r3)) :
  Calls Try.prog 62 #[.agg #[.int .i64 a0_0, u9000_], .int .i64 a1] w fun e w' => ∃ v1_ : Value, e = .returned (.tuple #[.agg #[.int .i64 r1, v1_], .int .i64 r3]) ∧ Kd.R k71 71 w' w0.heap.size (fun k_ => (P0_1_ k_ ∨ w.heap.size ≤ k_)) v1_ r2 ∧ Below w0.heap.size w0 w' ∧ Kept w w' (fun k_ => P0_1_ k_) := by
 have hu25 := Try.underlying25
 have HO0_1 := Aside0.mk (show Kd.R k71 71 w w0.heap.size (fun k_ => (P0_1_ k_ ∨ w.heap.size ≤ k_)) u9000_ l0_1 from Kd.R_mono ho0_1 (fun k_ hk => (.inl hk)))
 have HK := Aside0.mk (Kept.refl w (fun k_ => P0_1_ k_))
 have HW0 := Aside0.mk hB.size
 have HB := Aside0.mk hB
 clear hB
 have H : (if a1 < 0 then (some (0, ([] : List (S71)), (-1))) else (some (a0_0, l0_1, a1))) = some (r1, r2, r3) := h
 clear h
 by_cases c3 : a1 < 0
 ·rw [if_pos c3] at H
  have c3b0 : decide (a1 < 0) = true := decide_eq_true c3
  clear c3
  simp only [Option.some.injEq, Prod.mk.injEq] at H
  obtain ⟨rfl, rfl, rfl⟩ := H
  obtain ⟨Ao4, co4, eo4⟩ := Kd.R_slice HO0_1.out
  subst eo4
  go_enter Try.func62, Try.ntmps62
  go_wp2_with (first | ((with_reducible refine gate_dst (N := 2) rfl ?_); refine box_event ?hg (N := 2) ?hd (cs := #[.int .i64 a0_0, .slice Ao4 l0_1.length co4]) (t := 25) ?hr ?_; (case hd => rfl); (case hg => rfl); (case hr => first | (go_simp; done) | (go_simp; rfl)); intro gb151 hg w5 hbox hb; have n0_ := Aside0.mk (Kd.R_below (rvR HO0_1.out) hb); have n1_ := Aside0.mk (Kept.below (S := (fun k_ => P0_1_ k_)) (by repeat (first | (with_reducible first | exact HK.out | apply Kept.alloc | apply Kept.drewN | apply Kept.drew) | exact HK.out)) hb); have n2_ := Aside0.mk (below_step (by repeat (first | (with_reducible first | exact HB.out | apply bwA | apply bwN | apply bwD) | exact HB.out)) hb); have n3_ := Aside0.mk (hbox); have n4_ := Aside0.mk ((by rw [hg]; exact (by first | exact HK.out.1 | exact (show Kept w _ (fun k_ => P0_1_ k_) from by repeat (first | (with_reducible first | exact HK.out | apply Kept.alloc | apply Kept.drewN | apply Kept.drew) | exact HK.out)).1) : w.heap.size ≤ gb151)); have n5_ := Aside0.mk ((by rw [hg]; exact (below_size (by repeat (first | (with_reducible first | exact HB.out | apply bwA | apply bwN | apply bwD) | exact HB.out))) : w0.heap.size ≤ gb151)); clear HO0_1; clear HK; clear HB; have HO0_1 := n0_; have HK := n1_; have HB := n2_; have BK151 := n3_; have GW151 := n4_; have GE151 := n5_; clear n0_ n1_ n2_ n3_ n4_ n5_; clear hb hbox hg) | ((with_reducible refine gate_dst (N := 4) rfl ?_); refine box_event ?hg (N := 4) ?hd (cs := #[.int .i64 0, .slice none 0 0]) (t := 25) ?hr ?_; (case hd => rfl); (case hg => rfl); (case hr => first | (go_simp; done) | (go_simp; rfl)); intro gb152 hg w6 hbox hb; have n0_ := Aside0.mk (Kd.R_below (rvR HO0_1.out) hb); have n1_ := Aside0.mk (blk_below (g := gb151) (o := .cells #[.int .i64 a0_0, .slice Ao4 l0_1.length co4] 25 (0, 0)) (bvK BK151.out) hb); have n2_ := Aside0.mk (Kept.below (S := (fun k_ => P0_1_ k_)) (by repeat (first | (with_reducible first | exact HK.out | apply Kept.alloc | apply Kept.drewN | apply Kept.drew | refine Kept.setCell ?_ (.inr GW151.out) _) | exact HK.out)) hb); have n3_ := Aside0.mk (below_step (by repeat (first | (with_reducible first | exact HB.out | apply bwA | apply bwN | apply bwD | refine below_set ?_ GE151.out) | exact HB.out)) hb); have n4_ := Aside0.mk (hbox); have n5_ := Aside0.mk ((by rw [hg]; exact (by first | exact HK.out.1 | exact (show Kept w _ (fun k_ => P0_1_ k_) from by repeat (first | (with_reducible first | exact HK.out | apply Kept.alloc | apply Kept.drewN | apply Kept.drew | refine Kept.setCell ?_ (.inr GW151.out) _) | exact HK.out)).1) : w.heap.size ≤ gb152)); have n6_ := Aside0.mk ((by rw [hg]; exact (below_size (by repeat (first | (with_reducible first | exact HB.out | apply bwA | apply bwN | apply bwD | refine below_set ?_ GE151.out) | exact HB.out))) : w0.heap.size ≤ gb152)); have n7_ := Aside0.mk ((by rw [hg]; exact Nat.ne_of_lt (blk_lt (g := gb151) (o := .cells #[.int .i64 a0_0, .slice Ao4 l0_1.length co4] 25 (0, 0)) (bvK BK151.out)) : gb151 ≠ gb152)); have n8_ := Aside0.mk ((by rw [hg]; exact Nat.ne_of_gt (blk_lt (g := gb151) (o := .cells #[.int .i64 a0_0, .slice Ao4 l0_1.length co4] 25 (0, 0)) (bvK BK151.out)) : gb152 ≠ gb151)); clear HO0_1; clear BK151; clear HK; clear HB; have HO0_1 := n0_; have BK151 := n1_; have HK := n2_; have HB := n3_; have BK152 := n4_; have GW152 := n5_; have GE152 := n6_; have NB151_152 := n7_; have NB152_151 := n8_; clear n0_ n1_ n2_ n3_ n4_ n5_ n6_ n7_ n8_; clear hb hbox hg; have hnb7 := NB152_151.out; have hnc7 := NB151_152.out; have hcz8_0 : w6.cell? ⟨gb152, 0, none⟩ = some (.int .i64 0) := (blk_cell BK152.out 0).trans rfl; have hcz8_1 : w6.cell? ⟨gb152, 1, none⟩ = some (.slice none 0 0) := (blk_cell BK152.out 1).trans rfl; have hfz8_0 := blk_frozen BK152.out 0; have hfz8_1 := blk_frozen BK152.out 1))
  refine bodyPost_ret (results_ct rfl _ _ gb152 25 #[.int .i64 0, .slice none 0 0] (0, 0) _ rfl (by (with_reducible repeat (first | refine blk_drewN ?_ _ | refine blk_drew ?_ | refine blk_alloc ?_ _)); refine blk_put (cs := #[.int .i64 0, .slice none 0 0]) ?_ 1 _ rfl; (with_reducible repeat (first | refine blk_drewN ?_ _ | refine blk_drew ?_ | refine blk_alloc ?_ _)); refine blk_put (cs := #[.int .i64 0, .slice none 0 0]) ?_ 0 _ rfl; (with_reducible repeat (first | refine blk_drewN ?_ _ | refine blk_drew ?_ | refine blk_alloc ?_ _)); exact BK152.out) Try.underlying25 rfl (by kernel_rfl)) rfl ?_
  exact ⟨_, ers, by first | exact Kd.R_nil _ _ _ _ _ | exact Kd.N_nil _ _ _ _ _ | exact Kd.V_nil _ _ _ _ _ | exact Kd.Q_nil _ _ _ _ _ | exact Kd.S_nil _ _ _ _ _, by repeat (first | (with_reducible first | exact HB.out | apply bwA | apply bwN | apply bwD | refine below_set ?_ GE151.out | refine below_set ?_ GE152.out) | exact HB.out), by repeat (first | (with_reducible first | exact HK.out | apply Kept.alloc | apply Kept.drewN | apply Kept.drew | refine Kept.setCell ?_ (.inr GW151.out) _ | refine Kept.setCell ?_ (.inr GW152.out) _) | exact HK.out)⟩
 ·rw [if_neg c3] at H
  have c3b0 : decide (a1 < 0) = false := decide_eq_false c3
  clear c3
  simp only [Option.some.injEq, Prod.mk.injEq] at H
  obtain ⟨rfl, rfl, rfl⟩ := H
  obtain ⟨Ao9, co9, eo9⟩ := Kd.R_slice HO0_1.out
  subst eo9
  go_enter Try.func62, Try.ntmps62
  go_wp2_with (first | ((with_reducible refine gate_dst (N := 2) rfl ?_); refine box_event ?hg (N := 2) ?hd (cs := #[.int .i64 a0_0, .slice Ao9 l0_1.length co9]) (t := 25) ?hr ?_; (case hd => rfl); (case hg => rfl); (case hr => first | (go_simp; done) | (go_simp; rfl)); intro gb151 hg w10 hbox hb; have n0_ := Aside0.mk (Kd.R_below (rvR HO0_1.out) hb); have n1_ := Aside0.mk (Kept.below (S := (fun k_ => P0_1_ k_)) (by repeat (first | (with_reducible first | exact HK.out | apply Kept.alloc | apply Kept.drewN | apply Kept.drew) | exact HK.out)) hb); have n2_ := Aside0.mk (below_step (by repeat (first | (with_reducible first | exact HB.out | apply bwA | apply bwN | apply bwD) | exact HB.out)) hb); have n3_ := Aside0.mk (hbox); have n4_ := Aside0.mk ((by rw [hg]; exact (by first | exact HK.out.1 | exact (show Kept w _ (fun k_ => P0_1_ k_) from by repeat (first | (with_reducible first | exact HK.out | apply Kept.alloc | apply Kept.drewN | apply Kept.drew) | exact HK.out)).1) : w.heap.size ≤ gb151)); have n5_ := Aside0.mk ((by rw [hg]; exact (below_size (by repeat (first | (with_reducible first | exact HB.out | apply bwA | apply bwN | apply bwD) | exact HB.out))) : w0.heap.size ≤ gb151)); clear HO0_1; clear HK; clear HB; have HO0_1 := n0_; have HK := n1_; have HB := n2_; have BK151 := n3_; have GW151 := n4_; have GE151 := n5_; clear n0_ n1_ n2_ n3_ n4_ n5_; clear hb hbox hg) | ((with_reducible refine gate_dst (N := 4) rfl ?_); refine box_event ?hg (N := 4) ?hd (cs := #[.int .i64 0, .slice none 0 0]) (t := 25) ?hr ?_; (case hd => rfl); (case hg => rfl); (case hr => first | (go_simp; done) | (go_simp; rfl)); intro gb152 hg w11 hbox hb; have n0_ := Aside0.mk (Kd.R_below (rvR HO0_1.out) hb); have n1_ := Aside0.mk (blk_below (g := gb151) (o := .cells #[.int .i64 a0_0, .slice Ao9 l0_1.length co9] 25 (0, 0)) (bvK BK151.out) hb); have n2_ := Aside0.mk (Kept.below (S := (fun k_ => P0_1_ k_)) (by repeat (first | (with_reducible first | exact HK.out | apply Kept.alloc | apply Kept.drewN | apply Kept.drew | refine Kept.setCell ?_ (.inr GW151.out) _) | exact HK.out)) hb); have n3_ := Aside0.mk (below_step (by repeat (first | (with_reducible first | exact HB.out | apply bwA | apply bwN | apply bwD | refine below_set ?_ GE151.out) | exact HB.out)) hb); have n4_ := Aside0.mk (hbox); have n5_ := Aside0.mk ((by rw [hg]; exact (by first | exact HK.out.1 | exact (show Kept w _ (fun k_ => P0_1_ k_) from by repeat (first | (with_reducible first | exact HK.out | apply Kept.alloc | apply Kept.drewN | apply Kept.drew | refine Kept.setCell ?_ (.inr GW151.out) _) | exact HK.out)).1) : w.heap.size ≤ gb152)); have n6_ := Aside0.mk ((by rw [hg]; exact (below_size (by repeat (first | (with_reducible first | exact HB.out | apply bwA | apply bwN | apply bwD | refine below_set ?_ GE151.out) | exact HB.out))) : w0.heap.size ≤ gb152)); have n7_ := Aside0.mk ((by rw [hg]; exact Nat.ne_of_lt (blk_lt (g := gb151) (o := .cells #[.int .i64 a0_0, .slice Ao9 l0_1.length co9] 25 (0, 0)) (bvK BK151.out)) : gb151 ≠ gb152)); have n8_ := Aside0.mk ((by rw [hg]; exact Nat.ne_of_gt (blk_lt (g := gb151) (o := .cells #[.int .i64 a0_0, .slice Ao9 l0_1.length co9] 25 (0, 0)) (bvK BK151.out)) : gb152 ≠ gb151)); clear HO0_1; clear BK151; clear HK; clear HB; have HO0_1 := n0_; have BK151 := n1_; have HK := n2_; have HB := n3_; have BK152 := n4_; have GW152 := n5_; have GE152 := n6_; have NB151_152 := n7_; have NB152_151 := n8_; clear n0_ n1_ n2_ n3_ n4_ n5_ n6_ n7_ n8_; clear hb hbox hg; have hnb12 := NB151_152.out; have hnc12 := NB152_151.out; have hcz13_0 : w11.cell? ⟨gb151, 0, none⟩ = some (.int .i64 a0_0) := (blk_cell BK151.out 0).trans rfl; have hcz13_1 : w11.cell? ⟨gb151, 1, none⟩ = some (.slice Ao9 l0_1.length co9) := (blk_cell BK151.out 1).trans rfl; have hfz13_0 := blk_frozen BK151.out 0; have hfz13_1 := blk_frozen BK151.out 1; have hcz14_0 : w11.cell? ⟨gb152, 0, none⟩ = some (.int .i64 0) := (blk_cell BK152.out 0).trans rfl; have hcz14_1 : w11.cell? ⟨gb152, 1, none⟩ = some (.slice none 0 0) := (blk_cell BK152.out 1).trans rfl; have hfz14_0 := blk_frozen BK152.out 0; have hfz14_1 := blk_frozen BK152.out 1))
  refine bodyPost_ret (results_ct rfl _ _ gb152 25 #[.int .i64 a0_0, .slice Ao9 l0_1.length co9] (0, 0) _ rfl (by (with_reducible repeat (first | refine blk_drewN ?_ _ | refine blk_drew ?_ | refine blk_alloc ?_ _)); refine blk_put (cs := #[.int .i64 a0_0, .slice none 0 0]) ?_ 1 _ rfl; (with_reducible repeat (first | refine blk_drewN ?_ _ | refine blk_drew ?_ | refine blk_alloc ?_ _)); refine blk_put (cs := #[.int .i64 0, .slice none 0 0]) ?_ 0 _ rfl; (with_reducible repeat (first | refine blk_drewN ?_ _ | refine blk_drew ?_ | refine blk_alloc ?_ _)); exact BK152.out) Try.underlying25 rfl (by kernel_rfl)) rfl ?_
  exact ⟨_, ers, by (with_reducible repeat (first | apply Kd.R_alloc | apply Kd.R_drewN | apply Kd.R_drew)); exact Kd.R_mono (Kd.R_far (p := ⟨gb152, 1, none⟩) (Kd.R_far (p := ⟨gb152, 0, none⟩) (Kd.R_types HO0_1.out BK152.out (by decide)) (fun _ hk => hk.2) (.int .i64 a0_0)) (fun _ hk => hk.2) (.slice Ao9 l0_1.length co9)) (fun _ hk => hk.1), by repeat (first | (with_reducible first | exact HB.out | apply bwA | apply bwN | apply bwD | refine below_set ?_ GE151.out | refine below_set ?_ GE152.out) | exact HB.out), by repeat (first | (with_reducible first | exact HK.out | apply Kept.alloc | apply Kept.drewN | apply Kept.drew | refine Kept.setCell ?_ (.inr GW151.out) _ | refine Kept.setCell ?_ (.inr GW152.out) _) | exact HK.out)⟩

/-! ### spec_l8Add: function 60 -/
def spec_l8Add.f (a0_0 : Int) (l0_1 : List S71) (v lo hi : Int) : Option (Int × List S71 × Int) :=
 if lo < 0 ∨ hi < 0 then some (a0_0, l0_1, -1) else if lo = hi then some (a0_0, l0_1, lo) else if l0_1.length ≤ 1000000000000 then
  match l0_1.findIdx? (fun y => decide (y = ⟨v, lo, hi⟩)) with
  | some i => some (a0_0, l0_1, (i : Int) + 2)
  | none => if 2000 ≤ l0_1.length then some (a0_0, l0_1, -1) else some (a0_0, l0_1 ++ [⟨v, lo, hi⟩], (l0_1.length : Int) + 2)
 else none
theorem spec_l8Add.find_at {l : List S71} {x : S71} {i : Nat} (hi : i < l.length) (h : l[i] = x) (hn : ∀ q (hq : q < l.length), q < i → l[q] ≠ x) : l.findIdx? (fun y => decide (y = x)) = some i := by
 rw [List.findIdx?_eq_some_iff_getElem]
 exact ⟨hi, decide_eq_true h, fun j hj => by simpa using hn j (by omega) hj⟩
theorem spec_l8Add.find_no {l : List S71} {x : S71} (hn : ∀ q (hq : q < l.length), l[q] ≠ x) : l.findIdx? (fun y => decide (y = x)) = none := by
 rw [List.findIdx?_eq_none_iff]
 intro y hy
 obtain ⟨q, hq, rfl⟩ := List.mem_iff_getElem.1 hy
 simpa using hn q hq
theorem k71_E : k71.E = [] := rfl
set_option maxHeartbeats 8000000 in
set_option maxRecDepth 100000 in
theorem spec_l8Add.strong (a0_0 : Int) (ok : Nat → Prop) (u : Value) (l : List S71) (v lo hi r1 : Int) (r2 : List S71) (r3 : Int) (w0 w : World) (hB : Below w0.heap.size w0 w) (ho : Kd.R k71 71 w w0.heap.size ok u l) (hf : ∀ k, w.heap.size ≤ k → ok k) (h : spec_l8Add.f a0_0 l v lo hi = some (r1, r2, r3)) :
  Calls Try.prog 60 #[.agg #[.int .i64 a0_0, u], .int .i64 v, .int .i64 lo, .int .i64 hi] w fun e w' => ∃ v1 : Value, e = .returned (.tuple #[.agg #[.int .i64 r1, v1], .int .i64 r3]) ∧ Kd.R k71 71 w' w0.heap.size ok v1 r2 ∧ Below w0.heap.size w0 w' ∧ Kept w w' (fun k_ => u.ownBlock = some k_) ∧ Ap.Stays k71 71 w0.heap.size w u l w' v1 r2 := by
 have hu25 := Try.underlying25
 have hu71 := Try.underlying71
 obtain ⟨A, c, rfl⟩ := Kd.R_slice ho
 have HR := Aside0.mk ho
 have HB := Aside0.mk hB
 have HF := Aside0.mk hf
 unfold spec_l8Add.f at h
 clear ho hB hf
 by_cases c1 : lo < 0 ∨ hi < 0
 ·rw [if_pos c1] at h
  simp only [Option.some.injEq, Prod.mk.injEq] at h
  obtain ⟨rfl, rfl, rfl⟩ := h
  have key : (decide (lo < 0) = true ∧ True) ∨ (decide (lo < 0) = false ∧ decide (hi < 0) = true) := by
   by_cases c2 : lo < 0
   ·exact .inl ⟨decide_eq_true c2, trivial⟩
   ·exact .inr ⟨decide_eq_false c2, decide_eq_true (by omega)⟩
  clear c1
  rcases key with ⟨e1, e2⟩ | ⟨e1, e2⟩
  all_goals
   go_enter Try.func60, Try.ntmps60
   go_wp2_with (first | ((with_reducible refine gate_dst (N := 4) rfl ?_); refine box_event ?hg (N := 4) ?hd (cs := #[.int .i64 a0_0, .slice A l.length c]) (t := 25) ?hr ?_; (case hd => rfl); (case hg => rfl); (case hr => first | (go_simp; done) | (go_simp; rfl)); intro g0 hg0 w1 hbox hb; have BD1 := Aside0.mk hbox; have HB1 := Aside0.mk hb; have GD := Aside0.mk (show w.heap.size ≤ g0 from Nat.le_of_eq hg0.symm); clear hg0 hbox hb) | ((with_reducible refine gate_dst (N := 8) rfl ?_); refine box_event ?hg (N := 8) ?hd (cs := #[.int .i64 0, .slice none 0 0]) (t := 25) ?hr ?_; (case hd => rfl); (case hg => rfl); (case hr => first | (go_simp; done) | (go_simp; rfl)); intro gr hgr w2 hbox hb; have GR := Aside0.mk (show w.heap.size ≤ gr by rw [hgr]; exact HB1.out.size); have BR2 := Aside0.mk hbox; have GRD := Aside0.mk (show gr ≠ g0 from fun e_ => by have := blk_lt BD1.out; omega); have BD2 := Aside0.mk (blk_below BD1.out hb); have HB2 := Aside0.mk (below_step HB1.out hb); have d20 : w2.cell? ⟨g0, 0, none⟩ = some (.int .i64 a0_0) := (blk_cell BD2.out 0).trans rfl; have d21 : w2.cell? ⟨g0, 1, none⟩ = some (.slice A l.length c) := (blk_cell BD2.out 1).trans rfl; have r20 : w2.cell? ⟨gr, 0, none⟩ = some (.int .i64 0) := (blk_cell BR2.out 0).trans rfl; have r21 : w2.cell? ⟨gr, 1, none⟩ = some (.slice none 0 0) := (blk_cell BR2.out 1).trans rfl; have q20 := blk_frozen BR2.out 0; have q21 := blk_frozen BR2.out 1; clear hgr hbox hb))
   have HE := below_set (below_set HB2.out GR.out (j := 0) (v := .int .i64 a0_0)) GR.out (j := 1) (v := .slice A l.length c)
   refine bodyPost_ret (results_ct rfl _ _ gr 25 #[.int .i64 a0_0, .slice A l.length c] (0, 0) _ rfl (blk_put (blk_put BR2.out 0 _ rfl) 1 _ rfl) Try.underlying25 rfl (by kernel_rfl)) rfl ?_
   exact ⟨_, rfl, Kd.R_below HR.out HE, below_then HB.out HB.out.size HE, Kept.of_below HE _, Ap.Stays.refl HE⟩
 rw [if_neg c1] at h
 have e1 : decide (lo < 0) = false := decide_eq_false (by omega)
 have e2 : decide (hi < 0) = false := decide_eq_false (by omega)
 clear c1
 by_cases c2 : lo = hi
 ·rw [if_pos c2] at h
  simp only [Option.some.injEq, Prod.mk.injEq] at h
  obtain ⟨rfl, rfl, rfl⟩ := h
  have e3 : (lo == hi) = true := beq_iff_eq.mpr c2
  clear c2
  go_enter Try.func60, Try.ntmps60
  go_wp2_with (first | ((with_reducible refine gate_dst (N := 4) rfl ?_); refine box_event ?hg (N := 4) ?hd (cs := #[.int .i64 a0_0, .slice A l.length c]) (t := 25) ?hr ?_; (case hd => rfl); (case hg => rfl); (case hr => first | (go_simp; done) | (go_simp; rfl)); intro g0 hg0 w1 hbox hb; have BD1 := Aside0.mk hbox; have HB1 := Aside0.mk hb; have GD := Aside0.mk (show w.heap.size ≤ g0 from Nat.le_of_eq hg0.symm); clear hg0 hbox hb) | ((with_reducible refine gate_dst (N := 8) rfl ?_); refine box_event ?hg (N := 8) ?hd (cs := #[.int .i64 0, .slice none 0 0]) (t := 25) ?hr ?_; (case hd => rfl); (case hg => rfl); (case hr => first | (go_simp; done) | (go_simp; rfl)); intro gr hgr w2 hbox hb; have GR := Aside0.mk (show w.heap.size ≤ gr by rw [hgr]; exact HB1.out.size); have BR2 := Aside0.mk hbox; have GRD := Aside0.mk (show gr ≠ g0 from fun e_ => by have := blk_lt BD1.out; omega); have BD2 := Aside0.mk (blk_below BD1.out hb); have HB2 := Aside0.mk (below_step HB1.out hb); have d20 : w2.cell? ⟨g0, 0, none⟩ = some (.int .i64 a0_0) := (blk_cell BD2.out 0).trans rfl; have d21 : w2.cell? ⟨g0, 1, none⟩ = some (.slice A l.length c) := (blk_cell BD2.out 1).trans rfl; have r20 : w2.cell? ⟨gr, 0, none⟩ = some (.int .i64 0) := (blk_cell BR2.out 0).trans rfl; have r21 : w2.cell? ⟨gr, 1, none⟩ = some (.slice none 0 0) := (blk_cell BR2.out 1).trans rfl; have q20 := blk_frozen BR2.out 0; have q21 := blk_frozen BR2.out 1; clear hgr hbox hb))
  have HE := below_set (below_set HB2.out GR.out (j := 0) (v := .int .i64 a0_0)) GR.out (j := 1) (v := .slice A l.length c)
  refine bodyPost_ret (results_ct rfl _ _ gr 25 #[.int .i64 a0_0, .slice A l.length c] (0, 0) _ rfl (blk_put (blk_put BR2.out 0 _ rfl) 1 _ rfl) Try.underlying25 rfl (by kernel_rfl)) rfl ?_
  exact ⟨_, rfl, Kd.R_below HR.out HE, below_then HB.out HB.out.size HE, Kept.of_below HE _, Ap.Stays.refl HE⟩
 rw [if_neg c2] at h
 have e3 : (lo == hi) = false := beq_eq_false_iff_ne.mpr c2
 clear c2
 by_cases c3 : l.length ≤ 1000000000000
 ·rw [if_pos c3] at h
  have C3 := Aside0.mk c3
  have H := Aside0.mk h
  clear c3 h
  go_enter Try.func60, Try.ntmps60
  go_wp2_with (first | ((with_reducible refine gate_dst (N := 4) rfl ?_); refine box_event ?hg (N := 4) ?hd (cs := #[.int .i64 a0_0, .slice A l.length c]) (t := 25) ?hr ?_; (case hd => rfl); (case hg => rfl); (case hr => first | (go_simp; done) | (go_simp; rfl)); intro g0 hg0 w1 hbox hb; have BD1 := Aside0.mk hbox; have HB1 := Aside0.mk hb; have GD := Aside0.mk (show w.heap.size ≤ g0 from Nat.le_of_eq hg0.symm); clear hg0 hbox hb) | ((with_reducible refine gate_dst (N := 8) rfl ?_); refine box_event ?hg (N := 8) ?hd (cs := #[.int .i64 0, .slice none 0 0]) (t := 25) ?hr ?_; (case hd => rfl); (case hg => rfl); (case hr => first | (go_simp; done) | (go_simp; rfl)); intro gr hgr w2 hbox hb; have GR := Aside0.mk (show w.heap.size ≤ gr by rw [hgr]; exact HB1.out.size); have BR2 := Aside0.mk hbox; have GRD := Aside0.mk (show gr ≠ g0 from fun e_ => by have := blk_lt BD1.out; omega); have BD2 := Aside0.mk (blk_below BD1.out hb); have HB2 := Aside0.mk (below_step HB1.out hb); have d20 : w2.cell? ⟨g0, 0, none⟩ = some (.int .i64 a0_0) := (blk_cell BD2.out 0).trans rfl; have d21 : w2.cell? ⟨g0, 1, none⟩ = some (.slice A l.length c) := (blk_cell BD2.out 1).trans rfl; have r20 : w2.cell? ⟨gr, 0, none⟩ = some (.int .i64 0) := (blk_cell BR2.out 0).trans rfl; have r21 : w2.cell? ⟨gr, 1, none⟩ = some (.slice none 0 0) := (blk_cell BR2.out 1).trans rfl; have q20 := blk_frozen BR2.out 0; have q21 := blk_frozen BR2.out 1; clear hgr hbox hb) | ((with_reducible refine gate_dst (N := 10) rfl ?_); refine box_event ?hg (N := 10) ?hd (cs := #[.int .i64 0, .int .i64 0, .int .i64 0]) (t := 71) ?hr ?_; (case hd => rfl); (case hg => rfl); (case hr => first | (go_simp; done) | (go_simp; rfl)); intro gb hgb w3 hbox hb; have BX3 := Aside0.mk hbox; have BD3 := Aside0.mk (blk_below BD2.out hb); have BR3 := Aside0.mk (blk_below BR2.out hb); have HB3 := Aside0.mk (below_step HB2.out hb); have GB := Aside0.mk (And.intro (show w.heap.size ≤ gb by rw [hgb]; exact HB2.out.size) (And.intro (show gr ≠ gb from fun e_ => by have := blk_lt BR2.out; omega) (show g0 ≠ gb from fun e_ => by have := blk_lt BD2.out; omega))); have z30 : w3.cell? ⟨gb, 0, none⟩ = some (.int .i64 0) := (blk_cell BX3.out 0).trans rfl; have z31 : w3.cell? ⟨gb, 1, none⟩ = some (.int .i64 0) := (blk_cell BX3.out 1).trans rfl; have z32 : w3.cell? ⟨gb, 2, none⟩ = some (.int .i64 0) := (blk_cell BX3.out 2).trans rfl; have y30 := blk_frozen BX3.out 0; have y31 := blk_frozen BX3.out 1; have y32 := blk_frozen BX3.out 2; clear hgb hbox hb))
  have n0 := Aside0.mk (below_set (below_set (below_set HB3.out GB.out.1 (j := 0) (v := .int .i64 v)) GB.out.1 (j := 1) (v := .int .i64 lo)) GB.out.1 (j := 2) (v := .int .i64 hi))
  have n1 := Aside0.mk (blk_put (blk_put (blk_put BX3.out 0 (.int .i64 v) rfl) 1 (.int .i64 lo) rfl) 2 (.int .i64 hi) rfl)
  have n2 := Aside0.mk (blk_far (p := ⟨gb, 2, none⟩) (blk_far (p := ⟨gb, 1, none⟩) (blk_far (p := ⟨gb, 0, none⟩) BD3.out GB.out.2.2 (.int .i64 v)) GB.out.2.2 (.int .i64 lo)) GB.out.2.2 (.int .i64 hi))
  have n3 := Aside0.mk (blk_far (p := ⟨gb, 2, none⟩) (blk_far (p := ⟨gb, 1, none⟩) (blk_far (p := ⟨gb, 0, none⟩) BR3.out GB.out.2.1 (.int .i64 v)) GB.out.2.1 (.int .i64 lo)) GB.out.2.1 (.int .i64 hi))
  generalize (((w3.setCell ⟨gb, 0, none⟩ (.int .i64 v)).setCell ⟨gb, 1, none⟩ (.int .i64 lo)).setCell ⟨gb, 2, none⟩ (.int .i64 hi)) = w4 at n0 n1 n2 n3 ⊢
  clear z30 z31 z32 y30 y31 y32 BX3 BD3 BR3 HB3
  go_loopg [11] l.length (fun gg s11 wr => ∃ (i : Nat), s11 = .int .i64 (i : Int) ∧ Aside0 (i + gg = l.length) ∧ Aside0 (∀ q (hq : q < l.length), q < i → l[q] ≠ ⟨v, lo, hi⟩) ∧ Aside0 (Below w.heap.size w wr) ∧ Aside0 (wr.heap[gb]? = some (.cells #[.int .i64 v, .int .i64 lo, .int .i64 hi] 71 (0, 0))) ∧ Aside0 (wr.heap[g0]? = some (.cells #[.int .i64 a0_0, .slice A l.length c] 25 (0, 0))) ∧ Aside0 (wr.heap[gr]? = some (.cells #[.int .i64 0, .slice none 0 0] 25 (0, 0))))
  case atStart => exact ⟨0, rfl, ⟨by omega⟩, ⟨fun q hq h0 => absurd h0 (by omega)⟩, n0, n1, n2, n3⟩
  case round =>
   clear n0 n1 n2 n3
   obtain ⟨i, rfl, HI, HN, HB5, BX5, BD5, BR5⟩ := hrel
   have d51 : wr.cell? ⟨g0, 1, none⟩ = some (.slice A l.length c) := (blk_cell BD5.out 1).trans rfl
   by_cases c4 : i < l.length
   ·obtain ⟨k1, rfl⟩ : ∃ k1, gk = k1 + 1 := ⟨gk - 1, by have := HI.out; omega⟩
    have c4a : (i : Int) < (l.length : Int) := by omega
    have c4b : decide ((i : Int) < (l.length : Int)) = true := decide_eq_true c4a
    have c4c : (0 : Int) ≤ (i : Int) := by omega
    have c4d : decide ((0 : Int) ≤ (i : Int)) = true := decide_eq_true c4c
    have HR5 := Aside0.mk (Kd.R_below HR.out HB5.out)
    go_wp2
    obtain ⟨ad, rfl, hx0, hx1, hx2⟩ := at_T71 (Kd.R_reads' (Kd.R_drew HR5.out)).2.2 (i : Int) c4c c4a
    have hget : rd_T71 l (i : Int) = l[i] := by unfold rd_T71; rw [List.getD_eq_getElem?_getD, Int.toNat_natCast, List.getElem?_eq_getElem c4]; rfl
    simp only [Int.toNat_natCast, hget] at hx0 hx1 hx2
    refine start_ (n := 7) (S := fun w' => w'.cell? ⟨g0, 1, none⟩ = some (.slice (some ad) l.length c) ∧ w'.cell? ⟨gb, 0, none⟩ = some (.int .i64 v) ∧ w'.cell? ⟨gb, 1, none⟩ = some (.int .i64 lo) ∧ w'.cell? ⟨gb, 2, none⟩ = some (.int .i64 hi) ∧ w'.cell? (ad.add (i * 3)) = some (.int .i64 l[i].f0) ∧ w'.cell? ⟨(ad.add (i * 3)).block, (ad.add (i * 3)).off + 1, none⟩ = some (.int .i64 l[i].f1) ∧ w'.cell? ⟨(ad.add (i * 3)).block, (ad.add (i * 3)).off + 2, none⟩ = some (.int .i64 l[i].f2)) (ds := []) (Pt.bm 7 0) (by kernel_rfl) rfl rfl ⟨(blk_cell BD5.out 1).trans rfl, (blk_cell BX5.out 0).trans rfl, (blk_cell BX5.out 1).trans rfl, (blk_cell BX5.out 2).trans rfl, hx0, hx1, hx2⟩ (fun hHeld => ?_)
    have HB6 := Aside0.mk (below_step HB5.out (below_drew (Below.refl _ _)))
    have BX6 := Aside0.mk (blk_drew BX5.out)
    have BD6 := Aside0.mk (blk_drew BD5.out)
    have BR6 := Aside0.mk (blk_drew BR5.out)
    clear d51 hx0 hx1 hx2 HB5 BX5 BD5 BR5 HR5
    generalize wr.drew = w6 at HB6 BX6 BD6 BR6 hHeld ⊢
    refine Pt.pu 0 (some 35) (Pt.bm 7 1) (by kernel_rfl) ?_
    refine Pt.tk 1 (some 36) (Pt.bm 7 3) rfl rfl (by kernel_rfl) hHeld (Or.inl ⟨by rfl, by rintro w' ⟨s0, s1, s2, s3, s4, s5, s6⟩; go_simp; with_reducible rfl⟩) ?_
    refine Pt.pu 2 (some 37) (Pt.bm 7 7) (by kernel_rfl) ?_
    refine Pt.pu 3 (some 38) (Pt.bm 7 15) (by kernel_rfl) ?_
    refine Pt.tk 4 (some 39) (Pt.bm 7 31) rfl rfl (by kernel_rfl) hHeld (Or.inl ⟨by rfl, by rintro w' ⟨s0, s1, s2, s3, s4, s5, s6⟩; go_simp; with_reducible rfl⟩) ?_
    refine Pt.tk 5 (some 40) (Pt.bm 7 63) rfl rfl (by kernel_rfl) hHeld (Or.inl ⟨by rfl, by rintro w' ⟨s0, s1, s2, s3, s4, s5, s6⟩; go_simp; with_reducible rfl⟩) ?_
    by_cases c5 : l[i] = ⟨v, lo, hi⟩
    ·have H2 := H.out
     rw [spec_l8Add.find_at c4 c5 HN.out] at H2
     refine Pt.pu 6 (some 41) (v := .bool true) (Pt.bm 7 127) (by kernel_rfl) ?_ (hy := Or.inl ⟨by rfl, by
      intro w'
      go_simp
      try simp [c5]⟩)
     refine done_ (by kernel_rfl) ?_
     clear hHeld
     have d60 : w6.cell? ⟨g0, 0, none⟩ = some (.int .i64 a0_0) := (blk_cell BD6.out 0).trans rfl
     have d61 : w6.cell? ⟨g0, 1, none⟩ = some (.slice (some ad) l.length c) := (blk_cell BD6.out 1).trans rfl
     simp only [Option.some.injEq, Prod.mk.injEq] at H2
     obtain ⟨rfl, rfl, rfl⟩ := H2
     have hw1 : wrap64 ((i : Int) + 2) = (i : Int) + 2 := by have := C3.out; unfold wrap64; omega
     have hw1' : (IntKind.i64.wrap ((i : Int) + 2)) = (i : Int) + 2 := (i64_w _).trans hw1
     have r60 : w6.cell? ⟨gr, 0, none⟩ = some (.int .i64 0) := (blk_cell BR6.out 0).trans rfl
     have r61 : w6.cell? ⟨gr, 1, none⟩ = some (.slice none 0 0) := (blk_cell BR6.out 1).trans rfl
     have q60 := blk_frozen BR6.out 0
     have q61 := blk_frozen BR6.out 1
     clear c5
     go_wp2
     have HE := below_set (below_set HB6.out GR.out (j := 0) (v := .int .i64 a0_0)) GR.out (j := 1) (v := .slice (some ad) l.length c)
     refine bodyPost_ret (results_ct rfl _ _ gr 25 #[.int .i64 a0_0, .slice (some ad) l.length c] (0, 0) _ rfl (blk_put (blk_put BR6.out 0 _ rfl) 1 _ rfl) Try.underlying25 rfl (by kernel_rfl)) rfl ?_
     exact ⟨_, rfl, Kd.R_below HR.out HE, below_then HB.out HB.out.size HE, Kept.of_below HE _, Ap.Stays.refl HE⟩
    ·skip
     refine Pt.pu 6 (some 41) (v := .bool false) (Pt.bm 7 127) (by kernel_rfl) ?_ (hy := Or.inl ⟨by rfl, by
      intro w'
      go_simp
      revert c5
      generalize l[i] = x
      obtain ⟨x0, x1, x2⟩ := x
      intro c5
      by_cases q0 : x0 = v <;> by_cases q1 : x1 = lo <;> by_cases q2 : x2 = hi <;> simp_all⟩)
     refine done_ (by kernel_rfl) ?_
     clear hHeld
     have d60 : w6.cell? ⟨g0, 0, none⟩ = some (.int .i64 a0_0) := (blk_cell BD6.out 0).trans rfl
     have d61 : w6.cell? ⟨g0, 1, none⟩ = some (.slice (some ad) l.length c) := (blk_cell BD6.out 1).trans rfl
     have hw1 : wrap64 ((i : Int) + 1) = (i : Int) + 1 := by have := C3.out; unfold wrap64; omega
     have hw1' : (IntKind.i64.wrap ((i : Int) + 1)) = (i : Int) + 1 := (i64_w _).trans hw1
     have C5 := Aside0.mk c5
     clear c5
     go_wp2
     go_roundg k1
     case measure => exact Nat.lt_succ_self _
     case rel => exact ⟨i + 1, by first | rfl | (simp only [Int.natCast_add]; rfl) | simp [hw1, hw1'], ⟨by have := HI.out; omega⟩, ⟨fun q hq hqi => by
      by_cases e_ : q = i
      ·subst e_
       exact C5.out
      ·exact HN.out q hq (by omega)⟩, HB6, BX6, BD6, BR6⟩
   ·have hi : i = l.length := by have := HI.out; omega
    subst hi
    have hfn := spec_l8Add.find_no (fun q hq => HN.out q hq hq)
    have H2 := H.out
    rw [hfn] at H2
    have c4b : decide ((l.length : Int) < (l.length : Int)) = false := decide_eq_false (by omega)
    by_cases c6 : 2000 ≤ l.length
    ·simp only [if_pos c6, Option.some.injEq, Prod.mk.injEq] at H2
     obtain ⟨rfl, rfl, rfl⟩ := H2
     have c6b : decide (2000 ≤ (l.length : Int)) = true := decide_eq_true (by omega)
     have d50 : wr.cell? ⟨g0, 0, none⟩ = some (.int .i64 a0_0) := (blk_cell BD5.out 0).trans rfl
     have r50 : wr.cell? ⟨gr, 0, none⟩ = some (.int .i64 0) := (blk_cell BR5.out 0).trans rfl
     have r51 : wr.cell? ⟨gr, 1, none⟩ = some (.slice none 0 0) := (blk_cell BR5.out 1).trans rfl
     have q50 := blk_frozen BR5.out 0
     have q51 := blk_frozen BR5.out 1
     clear c6
     go_wp2
     have HE := below_set (below_set HB5.out GR.out (j := 0) (v := .int .i64 a0_0)) GR.out (j := 1) (v := .slice A l.length c)
     refine bodyPost_ret (results_ct rfl _ _ gr 25 #[.int .i64 a0_0, .slice A l.length c] (0, 0) _ rfl (blk_put (blk_put BR5.out 0 _ rfl) 1 _ rfl) Try.underlying25 rfl (by kernel_rfl)) rfl ?_
     exact ⟨_, rfl, Kd.R_below HR.out HE, below_then HB.out HB.out.size HE, Kept.of_below HE _, Ap.Stays.refl HE⟩
    ·simp only [if_neg c6, Option.some.injEq, Prod.mk.injEq] at H2
     obtain ⟨rfl, rfl, rfl⟩ := H2
     have c6b : decide (2000 ≤ (l.length : Int)) = false := decide_eq_false (by omega)
     have C6 := Aside0.mk c6
     have HR5 := Aside0.mk (Kd.R_below HR.out HB5.out)
     have x50 : wr.cell? ⟨gb, 0, none⟩ = some (.int .i64 v) := (blk_cell BX5.out 0).trans rfl
     have x51 : wr.cell? ⟨gb, 1, none⟩ = some (.int .i64 lo) := (blk_cell BX5.out 1).trans rfl
     have x52 : wr.cell? ⟨gb, 2, none⟩ = some (.int .i64 hi) := (blk_cell BX5.out 2).trans rfl
     have d50 : wr.cell? ⟨g0, 0, none⟩ = some (.int .i64 a0_0) := (blk_cell BD5.out 0).trans rfl
     have qd1 := blk_frozen BD5.out 1
     clear c6
     obtain ⟨y, hy⟩ : ∃ y, y = l ++ [(⟨v, lo, hi⟩ : S71)] := ⟨_, rfl⟩
     have hyl : y.length = l.length + 1 := by rw [hy]; simp
     have HY := Aside0.mk hy
     have HYL := Aside0.mk hyl
     clear hy hyl
     go_wp2_with ((with_reducible refine gate_builtin (b := .append) (xs := #[.tmp 51, .tmp 53]) rfl ?_); at_builtin; refine Ap.R_append k71 k71_E (w0 := w0) w0.heap.size rfl (.tmp 51) (.tmp 53) 23 71 (.agg #[(.int .i64 0), (.int .i64 0), (.int .i64 0)]) 24 rfl Try.underlying23 info71 rfl (by decide) (by omega) (.slice A l.length c) l (⟨v, lo, hi⟩ : S71) [.int .i64 v, .int .i64 lo, .int .i64 hi] ok rfl rfl (k71_mkM _ _ _ (⟨v, lo, hi⟩ : S71)) (fun k hk => HF.out k (Nat.le_trans HB5.out.size hk)) HR5.out (below_then HB.out HB.out.size HB5.out) (Nat.le_trans HB.out.size HB5.out.size) (by have := C6.out; omega) ?_; intro v1 w7 ho7 hb7 hg7 _ hs7; obtain ⟨A7, c7, e7⟩ := Kd.R_slice ho7; subst e7; rw [← HY.out] at ho7 hs7 ⊢; have NE7 := Aside0.mk (Kd.R_ne HR5.out BD5.out (by decide)); have NR7 := Aside0.mk (Kd.R_ne HR5.out BR5.out (by decide)); have BD7 := Aside0.mk (blk_grown BD5.out hg7 NE7.out); have BR7 := Aside0.mk (blk_grown BR5.out hg7 NR7.out); have HO7 := Aside0.mk ho7; have HB7 := Aside0.mk hb7; have HK7 := Aside0.mk (Kept.of_grown hg7 (Kept.of_below HB5.out (fun k_ => (Value.slice A l.length c).ownBlock = some k_)) (fun k hk => .inl hk)); have HS7 := Aside0.mk (hs7.from_ HB5.out); have GS7 := Aside0.mk (Nat.le_trans HB5.out.size hg7.size); have d70 : w7.cell? ⟨g0, 0, none⟩ = some (.int .i64 a0_0) := (blk_cell BD7.out 0).trans rfl; have d71 : w7.cell? ⟨g0, 1, none⟩ = some (.slice A l.length c) := (blk_cell BD7.out 1).trans rfl; have qd7 := blk_frozen BD7.out 1; clear ho7 hb7 hg7 hs7)
     have hlw : wrap64 ((y.length : Int) + 1) = (l.length : Int) + 2 := by have := C6.out; have := HYL.out; unfold wrap64; omega
     have hlw' : (IntKind.i64.wrap ((y.length : Int) + 1)) = (l.length : Int) + 2 := (i64_w _).trans hlw
     have n0 := Aside0.mk (blk_put (cs' := #[.int .i64 a0_0, .slice A7 y.length c7]) BD7.out 1 (.slice A7 y.length c7) rfl)
     have n1 := Aside0.mk (blk_far (p := ⟨g0, 1, none⟩) BR7.out (GRD.out) (.slice A7 y.length c7))
     have n2 := Aside0.mk (Kd.R_set HO7.out BD7.out (by decide) 1 (.slice A7 y.length c7))
     have n3 := Aside0.mk (HB7.out.setCell (p := ⟨g0, 1, none⟩) (Nat.le_trans HB.out.size GD.out) (.slice A7 y.length c7))
     have n4 := Aside0.mk (HK7.out.setCell (p := ⟨g0, 1, none⟩) (.inr GD.out) (.slice A7 y.length c7))
     have n5 : Aside0 (Ap.Stays k71 71 w0.heap.size w (.slice A l.length c) l (w7.setCell ⟨g0, 1, none⟩ (.slice A7 y.length c7)) (.slice A7 y.length c7) y) := ⟨fun ok0 u0 xs0 h0 hp => by
      obtain ⟨q1, q2⟩ := HS7.out ok0 u0 xs0 h0 hp
      exact ⟨Kd.R_set q1 BD7.out (by decide) 1 _, q2⟩⟩
     clear d70 d71 qd7 BD7 BR7 HO7 HB7 HK7 HS7
     generalize (w7.setCell ⟨g0, 1, none⟩ (.slice A7 y.length c7)) = w8 at n0 n1 n2 n3 n4 n5 ⊢
     refine start_ (n := 7) (S := fun w' => w'.cell? ⟨g0, 0, none⟩ = some (.int .i64 a0_0) ∧ w'.cell? ⟨g0, 1, none⟩ = some (.slice A7 y.length c7)) (ds := []) (Pt.bm 7 0) (by kernel_rfl) rfl rfl ⟨(blk_cell n0.out 0).trans rfl, (blk_cell n0.out 1).trans rfl⟩ (fun hHeld => ?_)
     have m1 := Aside0.mk (blk_drew n1.out)
     have m2 := Aside0.mk (Kd.R_drew n2.out)
     have m3 := Aside0.mk (below_drew n3.out)
     have m4 := Aside0.mk n4.out.drew
     have m5 := Aside0.mk (n5.out.below (below_drew (Below.refl _ _)))
     clear n0 n1 n2 n3 n4 n5
     generalize w8.drew = w9 at m1 m2 m3 m4 m5 hHeld ⊢
     refine Pt.tk 0 (some 56) (Pt.bm 7 1) rfl rfl (by kernel_rfl) hHeld (Or.inl ⟨by rfl, by rintro w' ⟨s0, s1⟩; go_simp; with_reducible rfl⟩) ?_
     refine Pt.pu 1 (some 57) (Pt.bm 7 3) (by kernel_rfl) ?_
     refine Pt.tk 2 (some 58) (Pt.bm 7 7) rfl rfl (by kernel_rfl) hHeld (Or.inl ⟨by rfl, by rintro w' ⟨s0, s1⟩; go_simp; with_reducible rfl⟩) ?_
     refine Pt.pu 3 (some 59) (Pt.bm 7 15) (by kernel_rfl) ?_
     refine Pt.pu 4 (some 60) (Pt.bm 7 31) (by kernel_rfl) ?_
     refine one_ (i := 5) (N := none) (Pt.bm 7 63) rfl rfl (by kernel_rfl) (by decide) (fun K hK => ?_)
     have hs0 : w9.cell? ⟨gr, 0, none⟩ = some (.int .i64 0) := (blk_cell m1.out 0).trans rfl
     have hs1 : w9.cell? ⟨gr, 1, none⟩ = some (.slice none 0 0) := (blk_cell m1.out 1).trans rfl
     have hfs0 := blk_frozen m1.out 0
     have hfs1 := blk_frozen m1.out 1
     refine skip_ (w1 := ?_) (by rfl) rfl ?_ ?_
     rotate_left
     ·go_simp
      rfl
     refine hK.out _ _ ⟨((cell_far (p := ⟨gr, _, none⟩) GRD.out.symm _).trans ((cell_far (p := ⟨gr, _, none⟩) GRD.out.symm _).trans hHeld.1)), ((cell_far (p := ⟨gr, _, none⟩) GRD.out.symm _).trans ((cell_far (p := ⟨gr, _, none⟩) GRD.out.symm _).trans hHeld.2))⟩ (fun hHeld => ?_)
     clear hK K hs0 hs1 hfs0 hfs1
     refine Pt.pu 6 (some 9) (Pt.bm 7 127) (by kernel_rfl) ?_
     refine done_ (by kernel_rfl) ?_
     try go_wp2
     refine bodyPost_ret (results_ct rfl _ _ gr 25 #[.int .i64 a0_0, .slice A7 y.length c7] (0, 0) _ rfl (blk_put (blk_put m1.out 0 _ rfl) 1 _ rfl) Try.underlying25 rfl (by kernel_rfl)) rfl ?_
     rw [← HY.out]
     refine ⟨_, by first | rfl | simp [hlw, hlw'], Kd.R_set (Kd.R_set m2.out m1.out (by decide) 0 _) (blk_put m1.out 0 _ rfl) (by decide) 1 _, (m3.out.setCell (p := ⟨gr, 0, none⟩) (Nat.le_trans HB.out.size GR.out) _).setCell (p := ⟨gr, 1, none⟩) (Nat.le_trans HB.out.size GR.out) _, (m4.out.setCell (p := ⟨gr, 0, none⟩) (.inr GR.out) _).setCell (p := ⟨gr, 1, none⟩) (.inr GR.out) _, fun ok0 u0 xs0 h0 hp => ?_⟩
     obtain ⟨q1, q2⟩ := m5.out ok0 u0 xs0 h0 hp
     exact ⟨Kd.R_set (Kd.R_set q1 m1.out (by decide) 0 _) (blk_put m1.out 0 _ rfl) (by decide) 1 _, q2⟩
 ·rw [if_neg c3] at h
  cases h
theorem spec_l8Add.calls (a0_0 : Int) (P0_1_ : Nat → Prop) (u9000_ : Value) (l0_1 : List S71) (a1 a2 a3 r1 : Int) (r2 : List S71) (r3 : Int) (w0 w : World) (hB : Below w0.heap.size w0 w) (ho0_1 : Kd.R k71 71 w w0.heap.size P0_1_ u9000_ l0_1) (h : spec_l8Add.f a0_0 l0_1 a1 a2 a3 = some (r1, r2, r3)) :
  Calls Try.prog 60 #[.agg #[.int .i64 a0_0, u9000_], .int .i64 a1, .int .i64 a2, .int .i64 a3] w fun e w' => ∃ v1_ : Value, e = .returned (.tuple #[.agg #[.int .i64 r1, v1_], .int .i64 r3]) ∧ Kd.R k71 71 w' w0.heap.size (fun k_ => (P0_1_ k_ ∨ w.heap.size ≤ k_)) v1_ r2 ∧ Below w0.heap.size w0 w' ∧ Kept w w' (fun k_ => P0_1_ k_) := by
 refine (spec_l8Add.strong a0_0 (fun k_ => P0_1_ k_ ∨ w.heap.size ≤ k_) u9000_ l0_1 a1 a2 a3 r1 r2 r3 w0 w hB (Kd.R_mono ho0_1 (fun _ hk => .inl hk)) (fun _ hk => .inr hk) h).mono ?_
 rintro e w' ⟨v1, rfl, h1, h2, h3, _⟩
 exact ⟨v1, rfl, h1, h2, h3.mono (fun k hk => ho0_1.1 k hk)⟩

/-! ### spec_l8At: function 94 -/
def spec_l8At.f (a0_0 : Int) (l0_1 : List (S71)) (a1 : Int) (a2 : Int) (a3 : Int) : Option (Int) := (spec_l8Var.f a0_0 l0_1 a1).bind fun t154 => (if t154 = a2 then (if a3 = 1 then (if 0 ≤ (wrap64 (a1 - 2)) then (if (wrap64 (a1 - 2)) < (l0_1.length : Int) then (some ((rd_T71 l0_1 (wrap64 (a1 - 2))).f2)) else (none)) else (none)) else (if 0 ≤ (wrap64 (a1 - 2)) then (if (wrap64 (a1 - 2)) < (l0_1.length : Int) then (some ((rd_T71 l0_1 (wrap64 (a1 - 2))).f1)) else (none)) else (none))) else (some a1))
set_option maxHeartbeats 8000000 in
set_option maxRecDepth 100000 in
theorem spec_l8At.calls (a0_0 : Int) (A0_1 : Option Addr) (c0_1 : Nat) (l0_1 : List (S71)) (a1 : Int) (a2 : Int) (a3 : Int) (r : Int) (w : World) (hr0_1 : Kd.C k71 w A0_1 l0_1.length l0_1) (hc0_1 : l0_1.length ≤ c0_1) (h : spec_l8At.f a0_0 l0_1 a1 a2 a3 = some r) :
  Calls Try.prog 94 #[.agg #[.int .i64 a0_0, .slice A0_1 l0_1.length c0_1], .int .i64 a1, .int .i64 a2, .int .i64 a3] w fun e w' => e = .returned (.int .i64 r) ∧ Below w.heap.size w w' := by
 have hu25 := Try.underlying25
 have HR0_1 := Aside0.mk hr0_1
 have HC0_1 := Aside0.mk hc0_1
 clear hr0_1 hc0_1
 have HB := Aside0.mk (Below.refl w.heap.size w)
 have H : ((spec_l8Var.f a0_0 l0_1 a1).bind fun t154 => (if t154 = a2 then (if a3 = 1 then (if 0 ≤ (wrap64 (a1 - 2)) then (if (wrap64 (a1 - 2)) < (l0_1.length : Int) then (some ((rd_T71 l0_1 (wrap64 (a1 - 2))).f2)) else (none)) else (none)) else (if 0 ≤ (wrap64 (a1 - 2)) then (if (wrap64 (a1 - 2)) < (l0_1.length : Int) then (some ((rd_T71 l0_1 (wrap64 (a1 - 2))).f1)) else (none)) else (none))) else (some a1))) = some r := h
 clear h
 replace H := Option.bind_eq_some_iff.mp H
 obtain ⟨t154, A50, H⟩ := H
 replace H : (if t154 = a2 then (if a3 = 1 then (if 0 ≤ (wrap64 (a1 - 2)) then (if (wrap64 (a1 - 2)) < (l0_1.length : Int) then (some ((rd_T71 l0_1 (wrap64 (a1 - 2))).f2)) else (none)) else (none)) else (if 0 ≤ (wrap64 (a1 - 2)) then (if (wrap64 (a1 - 2)) < (l0_1.length : Int) then (some ((rd_T71 l0_1 (wrap64 (a1 - 2))).f1)) else (none)) else (none))) else (some a1)) = some r := H
 have A5 := Aside0.mk A50
 clear A50
 by_cases c6 : t154 = a2
 ·rw [if_pos c6] at H
  have c6b0 : (t154 == a2) = true := beq_iff_eq.mpr c6
  have c6b1 : (t154 != a2) = false := bne_eq_false_iff_eq.mpr c6
  clear c6
  by_cases c7 : a3 = 1
  ·rw [if_pos c7] at H
   have c7b0 : (a3 == 1) = true := beq_iff_eq.mpr c7
   have c7b1 : (a3 != 1) = false := bne_eq_false_iff_eq.mpr c7
   clear c7
   obtain ⟨ji8, hji8⟩ : ∃ j_ : Int, (wrap64 (a1 - 2)) = j_ := ⟨_, rfl⟩
   replace H : (if 0 ≤ (ji8) then (if (ji8) < (l0_1.length : Int) then (some ((rd_T71 l0_1 (ji8)).f2)) else (none)) else (none)) = some r := by first | (rw [hji8] at H; exact H) | (simp only [hji8] at H ⊢; exact H)
   (try rw [hji8] at A5)
   have hji8w : (IntKind.i64.wrap (a1 - 2)) = ji8 := (i64_w _).trans hji8
   by_cases c9 : 0 ≤ (ji8)
   ·rw [if_pos c9] at H
    have c9b0 : decide (0 ≤ (ji8)) = true := decide_eq_true c9
    clear c9
    by_cases c10 : (ji8) < (l0_1.length : Int)
    ·rw [if_pos c10] at H
     have c10b0 : decide ((ji8) < (l0_1.length : Int)) = true := decide_eq_true c10
     clear c10
     obtain rfl := Option.some.inj H
     go_enter Try.func94, Try.ntmps94
     go_wp2_with (first | ((with_reducible refine gate_dst (N := 4) rfl ?_); refine box_event ?hg (N := 4) ?hd (cs := #[.int .i64 a0_0, .slice A0_1 l0_1.length c0_1]) (t := 25) ?hr ?_; (case hd => rfl); (case hg => rfl); (case hr => first | (go_simp; done) | (go_simp; rfl)); intro gb153 hg w11 hbox hb; have n0_ := Aside0.mk (below_step (by repeat (first | (with_reducible first | exact HB.out | apply bwA | apply bwN | apply bwD) | exact HB.out)) hb); have n1_ := Aside0.mk (hbox); have n2_ := Aside0.mk ((by rw [hg]; exact (below_size (by repeat (first | (with_reducible first | exact HB.out | apply bwA | apply bwN | apply bwD) | exact HB.out))) : w.heap.size ≤ gb153)); have n3_ := Aside0.mk ((by rw [hg]; exact (below_size (by repeat (first | (with_reducible first | exact HB.out | apply bwA | apply bwN | apply bwD) | exact HB.out))) : w.heap.size ≤ gb153)); clear HB; have HB := n0_; have BK153 := n1_; have GW153 := n2_; have GE153 := n3_; clear n0_ n1_ n2_ n3_; clear hb hbox hg; have hcz12_0 : w11.cell? ⟨gb153, 0, none⟩ = some (.int .i64 a0_0) := (blk_cell BK153.out 0).trans rfl; have hcz12_1 : w11.cell? ⟨gb153, 1, none⟩ = some (.slice A0_1 l0_1.length c0_1) := (blk_cell BK153.out 1).trans rfl; have hfz12_0 := blk_frozen BK153.out 0; have hfz12_1 := blk_frozen BK153.out 1) | ((with_reducible refine gate_callee (f := 99) rfl ?_); refine goesL_ (some 11) rfl rfl Try.func99 (by kernel_rfl) rfl #[.agg #[.int .i64 a0_0, .slice A0_1 l0_1.length c0_1], .int .i64 a1] rfl lmB ?_; (with_reducible refine (spec_l8Var.calls a0_0 _ _ l0_1 a1 t154 _ ?side1 ?side2 A5.out).mono ?_); (case side1 => repeat (first | exact (Kd.C_below HR0_1.out HB.out) | (with_reducible refine Kd.C_alloc ?_ _) | (with_reducible refine Kd.C_drewN ?_ _) | (with_reducible refine Kd.C_drew ?_))); (case side2 => exact HC0_1.out); rintro e w13 ⟨rfl, hb⟩; refine ⟨_, rfl, ?_⟩; have n0_ := Aside0.mk (blk_below (g := gb153) (o := .cells #[.int .i64 a0_0, .slice A0_1 l0_1.length c0_1] 25 (0, 0)) (bvK BK153.out) hb); have n1_ := Aside0.mk (below_step (by repeat (first | (with_reducible first | exact HB.out | apply bwA | apply bwN | apply bwD | refine below_set ?_ GE153.out) | exact HB.out)) hb); clear BK153; clear HB; have BK153 := n0_; have HB := n1_; clear n0_ n1_; (try clear hb); (try clear hb2); (try clear hk); (try clear hi); have hcz14_0 : w13.cell? ⟨gb153, 0, none⟩ = some (.int .i64 a0_0) := (blk_cell BK153.out 0).trans rfl; have hcz14_1 : w13.cell? ⟨gb153, 1, none⟩ = some (.slice A0_1 l0_1.length c0_1) := (blk_cell BK153.out 1).trans rfl; have hfz14_0 := blk_frozen BK153.out 0; have hfz14_1 := blk_frozen BK153.out 1; have p155 : 0 ≤ ((ji8) : Int) := oda; have q155 : (ji8) < (l0_1.length : Int) := oda; obtain ⟨ad155, e155, hx155_0, hx155_1, hx155_2⟩ := at_T71 HR0_1.out (ji8) p155 q155; cases e155; replace hx155_0 := bct HB.out hx155_0; replace hx155_1 := bct HB.out hx155_1; replace hx155_2 := bct HB.out hx155_2; replace p155 := eq_true p155; replace q155 := eq_true q155))
     go_ret
     exact ⟨by first | rfl | (simp [errW_none, errW_some] <;> rfl) | (simp only [← hji8]; first | rfl | (simp [errW_none, errW_some] <;> rfl)) | (simp [*, errW_none, errW_some] <;> rfl), by repeat (first | (with_reducible first | exact HB.out | apply bwA | apply bwN | apply bwD | refine below_set ?_ GE153.out) | exact HB.out)⟩
    ·rw [if_neg c10] at H
     exact absurd H (by simp)
   ·rw [if_neg c9] at H
    exact absurd H (by simp)
  ·rw [if_neg c7] at H
   have c7b0 : (a3 == 1) = false := beq_eq_false_iff_ne.mpr c7
   have c7b1 : (a3 != 1) = true := bne_iff_ne.mpr c7
   obtain ⟨ji15, hji15⟩ : ∃ j_ : Int, (wrap64 (a1 - 2)) = j_ := ⟨_, rfl⟩
   replace H : (if 0 ≤ (ji15) then (if (ji15) < (l0_1.length : Int) then (some ((rd_T71 l0_1 (ji15)).f1)) else (none)) else (none)) = some r := by first | (rw [hji15] at H; exact H) | (simp only [hji15] at H ⊢; exact H)
   (try rw [hji15] at A5)
   have hji15w : (IntKind.i64.wrap (a1 - 2)) = ji15 := (i64_w _).trans hji15
   by_cases c16 : 0 ≤ (ji15)
   ·rw [if_pos c16] at H
    have c16b0 : decide (0 ≤ (ji15)) = true := decide_eq_true c16
    clear c16
    by_cases c17 : (ji15) < (l0_1.length : Int)
    ·rw [if_pos c17] at H
     have c17b0 : decide ((ji15) < (l0_1.length : Int)) = true := decide_eq_true c17
     clear c17
     obtain rfl := Option.some.inj H
     go_enter Try.func94, Try.ntmps94
     go_wp2_with (first | ((with_reducible refine gate_dst (N := 4) rfl ?_); refine box_event ?hg (N := 4) ?hd (cs := #[.int .i64 a0_0, .slice A0_1 l0_1.length c0_1]) (t := 25) ?hr ?_; (case hd => rfl); (case hg => rfl); (case hr => first | (go_simp; done) | (go_simp; rfl)); intro gb153 hg w18 hbox hb; have n0_ := Aside0.mk (below_step (by repeat (first | (with_reducible first | exact HB.out | apply bwA | apply bwN | apply bwD) | exact HB.out)) hb); have n1_ := Aside0.mk (hbox); have n2_ := Aside0.mk ((by rw [hg]; exact (below_size (by repeat (first | (with_reducible first | exact HB.out | apply bwA | apply bwN | apply bwD) | exact HB.out))) : w.heap.size ≤ gb153)); have n3_ := Aside0.mk ((by rw [hg]; exact (below_size (by repeat (first | (with_reducible first | exact HB.out | apply bwA | apply bwN | apply bwD) | exact HB.out))) : w.heap.size ≤ gb153)); clear HB; have HB := n0_; have BK153 := n1_; have GW153 := n2_; have GE153 := n3_; clear n0_ n1_ n2_ n3_; clear hb hbox hg; have hcz19_0 : w18.cell? ⟨gb153, 0, none⟩ = some (.int .i64 a0_0) := (blk_cell BK153.out 0).trans rfl; have hcz19_1 : w18.cell? ⟨gb153, 1, none⟩ = some (.slice A0_1 l0_1.length c0_1) := (blk_cell BK153.out 1).trans rfl; have hfz19_0 := blk_frozen BK153.out 0; have hfz19_1 := blk_frozen BK153.out 1) | ((with_reducible refine gate_callee (f := 99) rfl ?_); refine goesL_ (some 11) rfl rfl Try.func99 (by kernel_rfl) rfl #[.agg #[.int .i64 a0_0, .slice A0_1 l0_1.length c0_1], .int .i64 a1] rfl lmB ?_; (with_reducible refine (spec_l8Var.calls a0_0 _ _ l0_1 a1 t154 _ ?side1 ?side2 A5.out).mono ?_); (case side1 => repeat (first | exact (Kd.C_below HR0_1.out HB.out) | (with_reducible refine Kd.C_alloc ?_ _) | (with_reducible refine Kd.C_drewN ?_ _) | (with_reducible refine Kd.C_drew ?_))); (case side2 => exact HC0_1.out); rintro e w20 ⟨rfl, hb⟩; refine ⟨_, rfl, ?_⟩; have n0_ := Aside0.mk (blk_below (g := gb153) (o := .cells #[.int .i64 a0_0, .slice A0_1 l0_1.length c0_1] 25 (0, 0)) (bvK BK153.out) hb); have n1_ := Aside0.mk (below_step (by repeat (first | (with_reducible first | exact HB.out | apply bwA | apply bwN | apply bwD | refine below_set ?_ GE153.out) | exact HB.out)) hb); clear BK153; clear HB; have BK153 := n0_; have HB := n1_; clear n0_ n1_; (try clear hb); (try clear hb2); (try clear hk); (try clear hi); have hcz21_0 : w20.cell? ⟨gb153, 0, none⟩ = some (.int .i64 a0_0) := (blk_cell BK153.out 0).trans rfl; have hcz21_1 : w20.cell? ⟨gb153, 1, none⟩ = some (.slice A0_1 l0_1.length c0_1) := (blk_cell BK153.out 1).trans rfl; have hfz21_0 := blk_frozen BK153.out 0; have hfz21_1 := blk_frozen BK153.out 1; have p156 : 0 ≤ ((ji15) : Int) := oda; have q156 : (ji15) < (l0_1.length : Int) := oda; obtain ⟨ad156, e156, hx156_0, hx156_1, hx156_2⟩ := at_T71 HR0_1.out (ji15) p156 q156; cases e156; replace hx156_0 := bct HB.out hx156_0; replace hx156_1 := bct HB.out hx156_1; replace hx156_2 := bct HB.out hx156_2; replace p156 := eq_true p156; replace q156 := eq_true q156))
     go_ret
     exact ⟨by first | rfl | (simp [errW_none, errW_some] <;> rfl) | (simp only [← hji15]; first | rfl | (simp [errW_none, errW_some] <;> rfl)) | (simp [*, errW_none, errW_some] <;> rfl), by repeat (first | (with_reducible first | exact HB.out | apply bwA | apply bwN | apply bwD | refine below_set ?_ GE153.out) | exact HB.out)⟩
    ·rw [if_neg c17] at H
     exact absurd H (by simp)
   ·rw [if_neg c16] at H
    exact absurd H (by simp)
 ·rw [if_neg c6] at H
  have c6b0 : (t154 == a2) = false := beq_eq_false_iff_ne.mpr c6
  have c6b1 : (t154 != a2) = true := bne_iff_ne.mpr c6
  obtain rfl := Option.some.inj H
  go_enter Try.func94, Try.ntmps94
  go_wp2_with (first | ((with_reducible refine gate_dst (N := 4) rfl ?_); refine box_event ?hg (N := 4) ?hd (cs := #[.int .i64 a0_0, .slice A0_1 l0_1.length c0_1]) (t := 25) ?hr ?_; (case hd => rfl); (case hg => rfl); (case hr => first | (go_simp; done) | (go_simp; rfl)); intro gb153 hg w22 hbox hb; have n0_ := Aside0.mk (below_step (by repeat (first | (with_reducible first | exact HB.out | apply bwA | apply bwN | apply bwD) | exact HB.out)) hb); have n1_ := Aside0.mk (hbox); have n2_ := Aside0.mk ((by rw [hg]; exact (below_size (by repeat (first | (with_reducible first | exact HB.out | apply bwA | apply bwN | apply bwD) | exact HB.out))) : w.heap.size ≤ gb153)); have n3_ := Aside0.mk ((by rw [hg]; exact (below_size (by repeat (first | (with_reducible first | exact HB.out | apply bwA | apply bwN | apply bwD) | exact HB.out))) : w.heap.size ≤ gb153)); clear HB; have HB := n0_; have BK153 := n1_; have GW153 := n2_; have GE153 := n3_; clear n0_ n1_ n2_ n3_; clear hb hbox hg; have hcz23_0 : w22.cell? ⟨gb153, 0, none⟩ = some (.int .i64 a0_0) := (blk_cell BK153.out 0).trans rfl; have hcz23_1 : w22.cell? ⟨gb153, 1, none⟩ = some (.slice A0_1 l0_1.length c0_1) := (blk_cell BK153.out 1).trans rfl; have hfz23_0 := blk_frozen BK153.out 0; have hfz23_1 := blk_frozen BK153.out 1) | ((with_reducible refine gate_callee (f := 99) rfl ?_); refine goesL_ (some 11) rfl rfl Try.func99 (by kernel_rfl) rfl #[.agg #[.int .i64 a0_0, .slice A0_1 l0_1.length c0_1], .int .i64 a1] rfl lmB ?_; (with_reducible refine (spec_l8Var.calls a0_0 _ _ l0_1 a1 t154 _ ?side1 ?side2 A5.out).mono ?_); (case side1 => repeat (first | exact (Kd.C_below HR0_1.out HB.out) | (with_reducible refine Kd.C_alloc ?_ _) | (with_reducible refine Kd.C_drewN ?_ _) | (with_reducible refine Kd.C_drew ?_))); (case side2 => exact HC0_1.out); rintro e w24 ⟨rfl, hb⟩; refine ⟨_, rfl, ?_⟩; have n0_ := Aside0.mk (blk_below (g := gb153) (o := .cells #[.int .i64 a0_0, .slice A0_1 l0_1.length c0_1] 25 (0, 0)) (bvK BK153.out) hb); have n1_ := Aside0.mk (below_step (by repeat (first | (with_reducible first | exact HB.out | apply bwA | apply bwN | apply bwD | refine below_set ?_ GE153.out) | exact HB.out)) hb); clear BK153; clear HB; have BK153 := n0_; have HB := n1_; clear n0_ n1_; (try clear hb); (try clear hb2); (try clear hk); (try clear hi)))
  go_ret
  exact ⟨ers, by repeat (first | (with_reducible first | exact HB.out | apply bwA | apply bwN | apply bwD | refine below_set ?_ GE153.out) | exact HB.out)⟩

end Go.Proofs.Ytpcompnmadpljaa.QFnDiagramSame
