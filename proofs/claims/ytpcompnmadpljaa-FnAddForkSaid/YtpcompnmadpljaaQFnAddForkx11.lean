-- Written by a program of this session (mk.py). Lean checks it.
import Derived.Test.YtpcompnmadpljaaQFnAddForkx0
import Derived.Test.YtpcompnmadpljaaQFnAddForkx2
import Derived.Test.YtpcompnmadpljaaQFnAddForkx7
import Derived.Test.YtpcompnmadpljaaQFnAddForkx8
import Derived.Test.YtpcompnmadpljaaQFnAddForkx9
import Derived.Test.YtpcompnmadpljaaQFnAddForkx10
namespace Go.Proofs.Ytpcompnmadpljaa.QFnAddFork
open Go.RowKit Go.Proofs.YtpcompnmadpljaaW.PrintWords Go.Proofs.YtpcompnmadpljaaW.PrintLast Go.Proofs.YtpcompnmadpljaaW.PrintMore
attribute [local go_sem] max2_int min2_int max_two min_two max_three min_three max_four min_four   -- for this text's walks alone
set_option linter.unusedVariables false
set_option linter.unusedSimpArgs false

/-! ### spec_l8Copy: function 61 -/
def spec_l8Copy.l0 : Nat → Int → Int → List (S71) → Int → List (S71) → Option (Int × (List (S71)))
 | 0, _, _, _, _, _ => none
 | k + 1, x4, x251000, x251001, x253000, x253001 => if x4 < (x251001.length : Int) then (if 0 ≤ x4 then (if x253001.length < 5864062014805 then (spec_l8Copy.l0 k (wrap64 (x4 + 1)) x251000 x251001 x253000 (x253001 ++ [(⟨(rd_T71 x251001 x4).f0, (rd_T71 x251001 x4).f1, (rd_T71 x251001 x4).f2⟩ : S71)])) else (none)) else (none)) else (some (x253000, x253001))
def spec_l8Copy.f (k : Nat) (a0_0 : Int) (l0_1 : List (S71)) : Option (Int × (List (S71))) := spec_l8Copy.l0 k 0 a0_0 l0_1 a0_0 ([] : List (S71))
theorem spec_l8Copy.mono_l : ∀ k, (∀ y0 y1 y2 y3 y4, LeO (spec_l8Copy.l0 k y0 y1 y2 y3 y4) (spec_l8Copy.l0 (k + 1) y0 y1 y2 y3 y4))
 | 0 => fun _ _ _ _ _ r h => by simp [spec_l8Copy.l0] at h
 | k + 1 => by
  have ih0 := spec_l8Copy.mono_l k
  ·intro y0 y1 y2 y3 y4
   unfold spec_l8Copy.l0
   repeat' first
   | (with_reducible exact ih0 _ _ _ _ _)
   | (with_reducible exact LeO.refl _)
   | (with_reducible exact LeO.none _)
   | (with_reducible refine LeO.ite ?_ ?_)
   | (with_reducible refine LeO.bind ?_ (fun _ => ?_))
   | exact ih0 _ _ _ _ _
   | exact LeO.none _
   | refine LeO.ite ?_ ?_
   | refine LeO.bind ?_ (fun _ => ?_)
theorem spec_l8Copy.mono : ∀ a0 a1 k, LeO (spec_l8Copy.f k a0 a1) (spec_l8Copy.f (k + 1) a0 a1) := by
 intro a0 a1 k
 have ih0 := spec_l8Copy.mono_l k
 unfold spec_l8Copy.f
 repeat' first
   | (with_reducible exact ih0 _ _ _ _ _)
   | (with_reducible exact LeO.refl _)
   | (with_reducible exact LeO.none _)
   | (with_reducible refine LeO.ite ?_ ?_)
   | (with_reducible refine LeO.bind ?_ (fun _ => ?_))
   | exact ih0 _ _ _ _ _
   | exact LeO.none _
   | refine LeO.ite ?_ ?_
   | refine LeO.bind ?_ (fun _ => ?_)
def spec_l8Copy.T5 : Bool × List (List Nat × List Nat) := (true, [([], []), ([0], [0]), ([], []), ([2], [2]), ([], []), ([3, 4], [3, 4]), ([5], [5]), ([6], [6]), ([1, 7], [1, 7]), ([0, 1, 2, 3, 4, 5, 6, 7, 8], []), ([9, 8, 8, 0, 1, 2, 3, 4, 5, 6, 7, 8], [8, 9])])
def spec_l8Copy.B5 : List Nat := [0, 1, 0, 4, 0, 28, 60, 124, 255, 511, 1023]
theorem spec_l8Copy.tab5 : rtab .any (opsOf Try.f61 5) = spec_l8Copy.T5 := by kernel_rfl
theorem spec_l8Copy.bits5 : waitsOk spec_l8Copy.T5.2 spec_l8Copy.B5 = true := by kernel_rfl
set_option maxHeartbeats 8000000 in
set_option maxRecDepth 100000 in
theorem spec_l8Copy.calls (k : Nat) (a0_0 : Int) (A0_1 : Option Addr) (c0_1 : Nat) (l0_1 : List (S71)) (r1 : Int) (r2 : List (S71)) (w : World) (hr0_1 : Kd.C k71 w A0_1 l0_1.length l0_1) (hc0_1 : l0_1.length ≤ c0_1) (h : spec_l8Copy.f k a0_0 l0_1 = some (r1, r2)) :
  Calls Try.prog 61 #[.agg #[.int .i64 a0_0, .slice A0_1 l0_1.length c0_1]] w fun e w' => ∃ v1_ : Value, e = .returned (.agg #[.int .i64 r1, v1_]) ∧ Kd.R k71 71 w' w.heap.size (fun _ => True) v1_ r2 ∧ Below w.heap.size w w' := by
 have hu25 := Try.underlying25
 have hu71 := Try.underlying71
 have HR0_1 := Aside0.mk hr0_1
 have HC0_1 := Aside0.mk hc0_1
 clear hr0_1 hc0_1
 have HB := Aside0.mk (Below.refl w.heap.size w)
 have H : (spec_l8Copy.l0 k 0 a0_0 l0_1 a0_0 ([] : List (S71))) = some (r1, r2) := h
 clear h
 have H' := Aside0.mk H
 clear H
 go_enter Try.func61, Try.ntmps61
 go_wp2_with (first | ((with_reducible refine gate_dst (N := 1) rfl ?_); refine box_event ?hg (N := 1) ?hd (cs := #[.int .i64 a0_0, .slice A0_1 l0_1.length c0_1]) (t := 25) ?hr ?_; (case hd => rfl); (case hg => rfl); (case hr => first | (go_simp; done) | (go_simp; rfl)); intro gb250 hg w2 hbox hb; have n0_ := Aside0.mk (below_step (by repeat (first | (with_reducible first | exact HB.out | apply bwA | apply bwN | apply bwD) | exact HB.out)) hb); have n1_ := Aside0.mk (hbox); have n2_ := Aside0.mk ((by rw [hg]; exact (below_size (by repeat (first | (with_reducible first | exact HB.out | apply bwA | apply bwN | apply bwD) | exact HB.out))) : w.heap.size ≤ gb250)); have n3_ := Aside0.mk ((by rw [hg]; exact (below_size (by repeat (first | (with_reducible first | exact HB.out | apply bwA | apply bwN | apply bwD) | exact HB.out))) : w.heap.size ≤ gb250)); clear HB; have HB := n0_; have BK250 := n1_; have GW250 := n2_; have GE250 := n3_; clear n0_ n1_ n2_ n3_; clear hb hbox hg) | ((with_reducible refine gate_dst (N := 2) rfl ?_); refine box_event ?hg (N := 2) ?hd (cs := #[.int .i64 0, .slice none 0 0]) (t := 25) ?hr ?_; (case hd => rfl); (case hg => rfl); (case hr => first | (go_simp; done) | (go_simp; rfl)); intro gb251 hg w3 hbox hb; have n0_ := Aside0.mk (blk_below (g := gb250) (o := .cells #[.int .i64 a0_0, .slice A0_1 l0_1.length c0_1] 25 (0, 0)) (bvK BK250.out) hb); have n1_ := Aside0.mk (below_step (by repeat (first | (with_reducible first | exact HB.out | apply bwA | apply bwN | apply bwD | refine below_set ?_ GE250.out) | exact HB.out)) hb); have n2_ := Aside0.mk (hbox); have n3_ := Aside0.mk ((by rw [hg]; exact (below_size (by repeat (first | (with_reducible first | exact HB.out | apply bwA | apply bwN | apply bwD | refine below_set ?_ GE250.out) | exact HB.out))) : w.heap.size ≤ gb251)); have n4_ := Aside0.mk ((by rw [hg]; exact (below_size (by repeat (first | (with_reducible first | exact HB.out | apply bwA | apply bwN | apply bwD | refine below_set ?_ GE250.out) | exact HB.out))) : w.heap.size ≤ gb251)); have n5_ := Aside0.mk ((by rw [hg]; exact Nat.ne_of_lt (blk_lt (g := gb250) (o := .cells #[.int .i64 a0_0, .slice A0_1 l0_1.length c0_1] 25 (0, 0)) (bvK BK250.out)) : gb250 ≠ gb251)); have n6_ := Aside0.mk ((by rw [hg]; exact Nat.ne_of_gt (blk_lt (g := gb250) (o := .cells #[.int .i64 a0_0, .slice A0_1 l0_1.length c0_1] 25 (0, 0)) (bvK BK250.out)) : gb251 ≠ gb250)); clear BK250; clear HB; have BK250 := n0_; have HB := n1_; have BK251 := n2_; have GW251 := n3_; have GE251 := n4_; have NB250_251 := n5_; have NB251_250 := n6_; clear n0_ n1_ n2_ n3_ n4_ n5_ n6_; clear hb hbox hg; have hnb4 := NB250_251.out; have hnc4 := NB251_250.out; have hcz5_0 : w3.cell? ⟨gb250, 0, none⟩ = some (.int .i64 a0_0) := (blk_cell BK250.out 0).trans rfl; have hcz5_1 : w3.cell? ⟨gb250, 1, none⟩ = some (.slice A0_1 l0_1.length c0_1) := (blk_cell BK250.out 1).trans rfl; have hfz5_0 := blk_frozen BK250.out 0; have hfz5_1 := blk_frozen BK250.out 1) | ((with_reducible refine gate_dst (N := 3) rfl ?_); refine box_event ?hg (N := 3) ?hd (cs := #[.int .i64 0, .slice none 0 0]) (t := 25) ?hr ?_; (case hd => rfl); (case hg => rfl); (case hr => first | (go_simp; done) | (go_simp; rfl)); intro gb252 hg w6 hbox hb; have n0_ := Aside0.mk (blk_below (g := gb250) (o := .cells #[.int .i64 a0_0, .slice A0_1 l0_1.length c0_1] 25 (0, 0)) (bvK BK250.out) hb); have n1_ := Aside0.mk (blk_below (g := gb251) (o := .cells #[.int .i64 0, .slice none 0 0] 25 (0, 0)) (bvK BK251.out) hb); have n2_ := Aside0.mk (below_step (by repeat (first | (with_reducible first | exact HB.out | apply bwA | apply bwN | apply bwD | refine below_set ?_ GE250.out | refine below_set ?_ GE251.out) | exact HB.out)) hb); have n3_ := Aside0.mk (hbox); have n4_ := Aside0.mk ((by rw [hg]; exact (below_size (by repeat (first | (with_reducible first | exact HB.out | apply bwA | apply bwN | apply bwD | refine below_set ?_ GE250.out | refine below_set ?_ GE251.out) | exact HB.out))) : w.heap.size ≤ gb252)); have n5_ := Aside0.mk ((by rw [hg]; exact (below_size (by repeat (first | (with_reducible first | exact HB.out | apply bwA | apply bwN | apply bwD | refine below_set ?_ GE250.out | refine below_set ?_ GE251.out) | exact HB.out))) : w.heap.size ≤ gb252)); have n6_ := Aside0.mk ((by rw [hg]; exact Nat.ne_of_lt (blk_lt (g := gb250) (o := .cells #[.int .i64 a0_0, .slice A0_1 l0_1.length c0_1] 25 (0, 0)) (bvK BK250.out)) : gb250 ≠ gb252)); have n7_ := Aside0.mk ((by rw [hg]; exact Nat.ne_of_gt (blk_lt (g := gb250) (o := .cells #[.int .i64 a0_0, .slice A0_1 l0_1.length c0_1] 25 (0, 0)) (bvK BK250.out)) : gb252 ≠ gb250)); have n8_ := Aside0.mk ((by rw [hg]; exact Nat.ne_of_lt (blk_lt (g := gb251) (o := .cells #[.int .i64 0, .slice none 0 0] 25 (0, 0)) (bvK BK251.out)) : gb251 ≠ gb252)); have n9_ := Aside0.mk ((by rw [hg]; exact Nat.ne_of_gt (blk_lt (g := gb251) (o := .cells #[.int .i64 0, .slice none 0 0] 25 (0, 0)) (bvK BK251.out)) : gb252 ≠ gb251)); clear BK250; clear BK251; clear HB; have BK250 := n0_; have BK251 := n1_; have HB := n2_; have BK252 := n3_; have GW252 := n4_; have GE252 := n5_; have NB250_252 := n6_; have NB252_250 := n7_; have NB251_252 := n8_; have NB252_251 := n9_; clear n0_ n1_ n2_ n3_ n4_ n5_ n6_ n7_ n8_ n9_; clear hb hbox hg; have hnb7 := NB252_250.out; have hnc7 := NB250_252.out; have hnb8 := NB252_251.out; have hnc8 := NB251_252.out; have hcz9_0 : w6.cell? ⟨gb252, 0, none⟩ = some (.int .i64 0) := (blk_cell BK252.out 0).trans rfl; have hcz9_1 : w6.cell? ⟨gb252, 1, none⟩ = some (.slice none 0 0) := (blk_cell BK252.out 1).trans rfl; have hfz9_0 := blk_frozen BK252.out 0; have hfz9_1 := blk_frozen BK252.out 1))
 go_loopg [4] k (fun kq v4 w' => ∃ (x4_1 : Int) (x253001_1 : List (S71)) (u253001 : Value), v4 = .int .i64 x4_1 ∧ Aside0 (spec_l8Copy.l0 kq x4_1 a0_0 l0_1 a0_0 x253001_1 = some (r1, r2)) ∧ Aside0 (kq ≤ k) ∧ Aside0 (Kd.R k71 71 w' w.heap.size (fun _ => True) u253001 x253001_1) ∧ Aside0 (w'.heap[gb250]? = some (.cells #[.int .i64 a0_0, (.slice A0_1 l0_1.length c0_1)] 25 (0, 0))) ∧ Aside0 (w'.heap[gb251]? = some (.cells #[.int .i64 0, (.slice none 0 0)] 25 (0, 0))) ∧ Aside0 (w'.heap[gb252]? = some (.cells #[.int .i64 a0_0, u253001] 25 (0, 0))) ∧ Aside0 (Below w.heap.size w w'))
 case atStart => exact ⟨(0), (([] : List (S71))), (.slice none 0 0), rsd, H', ⟨Nat.le_refl _⟩, ⟨by first | exact Kd.R_nil _ _ _ _ _ | exact Kd.N_nil _ _ _ _ _ | exact Kd.V_nil _ _ _ _ _ | exact Kd.Q_nil _ _ _ _ _ | exact Kd.S_nil _ _ _ _ _⟩, ⟨by (with_reducible repeat (first | refine blk_drewN ?_ _ | refine blk_drew ?_ | refine blk_alloc ?_ _)); refine blk_far ?_ NB250_252.out _; (with_reducible repeat (first | refine blk_drewN ?_ _ | refine blk_drew ?_ | refine blk_alloc ?_ _)); refine blk_far ?_ NB250_252.out _; (with_reducible repeat (first | refine blk_drewN ?_ _ | refine blk_drew ?_ | refine blk_alloc ?_ _)); exact BK250.out⟩, ⟨by (with_reducible repeat (first | refine blk_drewN ?_ _ | refine blk_drew ?_ | refine blk_alloc ?_ _)); refine blk_far ?_ NB251_252.out _; (with_reducible repeat (first | refine blk_drewN ?_ _ | refine blk_drew ?_ | refine blk_alloc ?_ _)); refine blk_far ?_ NB251_252.out _; (with_reducible repeat (first | refine blk_drewN ?_ _ | refine blk_drew ?_ | refine blk_alloc ?_ _)); exact BK251.out⟩, ⟨by (with_reducible repeat (first | refine blk_drewN ?_ _ | refine blk_drew ?_ | refine blk_alloc ?_ _)); refine blk_put (cs := #[.int .i64 a0_0, .slice none 0 0]) ?_ 1 _ rfl; (with_reducible repeat (first | refine blk_drewN ?_ _ | refine blk_drew ?_ | refine blk_alloc ?_ _)); refine blk_put (cs := #[.int .i64 0, .slice none 0 0]) ?_ 0 _ rfl; (with_reducible repeat (first | refine blk_drewN ?_ _ | refine blk_drew ?_ | refine blk_alloc ?_ _)); exact BK252.out⟩, ⟨by repeat (first | (with_reducible first | exact HB.out | apply bwA | apply bwN | apply bwD | refine below_set ?_ GE250.out | refine below_set ?_ GE251.out | refine below_set ?_ GE252.out) | exact HB.out)⟩⟩
 case round =>
  clear H'
  try clear p2
  try clear c4
  try clear c6
  try clear c7
  try clear c8
  try clear hcz5_0
  try clear hcz5_1
  try clear hcz9_0
  try clear hcz9_1
  try clear hfz5_0
  try clear hfz5_1
  try clear hfz9_0
  try clear hfz9_1
  obtain ⟨x4_1, x253001_1, u253001, rfl, HA, HK1, HO_253001, BK250, BK251, BK252, HB⟩ := hrel
  cases gk with
  | zero => exact absurd HA.out (by simp [spec_l8Copy.l0])
  | succ k1 =>
   have H := HA.out
   clear HA
   simp only [spec_l8Copy.l0] at H
   by_cases c10 : x4_1 < (l0_1.length : Int)
   ·rw [if_pos c10] at H
    have c10b0 : decide (x4_1 < (l0_1.length : Int)) = true := decide_eq_true c10
    clear c10
    by_cases c11 : 0 ≤ x4_1
    ·rw [if_pos c11] at H
     have c11b0 : decide (0 ≤ x4_1) = true := decide_eq_true c11
     clear c11
     by_cases c12 : x253001_1.length < 5864062014805
     ·rw [if_pos c12] at H
      have LMc12 := Aside0.mk c12
      clear c12
      obtain ⟨y254, hy254⟩ : ∃ y_ : List (S71), y_ = (x253001_1 ++ [(⟨(rd_T71 l0_1 x4_1).f0, (rd_T71 l0_1 x4_1).f1, (rd_T71 l0_1 x4_1).f2⟩ : S71)]) := ⟨_, rfl⟩
      replace H : (spec_l8Copy.l0 k1 (wrap64 (x4_1 + 1)) a0_0 l0_1 a0_0 y254) = some (r1, r2) := by first | (rw [hy254]; with_reducible exact H) | (have H2_ := (Option.bind_some _ _).symm.trans H; rw [hy254]; with_reducible exact H2_) | (have H2_ := (Option.bind_some _ _).symm.trans H; with_reducible exact H2_) | with_reducible exact H | (rw [hy254]; exact H) | exact H
      have Ny254 := Aside0.mk hy254
      clear hy254
      have H' := Aside0.mk H
      clear H
      have hnb13 := NB250_251.out
      have hnc13 := NB251_250.out
      have hnb14 := NB250_252.out
      have hnc14 := NB252_250.out
      have hcz15_0 : wr.cell? ⟨gb250, 0, none⟩ = some (.int .i64 a0_0) := (blk_cell BK250.out 0).trans rfl
      have hcz15_1 : wr.cell? ⟨gb250, 1, none⟩ = some (.slice A0_1 l0_1.length c0_1) := (blk_cell BK250.out 1).trans rfl
      have hfz15_0 := blk_frozen BK250.out 0
      have hfz15_1 := blk_frozen BK250.out 1
      try go_wp2
      have n0_ := Aside0.mk (Kd.R_drew HO_253001.out)
      have n1_ := Aside0.mk (blk_drew BK250.out)
      have n2_ := Aside0.mk (blk_drew BK251.out)
      have n3_ := Aside0.mk (blk_drew BK252.out)
      have n4_ := Aside0.mk (below_drew1 HB.out)
      clear HO_253001
      clear BK250
      clear BK251
      clear BK252
      clear HB
      have HO_253001 := n0_
      have BK250 := n1_
      have BK251 := n2_
      have BK252 := n3_
      have HB := n4_
      clear n0_ n1_ n2_ n3_ n4_
      have p253 : 0 ≤ (x4_1 : Int) := oda
      have q253 : x4_1 < (l0_1.length : Int) := oda
      obtain ⟨ad253, e253, hx253_0, hx253_1, hx253_2⟩ := at_T71 HR0_1.out x4_1 p253 q253
      have hw253_2 := hx253_2
      have hw253_1 := hx253_1
      have hw253_0 := hx253_0
      cases e253
      try replace hx253_0 := bct HB.out hx253_0
      try replace hx253_1 := bct HB.out hx253_1
      try replace hx253_2 := bct HB.out hx253_2
      replace p253 := eq_true p253
      replace q253 := eq_true q253
      refine start_ (n := 11) (S := fun w' => w'.cell? ⟨gb252, 0, none⟩ = some (.int .i64 a0_0) ∧ w'.cell? ⟨gb252, 1, none⟩ = some (u253001) ∧ w'.cell? ⟨gb250, 0, none⟩ = some (.int .i64 a0_0) ∧ w'.cell? ⟨gb250, 1, none⟩ = some (.slice (some ad253) l0_1.length c0_1) ∧ w'.cell? (ad253.add ((x4_1).toNat * 3)) = some (.int .i64 ((rd_T71 l0_1 x4_1).f0)) ∧ w'.cell? ⟨(ad253.add ((x4_1).toNat * 3)).block, (ad253.add ((x4_1).toNat * 3)).off + 1, none⟩ = some (.int .i64 ((rd_T71 l0_1 x4_1).f1)) ∧ w'.cell? ⟨(ad253.add ((x4_1).toNat * 3)).block, (ad253.add ((x4_1).toNat * 3)).off + 2, none⟩ = some (.int .i64 ((rd_T71 l0_1 x4_1).f2))) (ds := [10]) (Pt.bm 11 0) (by kernel_rfl) rfl rfl ⟨(blk_cell BK252.out 0).trans rfl, (blk_cell BK252.out 1).trans rfl, (blk_cell BK250.out 0).trans rfl, (blk_cell BK250.out 1).trans rfl, ((HB.out.cell (World.block_lt_of_cell? w _ hw253_0)).trans hw253_0), ((HB.out.cell (World.block_lt_of_cell? w _ hw253_1)).trans hw253_1), ((HB.out.cell (World.block_lt_of_cell? w _ hw253_2)).trans hw253_2)⟩ (fun hHeld => ?_); refine with_tabW spec_l8Copy.tab5 spec_l8Copy.bits5 (fun HT_ HW_ => ?_)
      generalize wr.drew = w16 at HO_253001 BK250 BK251 BK252 HB hx253_0 hx253_1 hx253_2 hHeld ⊢
      refine Pt.pu 0 (some 15) (Pt.bm 11 1) (any_of HT_.out (by kernel_rfl)) ?_
      refine Pt.pu 2 (some 17) (Pt.bm 11 5) (any_of HT_.out (by kernel_rfl)) ?_
      refine Pt.pu 4 (some 19) (Pt.bm 11 21) (any_of HT_.out (by kernel_rfl)) ?_
      refine Pt.tk 1 (some 16) (Pt.bm 11 23) rfl rfl (take_ofW HT_.out HW_.out (by kernel_rfl)) hHeld (Or.inl ⟨by rfl, by rintro w' ⟨s0, s1, s2, s3, s4, s5, s6⟩; go_simp; with_reducible rfl⟩) ?_
      refine Pt.tk 3 (some 18) (Pt.bm 11 31) rfl rfl (take_ofW HT_.out HW_.out (by kernel_rfl)) hHeld (Or.inl ⟨by rfl, by rintro w' ⟨s0, s1, s2, s3, s4, s5, s6⟩; go_simp; with_reducible rfl⟩) ?_
      refine Pt.pu 5 (some 20) (Pt.bm 11 63) (any_of HT_.out (by kernel_rfl)) ?_
      refine Pt.tk 6 (some 21) (Pt.bm 11 127) rfl rfl (take_ofW HT_.out HW_.out (by kernel_rfl)) hHeld (Or.inl ⟨by rfl, by rintro w' ⟨s0, s1, s2, s3, s4, s5, s6⟩; go_simp; with_reducible rfl⟩) ?_
      refine one_ (i := 7) (N := some 22) (Pt.bm 11 255) rfl rfl (one_of HT_.out (by kernel_rfl)) (by decide) (fun K hK => ?_)
      refine value_ (w1 := ?_) (v := ?_) (by rfl) rfl ?_ ?_
      rotate_left 2
      ·go_simp
       constructor
       ·rfl
       ·rfl
      refine hK.out _ _ ⟨(blk_cell (blk_alloc BK252.out _) 0).trans rfl, (blk_cell (blk_alloc BK252.out _) 1).trans rfl, (blk_cell (blk_alloc BK250.out _) 0).trans rfl, (blk_cell (blk_alloc BK250.out _) 1).trans rfl, (World.cell?_alloc_lt _ _ _ (World.block_lt_of_cell? _ _ (((HB.out.cell (World.block_lt_of_cell? w _ hw253_0)).trans hw253_0)))).trans (((HB.out.cell (World.block_lt_of_cell? w _ hw253_0)).trans hw253_0)), (World.cell?_alloc_lt _ _ _ (World.block_lt_of_cell? _ _ (((HB.out.cell (World.block_lt_of_cell? w _ hw253_1)).trans hw253_1)))).trans (((HB.out.cell (World.block_lt_of_cell? w _ hw253_1)).trans hw253_1)), (World.cell?_alloc_lt _ _ _ (World.block_lt_of_cell? _ _ (((HB.out.cell (World.block_lt_of_cell? w _ hw253_2)).trans hw253_2)))).trans (((HB.out.cell (World.block_lt_of_cell? w _ hw253_2)).trans hw253_2))⟩ (fun hHeld => ?_)
      clear hK K
      refine norm_ (a' := ?_) ?_ ?_
      rotate_left
      ·show Act.put _ (some 22) _ = _
       simp only [Act.put, List.setIfInBounds_toArray, List.set_cons_zero, List.set_cons_succ, i64_w, i32_w]
       rfl
      refine one_ (i := 8) (N := some 23) (Pt.bm 11 511) rfl rfl (one_of HT_.out (by kernel_rfl)) (by decide) (fun K hK => ?_)
      refine Kd.R_append_step k71 (w0 := w) w.heap.size (by rfl) (.tmp 16) (.tmp 22) 23 71 (.agg #[(.int .i64 0), (.int .i64 0), (.int .i64 0)]) 24 rfl Try.underlying23 info71 rfl (by decide) (by omega) u253001 x253001_1 (⟨(rd_T71 l0_1 x4_1).f0, (rd_T71 l0_1 x4_1).f1, (rd_T71 l0_1 x4_1).f2⟩ : S71) [.int .i64 ((rd_T71 l0_1 x4_1).f0), .int .i64 ((rd_T71 l0_1 x4_1).f1), .int .i64 ((rd_T71 l0_1 x4_1).f2)] (fun _ => True) (fun _ => False) rfl rfl ?aP (fun _ hk => hk.elim) ?aF ?aO ?aB ?aS ?aL ?_
      (case aP => exact k71_mkM _ _ _ (⟨(rd_T71 l0_1 x4_1).f0, (rd_T71 l0_1 x4_1).f1, (rd_T71 l0_1 x4_1).f2⟩ : S71))
      (case aB => exact (by repeat (first | (with_reducible first | exact HB.out | apply bwA | apply bwN | apply bwD | refine below_set ?_ GE250.out | refine below_set ?_ GE251.out | refine below_set ?_ GE252.out) | exact HB.out)))
      (case aF => exact (fun _ _ => trivial))
      (case aO => exact (rvR HO_253001.out))
      (case aS => exact (below_size (by repeat (first | (with_reducible first | exact HB.out | apply bwA | apply bwN | apply bwD | refine below_set ?_ GE250.out | refine below_set ?_ GE251.out | refine below_set ?_ GE252.out) | exact HB.out))))
      (case aL => have := LMc12.out; omega)
      intro v255 w17 ho hb hg hat
      rw [← Ny254.out] at ho
      have n0_ := Aside0.mk (blk_grown (g := gb250) (o := .cells #[.int .i64 a0_0, .slice (some ad253) l0_1.length c0_1] 25 (0, 0)) (bvK BK250.out) hg (Kd.R_ne HO_253001.out BK250.out (by decide)))
      have n1_ := Aside0.mk (blk_grown (g := gb251) (o := .cells #[.int .i64 0, .slice none 0 0] 25 (0, 0)) (bvK BK251.out) hg (Kd.R_ne HO_253001.out BK251.out (by decide)))
      have n2_ := Aside0.mk (blk_grown (g := gb252) (o := .cells #[.int .i64 a0_0, u253001] 25 (0, 0)) (bvK BK252.out) hg (Kd.R_ne HO_253001.out BK252.out (by decide)))
      have n3_ := Aside0.mk (hb)
      have n4_ := Aside0.mk (ho)
      clear BK250
      clear BK251
      clear BK252
      clear HB
      clear HO_253001
      have BK250 := n0_
      have BK251 := n1_
      have BK252 := n2_
      have HB := n3_
      have HO256 := n4_
      clear n0_ n1_ n2_ n3_ n4_
      clear ho hb hg hat
      obtain ⟨Ao18, co18, eo18⟩ := Kd.R_slice HO256.out
      (first | subst eo18 | (injection eo18 with f1_ f2_ f3_; have f4_ := f1_.symm; have f5_ := f3_.symm; clear f1_ f2_ f3_; subst f4_; subst f5_))
      refine hK.out _ _ ⟨(blk_cell BK252.out 0).trans rfl, (blk_cell BK252.out 1).trans rfl, (blk_cell BK250.out 0).trans rfl, (blk_cell BK250.out 1).trans rfl, ((HB.out.cell (World.block_lt_of_cell? w _ hw253_0)).trans hw253_0), ((HB.out.cell (World.block_lt_of_cell? w _ hw253_1)).trans hw253_1), ((HB.out.cell (World.block_lt_of_cell? w _ hw253_2)).trans hw253_2)⟩ (fun hHeld => ?_)
      clear hK K
      refine norm_ (a' := ?_) ?_ ?_
      rotate_left
      ·show Act.put _ (some 23) _ = _
       simp only [Act.put, List.setIfInBounds_toArray, List.set_cons_zero, List.set_cons_succ, i64_w, i32_w]
       rfl
      refine Pt.pu 9 (some 24) (Pt.bm 11 1023) (any_of HT_.out (by kernel_rfl)) ?_
      refine last_ (i := 10) (N := none) (Pt.bm 11 2047) rfl rfl (one_of HT_.out (by kernel_rfl)) (by decide) (fun K hK => ?_)
      have hs19 : w17.cell? ⟨gb252, 1, none⟩ = some (u253001) := (blk_cell BK252.out 1).trans rfl
      have hfs19 := blk_frozen BK252.out 1
      have hns19_0 := NB250_252.out
      have hns19_1 := NB251_252.out
      have hms19_0 := NB252_250.out
      have hms19_1 := NB252_251.out
      refine skip_ (w1 := ?_) (by rfl) rfl ?_ ?_
      rotate_left
      ·go_simp
       rfl
      refine hK.out _ _ ?_
      clear hK K
      refine done_ (done_of HT_.out (by kernel_rfl)) ?_
      try go_wp2
      go_roundg k1
      case measure => have := HK1.out; omega
      case rel => exact ⟨(wrap64 (x4_1 + 1)), (y254), (.slice Ao18 y254.length co18), rsd, H', ⟨by have := HK1.out; omega⟩, ⟨by (with_reducible repeat (first | apply Kd.R_alloc | apply Kd.R_drewN | apply Kd.R_drew)); exact Kd.R_mono (Kd.R_far (p := ⟨gb252, 1, none⟩) (Kd.R_types HO256.out BK252.out (by decide)) (fun _ hk => hk.2) (.slice Ao18 y254.length co18)) (fun _ hk => trivial)⟩, ⟨by (with_reducible repeat (first | refine blk_drewN ?_ _ | refine blk_drew ?_ | refine blk_alloc ?_ _)); refine blk_far ?_ NB250_252.out _; (with_reducible repeat (first | refine blk_drewN ?_ _ | refine blk_drew ?_ | refine blk_alloc ?_ _)); exact BK250.out⟩, ⟨by (with_reducible repeat (first | refine blk_drewN ?_ _ | refine blk_drew ?_ | refine blk_alloc ?_ _)); refine blk_far ?_ NB251_252.out _; (with_reducible repeat (first | refine blk_drewN ?_ _ | refine blk_drew ?_ | refine blk_alloc ?_ _)); exact BK251.out⟩, ⟨by (with_reducible repeat (first | refine blk_drewN ?_ _ | refine blk_drew ?_ | refine blk_alloc ?_ _)); refine blk_put (cs := #[.int .i64 a0_0, u253001]) ?_ 1 _ rfl; (with_reducible repeat (first | refine blk_drewN ?_ _ | refine blk_drew ?_ | refine blk_alloc ?_ _)); exact BK252.out⟩, ⟨by repeat (first | (with_reducible first | exact HB.out | apply bwA | apply bwN | apply bwD | refine below_set ?_ GE250.out | refine below_set ?_ GE251.out | refine below_set ?_ GE252.out) | exact HB.out)⟩⟩
     ·rw [if_neg c12] at H
      exact absurd H (by simp)
    ·rw [if_neg c11] at H
     exact absurd H (by simp)
   ·rw [if_neg c10] at H
    have c10b0 : decide (x4_1 < (l0_1.length : Int)) = false := decide_eq_false c10
    clear c10
    simp only [Option.some.injEq, Prod.mk.injEq] at H
    obtain ⟨rfl, rfl⟩ := H
    have hnb20 := NB250_251.out
    have hnc20 := NB251_250.out
    have hnb21 := NB250_252.out
    have hnc21 := NB252_250.out
    have hcz22_0 : wr.cell? ⟨gb250, 0, none⟩ = some (.int .i64 a0_0) := (blk_cell BK250.out 0).trans rfl
    have hcz22_1 : wr.cell? ⟨gb250, 1, none⟩ = some (.slice A0_1 l0_1.length c0_1) := (blk_cell BK250.out 1).trans rfl
    have hfz22_0 := blk_frozen BK250.out 0
    have hfz22_1 := blk_frozen BK250.out 1
    have hnb23 := NB252_251.out
    have hnc23 := NB251_252.out
    have hcz24_0 : wr.cell? ⟨gb252, 0, none⟩ = some (.int .i64 a0_0) := (blk_cell BK252.out 0).trans rfl
    have hcz24_1 : wr.cell? ⟨gb252, 1, none⟩ = some (u253001) := (blk_cell BK252.out 1).trans rfl
    have hfz24_0 := blk_frozen BK252.out 0
    have hfz24_1 := blk_frozen BK252.out 1
    have hcz25_0 : wr.cell? ⟨gb251, 0, none⟩ = some (.int .i64 0) := (blk_cell BK251.out 0).trans rfl
    have hcz25_1 : wr.cell? ⟨gb251, 1, none⟩ = some (.slice none 0 0) := (blk_cell BK251.out 1).trans rfl
    have hfz25_0 := blk_frozen BK251.out 0
    have hfz25_1 := blk_frozen BK251.out 1
    obtain ⟨Ao26, co26, eo26⟩ := Kd.R_slice HO_253001.out
    subst eo26
    go_wp2
    refine bodyPost_ret (results_cell_row rfl _ _ gb251 25 #[.int .i64 a0_0, .slice Ao26 x253001_1.length co26] (0, 0) _ rfl (by (with_reducible repeat (first | refine blk_drewN ?_ _ | refine blk_drew ?_ | refine blk_alloc ?_ _)); refine blk_put (cs := #[.int .i64 a0_0, .slice none 0 0]) ?_ 1 _ rfl; (with_reducible repeat (first | refine blk_drewN ?_ _ | refine blk_drew ?_ | refine blk_alloc ?_ _)); refine blk_put (cs := #[.int .i64 0, .slice none 0 0]) ?_ 0 _ rfl; (with_reducible repeat (first | refine blk_drewN ?_ _ | refine blk_drew ?_ | refine blk_alloc ?_ _)); exact BK251.out) Try.underlying25 rfl (by kernel_rfl)) rfl ?_
    exact ⟨_, ers, by (with_reducible repeat (first | apply Kd.R_alloc | apply Kd.R_drewN | apply Kd.R_drew)); exact Kd.R_mono (Kd.R_far (p := ⟨gb251, 1, none⟩) (Kd.R_far (p := ⟨gb251, 0, none⟩) (Kd.R_types HO_253001.out BK251.out (by decide)) (fun _ hk => hk.2) (.int .i64 a0_0)) (fun _ hk => hk.2) (.slice Ao26 x253001_1.length co26)) (fun _ hk => trivial), by repeat (first | (with_reducible first | exact HB.out | apply bwA | apply bwN | apply bwD | refine below_set ?_ GE250.out | refine below_set ?_ GE251.out | refine below_set ?_ GE252.out) | exact HB.out)⟩

/-! ### spec_l8Told: function 62 -/
def spec_l8Told.f (a0_0 : Int) (l0_1 : List (S71)) (a1 : Int) : Option (Int × (List (S71)) × Int) := if a1 < 0 then (some (0, ([] : List (S71)), (-1))) else (some (a0_0, l0_1, a1))
set_option maxHeartbeats 8000000 in
set_option maxRecDepth 100000 in
theorem spec_l8Told.calls (a0_0 : Int) (P0_1_ : Nat → Prop) (u9000_ : Value) (l0_1 : List (S71)) (a1 : Int) (r1 : Int) (r2 : List (S71)) (r3 : Int) (w0 w : World) (hB : Below w0.heap.size w0 w) (ho0_1 : Kd.R k71 71 w w0.heap.size P0_1_ u9000_ l0_1) (h : spec_l8Told.f a0_0 l0_1 a1 = some (r1, r2, r3)) :
  Calls Try.prog 62 #[.agg #[.int .i64 a0_0, u9000_], .int .i64 a1] w fun e w' => ∃ v1_ : Value, e = .returned (.tuple #[.agg #[.int .i64 r1, v1_], .int .i64 r3]) ∧ Kd.R k71 71 w' w0.heap.size (fun k_ => (P0_1_ k_ ∨ w.heap.size ≤ k_)) v1_ r2 ∧ Below w0.heap.size w0 w' ∧ Kept w w' (fun k_ => P0_1_ k_) := by
 have hu25 := Try.underlying25
 have HO0_1 := Aside0.mk (show Kd.R k71 71 w w0.heap.size (fun k_ => (P0_1_ k_ ∨ w.heap.size ≤ k_)) u9000_ l0_1 from Kd.R_mono ho0_1 (fun k_ hk => (.inl hk)))
 have HK := Aside0.mk (Kept.refl w (fun k_ => P0_1_ k_))
 have HW0 := Aside0.mk hB.size
 have HB := Aside0.mk hB
 clear hB
 have H : (if a1 < 0 then (some (0, ([] : List (S71)), (-1))) else (some (a0_0, l0_1, a1))) = some (r1, r2, r3) := h
 clear h
 by_cases c3 : a1 < 0
 ·rw [if_pos c3] at H
  have c3b0 : decide (a1 < 0) = true := decide_eq_true c3
  clear c3
  simp only [Option.some.injEq, Prod.mk.injEq] at H
  obtain ⟨rfl, rfl, rfl⟩ := H
  obtain ⟨Ao4, co4, eo4⟩ := Kd.R_slice HO0_1.out
  subst eo4
  go_enter Try.func62, Try.ntmps62
  go_wp2_with (first | ((with_reducible refine gate_dst (N := 2) rfl ?_); refine box_event ?hg (N := 2) ?hd (cs := #[.int .i64 a0_0, .slice Ao4 l0_1.length co4]) (t := 25) ?hr ?_; (case hd => rfl); (case hg => rfl); (case hr => first | (go_simp; done) | (go_simp; rfl)); intro gb257 hg w5 hbox hb; have n0_ := Aside0.mk (Kd.R_below (rvR HO0_1.out) hb); have n1_ := Aside0.mk (Kept.below (S := (fun k_ => P0_1_ k_)) (by repeat (first | (with_reducible first | exact HK.out | apply Kept.alloc | apply Kept.drewN | apply Kept.drew) | exact HK.out)) hb); have n2_ := Aside0.mk (below_step (by repeat (first | (with_reducible first | exact HB.out | apply bwA | apply bwN | apply bwD) | exact HB.out)) hb); have n3_ := Aside0.mk (hbox); have n4_ := Aside0.mk ((by rw [hg]; exact (by first | exact HK.out.1 | exact (show Kept w _ (fun k_ => P0_1_ k_) from by repeat (first | (with_reducible first | exact HK.out | apply Kept.alloc | apply Kept.drewN | apply Kept.drew) | exact HK.out)).1) : w.heap.size ≤ gb257)); have n5_ := Aside0.mk ((by rw [hg]; exact (below_size (by repeat (first | (with_reducible first | exact HB.out | apply bwA | apply bwN | apply bwD) | exact HB.out))) : w0.heap.size ≤ gb257)); clear HO0_1; clear HK; clear HB; have HO0_1 := n0_; have HK := n1_; have HB := n2_; have BK257 := n3_; have GW257 := n4_; have GE257 := n5_; clear n0_ n1_ n2_ n3_ n4_ n5_; clear hb hbox hg) | ((with_reducible refine gate_dst (N := 4) rfl ?_); refine box_event ?hg (N := 4) ?hd (cs := #[.int .i64 0, .slice none 0 0]) (t := 25) ?hr ?_; (case hd => rfl); (case hg => rfl); (case hr => first | (go_simp; done) | (go_simp; rfl)); intro gb258 hg w6 hbox hb; have n0_ := Aside0.mk (Kd.R_below (rvR HO0_1.out) hb); have n1_ := Aside0.mk (blk_below (g := gb257) (o := .cells #[.int .i64 a0_0, .slice Ao4 l0_1.length co4] 25 (0, 0)) (bvK BK257.out) hb); have n2_ := Aside0.mk (Kept.below (S := (fun k_ => P0_1_ k_)) (by repeat (first | (with_reducible first | exact HK.out | apply Kept.alloc | apply Kept.drewN | apply Kept.drew | refine Kept.setCell ?_ (.inr GW257.out) _) | exact HK.out)) hb); have n3_ := Aside0.mk (below_step (by repeat (first | (with_reducible first | exact HB.out | apply bwA | apply bwN | apply bwD | refine below_set ?_ GE257.out) | exact HB.out)) hb); have n4_ := Aside0.mk (hbox); have n5_ := Aside0.mk ((by rw [hg]; exact (by first | exact HK.out.1 | exact (show Kept w _ (fun k_ => P0_1_ k_) from by repeat (first | (with_reducible first | exact HK.out | apply Kept.alloc | apply Kept.drewN | apply Kept.drew | refine Kept.setCell ?_ (.inr GW257.out) _) | exact HK.out)).1) : w.heap.size ≤ gb258)); have n6_ := Aside0.mk ((by rw [hg]; exact (below_size (by repeat (first | (with_reducible first | exact HB.out | apply bwA | apply bwN | apply bwD | refine below_set ?_ GE257.out) | exact HB.out))) : w0.heap.size ≤ gb258)); have n7_ := Aside0.mk ((by rw [hg]; exact Nat.ne_of_lt (blk_lt (g := gb257) (o := .cells #[.int .i64 a0_0, .slice Ao4 l0_1.length co4] 25 (0, 0)) (bvK BK257.out)) : gb257 ≠ gb258)); have n8_ := Aside0.mk ((by rw [hg]; exact Nat.ne_of_gt (blk_lt (g := gb257) (o := .cells #[.int .i64 a0_0, .slice Ao4 l0_1.length co4] 25 (0, 0)) (bvK BK257.out)) : gb258 ≠ gb257)); clear HO0_1; clear BK257; clear HK; clear HB; have HO0_1 := n0_; have BK257 := n1_; have HK := n2_; have HB := n3_; have BK258 := n4_; have GW258 := n5_; have GE258 := n6_; have NB257_258 := n7_; have NB258_257 := n8_; clear n0_ n1_ n2_ n3_ n4_ n5_ n6_ n7_ n8_; clear hb hbox hg; have hnb7 := NB258_257.out; have hnc7 := NB257_258.out; have hcz8_0 : w6.cell? ⟨gb258, 0, none⟩ = some (.int .i64 0) := (blk_cell BK258.out 0).trans rfl; have hcz8_1 : w6.cell? ⟨gb258, 1, none⟩ = some (.slice none 0 0) := (blk_cell BK258.out 1).trans rfl; have hfz8_0 := blk_frozen BK258.out 0; have hfz8_1 := blk_frozen BK258.out 1))
  refine bodyPost_ret (results_ct rfl _ _ gb258 25 #[.int .i64 0, .slice none 0 0] (0, 0) _ rfl (by (with_reducible repeat (first | refine blk_drewN ?_ _ | refine blk_drew ?_ | refine blk_alloc ?_ _)); refine blk_put (cs := #[.int .i64 0, .slice none 0 0]) ?_ 1 _ rfl; (with_reducible repeat (first | refine blk_drewN ?_ _ | refine blk_drew ?_ | refine blk_alloc ?_ _)); refine blk_put (cs := #[.int .i64 0, .slice none 0 0]) ?_ 0 _ rfl; (with_reducible repeat (first | refine blk_drewN ?_ _ | refine blk_drew ?_ | refine blk_alloc ?_ _)); exact BK258.out) Try.underlying25 rfl (by kernel_rfl)) rfl ?_
  exact ⟨_, ers, by first | exact Kd.R_nil _ _ _ _ _ | exact Kd.N_nil _ _ _ _ _ | exact Kd.V_nil _ _ _ _ _ | exact Kd.Q_nil _ _ _ _ _ | exact Kd.S_nil _ _ _ _ _, by repeat (first | (with_reducible first | exact HB.out | apply bwA | apply bwN | apply bwD | refine below_set ?_ GE257.out | refine below_set ?_ GE258.out) | exact HB.out), by repeat (first | (with_reducible first | exact HK.out | apply Kept.alloc | apply Kept.drewN | apply Kept.drew | refine Kept.setCell ?_ (.inr GW257.out) _ | refine Kept.setCell ?_ (.inr GW258.out) _) | exact HK.out)⟩
 ·rw [if_neg c3] at H
  have c3b0 : decide (a1 < 0) = false := decide_eq_false c3
  clear c3
  simp only [Option.some.injEq, Prod.mk.injEq] at H
  obtain ⟨rfl, rfl, rfl⟩ := H
  obtain ⟨Ao9, co9, eo9⟩ := Kd.R_slice HO0_1.out
  subst eo9
  go_enter Try.func62, Try.ntmps62
  go_wp2_with (first | ((with_reducible refine gate_dst (N := 2) rfl ?_); refine box_event ?hg (N := 2) ?hd (cs := #[.int .i64 a0_0, .slice Ao9 l0_1.length co9]) (t := 25) ?hr ?_; (case hd => rfl); (case hg => rfl); (case hr => first | (go_simp; done) | (go_simp; rfl)); intro gb257 hg w10 hbox hb; have n0_ := Aside0.mk (Kd.R_below (rvR HO0_1.out) hb); have n1_ := Aside0.mk (Kept.below (S := (fun k_ => P0_1_ k_)) (by repeat (first | (with_reducible first | exact HK.out | apply Kept.alloc | apply Kept.drewN | apply Kept.drew) | exact HK.out)) hb); have n2_ := Aside0.mk (below_step (by repeat (first | (with_reducible first | exact HB.out | apply bwA | apply bwN | apply bwD) | exact HB.out)) hb); have n3_ := Aside0.mk (hbox); have n4_ := Aside0.mk ((by rw [hg]; exact (by first | exact HK.out.1 | exact (show Kept w _ (fun k_ => P0_1_ k_) from by repeat (first | (with_reducible first | exact HK.out | apply Kept.alloc | apply Kept.drewN | apply Kept.drew) | exact HK.out)).1) : w.heap.size ≤ gb257)); have n5_ := Aside0.mk ((by rw [hg]; exact (below_size (by repeat (first | (with_reducible first | exact HB.out | apply bwA | apply bwN | apply bwD) | exact HB.out))) : w0.heap.size ≤ gb257)); clear HO0_1; clear HK; clear HB; have HO0_1 := n0_; have HK := n1_; have HB := n2_; have BK257 := n3_; have GW257 := n4_; have GE257 := n5_; clear n0_ n1_ n2_ n3_ n4_ n5_; clear hb hbox hg) | ((with_reducible refine gate_dst (N := 4) rfl ?_); refine box_event ?hg (N := 4) ?hd (cs := #[.int .i64 0, .slice none 0 0]) (t := 25) ?hr ?_; (case hd => rfl); (case hg => rfl); (case hr => first | (go_simp; done) | (go_simp; rfl)); intro gb258 hg w11 hbox hb; have n0_ := Aside0.mk (Kd.R_below (rvR HO0_1.out) hb); have n1_ := Aside0.mk (blk_below (g := gb257) (o := .cells #[.int .i64 a0_0, .slice Ao9 l0_1.length co9] 25 (0, 0)) (bvK BK257.out) hb); have n2_ := Aside0.mk (Kept.below (S := (fun k_ => P0_1_ k_)) (by repeat (first | (with_reducible first | exact HK.out | apply Kept.alloc | apply Kept.drewN | apply Kept.drew | refine Kept.setCell ?_ (.inr GW257.out) _) | exact HK.out)) hb); have n3_ := Aside0.mk (below_step (by repeat (first | (with_reducible first | exact HB.out | apply bwA | apply bwN | apply bwD | refine below_set ?_ GE257.out) | exact HB.out)) hb); have n4_ := Aside0.mk (hbox); have n5_ := Aside0.mk ((by rw [hg]; exact (by first | exact HK.out.1 | exact (show Kept w _ (fun k_ => P0_1_ k_) from by repeat (first | (with_reducible first | exact HK.out | apply Kept.alloc | apply Kept.drewN | apply Kept.drew | refine Kept.setCell ?_ (.inr GW257.out) _) | exact HK.out)).1) : w.heap.size ≤ gb258)); have n6_ := Aside0.mk ((by rw [hg]; exact (below_size (by repeat (first | (with_reducible first | exact HB.out | apply bwA | apply bwN | apply bwD | refine below_set ?_ GE257.out) | exact HB.out))) : w0.heap.size ≤ gb258)); have n7_ := Aside0.mk ((by rw [hg]; exact Nat.ne_of_lt (blk_lt (g := gb257) (o := .cells #[.int .i64 a0_0, .slice Ao9 l0_1.length co9] 25 (0, 0)) (bvK BK257.out)) : gb257 ≠ gb258)); have n8_ := Aside0.mk ((by rw [hg]; exact Nat.ne_of_gt (blk_lt (g := gb257) (o := .cells #[.int .i64 a0_0, .slice Ao9 l0_1.length co9] 25 (0, 0)) (bvK BK257.out)) : gb258 ≠ gb257)); clear HO0_1; clear BK257; clear HK; clear HB; have HO0_1 := n0_; have BK257 := n1_; have HK := n2_; have HB := n3_; have BK258 := n4_; have GW258 := n5_; have GE258 := n6_; have NB257_258 := n7_; have NB258_257 := n8_; clear n0_ n1_ n2_ n3_ n4_ n5_ n6_ n7_ n8_; clear hb hbox hg; have hnb12 := NB257_258.out; have hnc12 := NB258_257.out; have hcz13_0 : w11.cell? ⟨gb257, 0, none⟩ = some (.int .i64 a0_0) := (blk_cell BK257.out 0).trans rfl; have hcz13_1 : w11.cell? ⟨gb257, 1, none⟩ = some (.slice Ao9 l0_1.length co9) := (blk_cell BK257.out 1).trans rfl; have hfz13_0 := blk_frozen BK257.out 0; have hfz13_1 := blk_frozen BK257.out 1; have hcz14_0 : w11.cell? ⟨gb258, 0, none⟩ = some (.int .i64 0) := (blk_cell BK258.out 0).trans rfl; have hcz14_1 : w11.cell? ⟨gb258, 1, none⟩ = some (.slice none 0 0) := (blk_cell BK258.out 1).trans rfl; have hfz14_0 := blk_frozen BK258.out 0; have hfz14_1 := blk_frozen BK258.out 1))
  refine bodyPost_ret (results_ct rfl _ _ gb258 25 #[.int .i64 a0_0, .slice Ao9 l0_1.length co9] (0, 0) _ rfl (by (with_reducible repeat (first | refine blk_drewN ?_ _ | refine blk_drew ?_ | refine blk_alloc ?_ _)); refine blk_put (cs := #[.int .i64 a0_0, .slice none 0 0]) ?_ 1 _ rfl; (with_reducible repeat (first | refine blk_drewN ?_ _ | refine blk_drew ?_ | refine blk_alloc ?_ _)); refine blk_put (cs := #[.int .i64 0, .slice none 0 0]) ?_ 0 _ rfl; (with_reducible repeat (first | refine blk_drewN ?_ _ | refine blk_drew ?_ | refine blk_alloc ?_ _)); exact BK258.out) Try.underlying25 rfl (by kernel_rfl)) rfl ?_
  exact ⟨_, ers, by (with_reducible repeat (first | apply Kd.R_alloc | apply Kd.R_drewN | apply Kd.R_drew)); exact Kd.R_mono (Kd.R_far (p := ⟨gb258, 1, none⟩) (Kd.R_far (p := ⟨gb258, 0, none⟩) (Kd.R_types HO0_1.out BK258.out (by decide)) (fun _ hk => hk.2) (.int .i64 a0_0)) (fun _ hk => hk.2) (.slice Ao9 l0_1.length co9)) (fun _ hk => hk.1), by repeat (first | (with_reducible first | exact HB.out | apply bwA | apply bwN | apply bwD | refine below_set ?_ GE257.out | refine below_set ?_ GE258.out) | exact HB.out), by repeat (first | (with_reducible first | exact HK.out | apply Kept.alloc | apply Kept.drewN | apply Kept.drew | refine Kept.setCell ?_ (.inr GW257.out) _ | refine Kept.setCell ?_ (.inr GW258.out) _) | exact HK.out)⟩

/-! ### spec_AddFork: function 15 -/
def spec_AddFork.j0 : Nat → Int → Int → Int → Bool → Int → List (S71) → Option (Int × (List (S71)) × Int)
 | 0, _, _, _, _, _, _ => none
 | k + 1, x1, x2, x3, x27, x260000, x260001 => if x27 = true then (some (0, ([] : List (S71)), (-1))) else ((spec_l8Copy.f k x260000 x260001).bind fun bt263 => ((spec_l8Add.f bt263.1 bt263.2 x1 x2 x3).bind fun bt267 => ((spec_l8Told.f bt267.1 bt267.2.1 bt267.2.2).bind fun bt273 => (some (bt273.1, bt273.2.1, bt273.2.2)))))
def spec_AddFork.f (k : Nat) (a0_0 : Int) (l0_1 : List (S71)) (a1 : Int) (a2 : Int) (a3 : Int) : Option (Int × (List (S71)) × Int) := (spec_DiagramValid.f k a0_0 l0_1).bind fun t261 => (if t261 = true then ((spec_l8Fork.f k a0_0 l0_1 a1 a2 a3 (wrap64 ((l0_1.length : Int) + 1))).bind fun t262 => (spec_AddFork.j0 k a1 a2 a3 (!t262) a0_0 l0_1)) else (spec_AddFork.j0 k a1 a2 a3 true a0_0 l0_1))
theorem spec_AddFork.mono_l : ∀ k, (∀ y0 y1 y2 y3 y4 y5, LeO (spec_AddFork.j0 k y0 y1 y2 y3 y4 y5) (spec_AddFork.j0 (k + 1) y0 y1 y2 y3 y4 y5))
 | 0 => fun _ _ _ _ _ _ r h => by simp [spec_AddFork.j0] at h
 | k + 1 => by
  have ih0 := spec_AddFork.mono_l k
  ·intro y0 y1 y2 y3 y4 y5
   unfold spec_AddFork.j0
   repeat' first
   | (with_reducible exact ih0 _ _ _ _ _ _)
   | (with_reducible exact spec_DiagramValid.mono _ _ _)
   | (with_reducible exact spec_l8Copy.mono _ _ _)
   | (with_reducible exact spec_l8Fork.mono _ _ _ _ _ _ _)
   | (with_reducible exact LeO.refl _)
   | (with_reducible exact LeO.none _)
   | (with_reducible refine LeO.ite ?_ ?_)
   | (with_reducible refine LeO.bind ?_ (fun _ => ?_))
   | exact ih0 _ _ _ _ _ _
   | exact spec_DiagramValid.mono _ _ _
   | exact spec_l8Copy.mono _ _ _
   | exact spec_l8Fork.mono _ _ _ _ _ _ _
   | exact LeO.none _
   | refine LeO.ite ?_ ?_
   | refine LeO.bind ?_ (fun _ => ?_)
theorem spec_AddFork.mono : ∀ a0 a1 a2 a3 a4 k, LeO (spec_AddFork.f k a0 a1 a2 a3 a4) (spec_AddFork.f (k + 1) a0 a1 a2 a3 a4) := by
 intro a0 a1 a2 a3 a4 k
 have ih0 := spec_AddFork.mono_l k
 unfold spec_AddFork.f
 repeat' first
   | (with_reducible exact ih0 _ _ _ _ _ _)
   | (with_reducible exact spec_DiagramValid.mono _ _ _)
   | (with_reducible exact spec_l8Copy.mono _ _ _)
   | (with_reducible exact spec_l8Fork.mono _ _ _ _ _ _ _)
   | (with_reducible exact LeO.refl _)
   | (with_reducible exact LeO.none _)
   | (with_reducible refine LeO.ite ?_ ?_)
   | (with_reducible refine LeO.bind ?_ (fun _ => ?_))
   | exact ih0 _ _ _ _ _ _
   | exact spec_DiagramValid.mono _ _ _
   | exact spec_l8Copy.mono _ _ _
   | exact spec_l8Fork.mono _ _ _ _ _ _ _
   | exact LeO.none _
   | refine LeO.ite ?_ ?_
   | refine LeO.bind ?_ (fun _ => ?_)
set_option maxHeartbeats 8000000 in
set_option maxRecDepth 100000 in
theorem spec_AddFork.calls (k : Nat) (a0_0 : Int) (A0_1 : Option Addr) (c0_1 : Nat) (l0_1 : List (S71)) (a1 : Int) (a2 : Int) (a3 : Int) (r1 : Int) (r2 : List (S71)) (r3 : Int) (w : World) (hr0_1 : Kd.C k71 w A0_1 l0_1.length l0_1) (hc0_1 : l0_1.length ≤ c0_1) (h : spec_AddFork.f k a0_0 l0_1 a1 a2 a3 = some (r1, r2, r3)) :
  Calls Try.prog 15 #[.agg #[.int .i64 a0_0, .slice A0_1 l0_1.length c0_1], .int .i64 a1, .int .i64 a2, .int .i64 a3] w fun e w' => ∃ v1_ : Value, e = .returned (.tuple #[.agg #[.int .i64 r1, v1_], .int .i64 r3]) ∧ Kd.R k71 71 w' w.heap.size (fun _ => True) v1_ r2 ∧ Below w.heap.size w w' := by
 have hu25 := Try.underlying25
 have hu71 := Try.underlying71
 have HR0_1 := Aside0.mk hr0_1
 have HC0_1 := Aside0.mk hc0_1
 clear hr0_1 hc0_1
 have HB := Aside0.mk (Below.refl w.heap.size w)
 have H : ((spec_DiagramValid.f k a0_0 l0_1).bind fun t261 => (if t261 = true then ((spec_l8Fork.f k a0_0 l0_1 a1 a2 a3 (wrap64 ((l0_1.length : Int) + 1))).bind fun t262 => (spec_AddFork.j0 k a1 a2 a3 (!t262) a0_0 l0_1)) else (spec_AddFork.j0 k a1 a2 a3 true a0_0 l0_1))) = some (r1, r2, r3) := h
 clear h
 have HC5 := Aside0.mk H
 clear H
 go_enter Try.func15, Try.ntmps15
 go_upto_region 1 with (first | ((with_reducible refine gate_dst (N := 4) rfl ?_); (try (refine gate_guard (by rfl) ?_; dsimp only)); refine box_event ?hg (N := 4) ?hd (cs := #[.int .i64 a0_0, .slice A0_1 l0_1.length c0_1]) (t := 25) ?hr ?_; (case hd => rfl); (case hg => rfl); (case hr => first | (go_simp; done) | (go_simp; rfl)); intro gb259 hg w6 hbox hb; have n0_ := Aside0.mk (below_step (by repeat (first | (with_reducible first | exact HB.out | apply bwA | apply bwN | apply bwD) | exact HB.out)) hb); have n1_ := Aside0.mk (hbox); have n2_ := Aside0.mk ((by rw [hg]; exact (below_size (by repeat (first | (with_reducible first | exact HB.out | apply bwA | apply bwN | apply bwD) | exact HB.out))) : w.heap.size ≤ gb259)); have n3_ := Aside0.mk ((by rw [hg]; exact (below_size (by repeat (first | (with_reducible first | exact HB.out | apply bwA | apply bwN | apply bwD) | exact HB.out))) : w.heap.size ≤ gb259)); clear HB; have HB := n0_; have BK259 := n1_; have GW259 := n2_; have GE259 := n3_; clear n0_ n1_ n2_ n3_; clear hb hbox hg) | ((with_reducible refine gate_dst (N := 8) rfl ?_); (try (refine gate_guard (by rfl) ?_; dsimp only)); refine box_event ?hg (N := 8) ?hd (cs := #[.int .i64 0, .slice none 0 0]) (t := 25) ?hr ?_; (case hd => rfl); (case hg => rfl); (case hr => first | (go_simp; done) | (go_simp; rfl)); intro gb260 hg w7 hbox hb; have n0_ := Aside0.mk (blk_below (g := gb259) (o := .cells #[.int .i64 a0_0, .slice A0_1 l0_1.length c0_1] 25 (0, 0)) (bvK BK259.out) hb); have n1_ := Aside0.mk (below_step (by repeat (first | (with_reducible first | exact HB.out | apply bwA | apply bwN | apply bwD | refine below_set ?_ GE259.out) | exact HB.out)) hb); have n2_ := Aside0.mk (hbox); have n3_ := Aside0.mk ((by rw [hg]; exact (below_size (by repeat (first | (with_reducible first | exact HB.out | apply bwA | apply bwN | apply bwD | refine below_set ?_ GE259.out) | exact HB.out))) : w.heap.size ≤ gb260)); have n4_ := Aside0.mk ((by rw [hg]; exact (below_size (by repeat (first | (with_reducible first | exact HB.out | apply bwA | apply bwN | apply bwD | refine below_set ?_ GE259.out) | exact HB.out))) : w.heap.size ≤ gb260)); have n5_ := Aside0.mk ((by rw [hg]; exact Nat.ne_of_lt (blk_lt (g := gb259) (o := .cells #[.int .i64 a0_0, .slice A0_1 l0_1.length c0_1] 25 (0, 0)) (bvK BK259.out)) : gb259 ≠ gb260)); have n6_ := Aside0.mk ((by rw [hg]; exact Nat.ne_of_gt (blk_lt (g := gb259) (o := .cells #[.int .i64 a0_0, .slice A0_1 l0_1.length c0_1] 25 (0, 0)) (bvK BK259.out)) : gb260 ≠ gb259)); clear BK259; clear HB; have BK259 := n0_; have HB := n1_; have BK260 := n2_; have GW260 := n3_; have GE260 := n4_; have NB259_260 := n5_; have NB260_259 := n6_; clear n0_ n1_ n2_ n3_ n4_ n5_ n6_; clear hb hbox hg))
 (try simp only [Act.put, List.setIfInBounds_toArray, List.set_cons_zero, List.set_cons_succ])
 go_cut [27] (fun v27 wc => ∃ (kq : Nat) (x27_4 : Bool), v27 = .bool x27_4 ∧ Aside0 (spec_AddFork.j0 kq a1 a2 a3 x27_4 a0_0 l0_1 = some (r1, r2, r3)) ∧ Aside0 (kq ≤ k) ∧ Aside0 (wc.heap[gb259]? = some (.cells #[.int .i64 a0_0, (.slice A0_1 l0_1.length c0_1)] 25 (0, 0))) ∧ Aside0 (wc.heap[gb260]? = some (.cells #[.int .i64 0, (.slice none 0 0)] 25 (0, 0))) ∧ Aside0 (Below w.heap.size w wc))
 case first =>
  have H := HC5.out
  clear HC5
  replace H := Option.bind_eq_some_iff.mp H
  obtain ⟨t261, A80, H⟩ := H
  replace H : (if t261 = true then ((spec_l8Fork.f k a0_0 l0_1 a1 a2 a3 (wrap64 ((l0_1.length : Int) + 1))).bind fun t262 => (spec_AddFork.j0 k a1 a2 a3 (!t262) a0_0 l0_1)) else (spec_AddFork.j0 k a1 a2 a3 true a0_0 l0_1)) = some (r1, r2, r3) := H
  have A8 := Aside0.mk A80
  clear A80
  by_cases c9 : t261 = true
  ·subst c9
   have H1 : ((spec_l8Fork.f k a0_0 l0_1 a1 a2 a3 (wrap64 ((l0_1.length : Int) + 1))).bind fun t262 => (spec_AddFork.j0 k a1 a2 a3 (!t262) a0_0 l0_1)) = some (r1, r2, r3) := by rw [if_pos rfl] at H; exact H
   clear H
   have H := H1
   clear H1
   replace H := Option.bind_eq_some_iff.mp H
   obtain ⟨t262, A100, H⟩ := H
   replace H : (spec_AddFork.j0 k a1 a2 a3 (!t262) a0_0 l0_1) = some (r1, r2, r3) := H
   have A10 := Aside0.mk A100
   clear A100
   have H' := Aside0.mk H
   clear H
   have hnb11 := NB259_260.out
   have hnc11 := NB260_259.out
   have hcz12_0 : w7.cell? ⟨gb259, 0, none⟩ = some (.int .i64 a0_0) := (blk_cell BK259.out 0).trans rfl
   have hcz12_1 : w7.cell? ⟨gb259, 1, none⟩ = some (.slice A0_1 l0_1.length c0_1) := (blk_cell BK259.out 1).trans rfl
   have hfz12_0 := blk_frozen BK259.out 0
   have hfz12_1 := blk_frozen BK259.out 1
   go_wp2_with (first | ((with_reducible refine gate_callee (f := 58) rfl ?_); refine goesL_ (some 13) rfl rfl Try.func58 (by kernel_rfl) rfl #[.agg #[.int .i64 a0_0, .slice A0_1 l0_1.length c0_1]] rfl lmB ?_; (with_reducible refine (spec_DiagramValid.calls k a0_0 _ _ l0_1 true _ ?side1 ?side2 A8.out).mono ?_); (case side1 => repeat (first | exact (Kd.C_below HR0_1.out HB.out) | (with_reducible refine Kd.C_alloc ?_ _) | (with_reducible refine Kd.C_drewN ?_ _) | (with_reducible refine Kd.C_drew ?_))); (case side2 => exact HC0_1.out); rintro e w13 ⟨rfl, hb⟩; refine ⟨_, rfl, ?_⟩; have n0_ := Aside0.mk (blk_below (g := gb259) (o := .cells #[.int .i64 a0_0, .slice A0_1 l0_1.length c0_1] 25 (0, 0)) (bvK BK259.out) hb); have n1_ := Aside0.mk (blk_below (g := gb260) (o := .cells #[.int .i64 0, .slice none 0 0] 25 (0, 0)) (bvK BK260.out) hb); have n2_ := Aside0.mk (below_step (by repeat (first | (with_reducible first | exact HB.out | apply bwA | apply bwN | apply bwD | refine below_set ?_ GE259.out | refine below_set ?_ GE260.out) | exact HB.out)) hb); clear BK259; clear BK260; clear HB; have BK259 := n0_; have BK260 := n1_; have HB := n2_; clear n0_ n1_ n2_; (try clear hb); (try clear hb2); (try clear hk); (try clear hi); have hcz14_0 : w13.cell? ⟨gb259, 0, none⟩ = some (.int .i64 a0_0) := (blk_cell BK259.out 0).trans rfl; have hcz14_1 : w13.cell? ⟨gb259, 1, none⟩ = some (.slice A0_1 l0_1.length c0_1) := (blk_cell BK259.out 1).trans rfl; have hfz14_0 := blk_frozen BK259.out 0; have hfz14_1 := blk_frozen BK259.out 1) | (go_at_call 59; (with_reducible refine (spec_l8Fork.calls k a0_0 _ _ l0_1 a1 a2 a3 (wrap64 ((l0_1.length : Int) + 1)) t262 _ ?side1 ?side2 A10.out).mono ?_); (case side1 => repeat (first | exact (Kd.C_below HR0_1.out HB.out) | (with_reducible refine Kd.C_alloc ?_ _) | (with_reducible refine Kd.C_drewN ?_ _) | (with_reducible refine Kd.C_drew ?_))); (case side2 => exact HC0_1.out); rintro e w15 ⟨rfl, hb⟩; have n0_ := Aside0.mk (blk_below (g := gb259) (o := .cells #[.int .i64 a0_0, .slice A0_1 l0_1.length c0_1] 25 (0, 0)) (bvK BK259.out) hb); have n1_ := Aside0.mk (blk_below (g := gb260) (o := .cells #[.int .i64 0, .slice none 0 0] 25 (0, 0)) (bvK BK260.out) hb); have n2_ := Aside0.mk (below_step (by repeat (first | (with_reducible first | exact HB.out | apply bwA | apply bwN | apply bwD | refine below_set ?_ GE259.out | refine below_set ?_ GE260.out) | exact HB.out)) hb); clear BK259; clear BK260; clear HB; have BK259 := n0_; have BK260 := n1_; have HB := n2_; clear n0_ n1_ n2_; (try clear hb); (try clear hb2); (try clear hk); (try clear hi)))
   go_meet
   case rel => exact ⟨_, (!t262), rsd, H', ⟨by first | omega | exact Nat.le_refl _⟩, ⟨bvK BK259.out⟩, ⟨bvK BK260.out⟩, ⟨by repeat (first | (with_reducible first | exact HB.out | apply bwA | apply bwN | apply bwD | refine below_set ?_ GE259.out | refine below_set ?_ GE260.out) | exact HB.out)⟩⟩
  ·replace c9 := Bool.eq_false_iff.mpr c9
   subst c9
   have H1 : (spec_AddFork.j0 k a1 a2 a3 true a0_0 l0_1) = some (r1, r2, r3) := by rw [if_neg (show ¬ (false = true) by decide)] at H; exact H
   clear H
   have H := H1
   clear H1
   have H' := Aside0.mk H
   clear H
   have hnb16 := NB259_260.out
   have hnc16 := NB260_259.out
   have hcz17_0 : w7.cell? ⟨gb259, 0, none⟩ = some (.int .i64 a0_0) := (blk_cell BK259.out 0).trans rfl
   have hcz17_1 : w7.cell? ⟨gb259, 1, none⟩ = some (.slice A0_1 l0_1.length c0_1) := (blk_cell BK259.out 1).trans rfl
   have hfz17_0 := blk_frozen BK259.out 0
   have hfz17_1 := blk_frozen BK259.out 1
   go_wp2_with (first | ((with_reducible refine gate_callee (f := 58) rfl ?_); refine goesL_ (some 13) rfl rfl Try.func58 (by kernel_rfl) rfl #[.agg #[.int .i64 a0_0, .slice A0_1 l0_1.length c0_1]] rfl lmB ?_; (with_reducible refine (spec_DiagramValid.calls k a0_0 _ _ l0_1 false _ ?side1 ?side2 A8.out).mono ?_); (case side1 => repeat (first | exact (Kd.C_below HR0_1.out HB.out) | (with_reducible refine Kd.C_alloc ?_ _) | (with_reducible refine Kd.C_drewN ?_ _) | (with_reducible refine Kd.C_drew ?_))); (case side2 => exact HC0_1.out); rintro e w18 ⟨rfl, hb⟩; refine ⟨_, rfl, ?_⟩; have n0_ := Aside0.mk (blk_below (g := gb259) (o := .cells #[.int .i64 a0_0, .slice A0_1 l0_1.length c0_1] 25 (0, 0)) (bvK BK259.out) hb); have n1_ := Aside0.mk (blk_below (g := gb260) (o := .cells #[.int .i64 0, .slice none 0 0] 25 (0, 0)) (bvK BK260.out) hb); have n2_ := Aside0.mk (below_step (by repeat (first | (with_reducible first | exact HB.out | apply bwA | apply bwN | apply bwD | refine below_set ?_ GE259.out | refine below_set ?_ GE260.out) | exact HB.out)) hb); clear BK259; clear BK260; clear HB; have BK259 := n0_; have BK260 := n1_; have HB := n2_; clear n0_ n1_ n2_; (try clear hb); (try clear hb2); (try clear hk); (try clear hi)))
   go_meet
   case rel => exact ⟨_, (true), rsd, H', ⟨by first | omega | exact Nat.le_refl _⟩, ⟨bvK BK259.out⟩, ⟨bvK BK260.out⟩, ⟨by repeat (first | (with_reducible first | exact HB.out | apply bwA | apply bwN | apply bwD | refine below_set ?_ GE259.out | refine below_set ?_ GE260.out) | exact HB.out)⟩⟩
 case rest =>
  clear HC5
  try clear c1
  try clear p2
  try clear c5
  try clear p6
  try clear c9
  try clear c11
  try clear c15
  try clear c16
  try clear hcz12_0
  try clear hcz12_1
  try clear hcz14_0
  try clear hcz14_1
  try clear hcz17_0
  try clear hcz17_1
  try clear hfz12_0
  try clear hfz12_1
  try clear hfz14_0
  try clear hfz14_1
  try clear hfz17_0
  try clear hfz17_1
  obtain ⟨kq, x27_4, rfl, HA, HJ4, BK259, BK260, HB⟩ := hcut
  cases kq with
  | zero => exact absurd HA.out (by simp [spec_AddFork.j0])
  | succ kj4 =>
   have H := HA.out
   clear HA
   simp only [spec_AddFork.j0] at H
   by_cases c19 : x27_4 = true
   ·subst c19
    have H1 : (some (0, ([] : List (S71)), (-1))) = some (r1, r2, r3) := by rw [if_pos rfl] at H; exact H
    clear H
    have H := H1
    clear H1
    simp only [Option.some.injEq, Prod.mk.injEq] at H
    obtain ⟨rfl, rfl, rfl⟩ := H
    have hnb20 := NB260_259.out
    have hnc20 := NB259_260.out
    have hcz21_0 : wc.cell? ⟨gb260, 0, none⟩ = some (.int .i64 0) := (blk_cell BK260.out 0).trans rfl
    have hcz21_1 : wc.cell? ⟨gb260, 1, none⟩ = some (.slice none 0 0) := (blk_cell BK260.out 1).trans rfl
    have hfz21_0 := blk_frozen BK260.out 0
    have hfz21_1 := blk_frozen BK260.out 1
    go_wp2
    refine bodyPost_ret (results_ct rfl _ _ gb260 25 #[.int .i64 0, .slice none 0 0] (0, 0) _ rfl (by (with_reducible repeat (first | refine blk_drewN ?_ _ | refine blk_drew ?_ | refine blk_alloc ?_ _)); refine blk_put (cs := #[.int .i64 0, .slice none 0 0]) ?_ 1 _ rfl; (with_reducible repeat (first | refine blk_drewN ?_ _ | refine blk_drew ?_ | refine blk_alloc ?_ _)); refine blk_put (cs := #[.int .i64 0, .slice none 0 0]) ?_ 0 _ rfl; (with_reducible repeat (first | refine blk_drewN ?_ _ | refine blk_drew ?_ | refine blk_alloc ?_ _)); exact BK260.out) Try.underlying25 rfl (by kernel_rfl)) rfl ?_
    exact ⟨_, ers, by first | exact Kd.R_nil _ _ _ _ _ | exact Kd.N_nil _ _ _ _ _ | exact Kd.V_nil _ _ _ _ _ | exact Kd.Q_nil _ _ _ _ _ | exact Kd.S_nil _ _ _ _ _, by repeat (first | (with_reducible first | exact HB.out | apply bwA | apply bwN | apply bwD | refine below_set ?_ GE259.out | refine below_set ?_ GE260.out) | exact HB.out)⟩
   ·replace c19 := Bool.eq_false_iff.mpr c19
    subst c19
    have H1 : ((spec_l8Copy.f kj4 a0_0 l0_1).bind fun bt263 => ((spec_l8Add.f bt263.1 bt263.2 a1 a2 a3).bind fun bt267 => ((spec_l8Told.f bt267.1 bt267.2.1 bt267.2.2).bind fun bt273 => (some (bt273.1, bt273.2.1, bt273.2.2))))) = some (r1, r2, r3) := by rw [if_neg (show ¬ (false = true) by decide)] at H; exact H
    clear H
    have H := H1
    clear H1
    replace H := Option.bind_eq_some_iff.mp H
    obtain ⟨⟨t263, t264⟩, A220, H⟩ := H
    replace H : ((spec_l8Add.f t263 t264 a1 a2 a3).bind fun bt267 => ((spec_l8Told.f bt267.1 bt267.2.1 bt267.2.2).bind fun bt273 => (some (bt273.1, bt273.2.1, bt273.2.2)))) = some (r1, r2, r3) := H
    have A22 := Aside0.mk A220
    clear A220
    replace H := Option.bind_eq_some_iff.mp H
    obtain ⟨⟨t267, t268, t271⟩, A230, H⟩ := H
    replace H : ((spec_l8Told.f t267 t268 t271).bind fun bt273 => (some (bt273.1, bt273.2.1, bt273.2.2))) = some (r1, r2, r3) := H
    have A23 := Aside0.mk A230
    clear A230
    replace H := Option.bind_eq_some_iff.mp H
    obtain ⟨⟨t273, t274, t277⟩, A240, H⟩ := H
    replace H : (some (t273, t274, t277)) = some (r1, r2, r3) := H
    have A24 := Aside0.mk A240
    clear A240
    simp only [Option.some.injEq, Prod.mk.injEq] at H
    obtain ⟨rfl, rfl, rfl⟩ := H
    have hnb25 := NB259_260.out
    have hnc25 := NB260_259.out
    have hcz26_0 : wc.cell? ⟨gb259, 0, none⟩ = some (.int .i64 a0_0) := (blk_cell BK259.out 0).trans rfl
    have hcz26_1 : wc.cell? ⟨gb259, 1, none⟩ = some (.slice A0_1 l0_1.length c0_1) := (blk_cell BK259.out 1).trans rfl
    have hfz26_0 := blk_frozen BK259.out 0
    have hfz26_1 := blk_frozen BK259.out 1
    go_wp2_with (first | ((with_reducible refine gate_callee (f := 61) rfl ?_); refine goesL_ (some 31) rfl rfl Try.func61 (by kernel_rfl) rfl #[.agg #[.int .i64 a0_0, .slice A0_1 l0_1.length c0_1]] rfl lmB ?_; (with_reducible refine (spec_l8Copy.calls kj4 a0_0 _ _ l0_1 t263 t264 _ ?side1 ?side2 A22.out).mono ?_); (case side1 => repeat (first | exact (Kd.C_below HR0_1.out HB.out) | (with_reducible refine Kd.C_alloc ?_ _) | (with_reducible refine Kd.C_drewN ?_ _) | (with_reducible refine Kd.C_drew ?_))); (case side2 => exact HC0_1.out); rintro e w27 ⟨v265, rfl, ho0, hb⟩; refine ⟨_, rfl, ?_⟩; have n0_ := Aside0.mk (Kd.R_lower ho0 (below_size (by repeat (first | (with_reducible first | exact HB.out | apply bwA | apply bwN | apply bwD | refine below_set ?_ GE259.out | refine below_set ?_ GE260.out) | exact HB.out)))); have n1_ := Aside0.mk (blk_below (g := gb259) (o := .cells #[.int .i64 a0_0, .slice A0_1 l0_1.length c0_1] 25 (0, 0)) (bvK BK259.out) hb); have n2_ := Aside0.mk (blk_below (g := gb260) (o := .cells #[.int .i64 0, .slice none 0 0] 25 (0, 0)) (bvK BK260.out) hb); have n3_ := Aside0.mk (below_step (by repeat (first | (with_reducible first | exact HB.out | apply bwA | apply bwN | apply bwD | refine below_set ?_ GE259.out | refine below_set ?_ GE260.out) | exact HB.out)) hb); clear BK259; clear BK260; clear HB; have HO266 := n0_; have BK259 := n1_; have BK260 := n2_; have HB := n3_; clear n0_ n1_ n2_ n3_; (try clear hb); (try clear hb2); (try clear hk); (try clear hi); (try clear ho0); obtain ⟨Ao28, co28, eo28⟩ := Kd.R_slice HO266.out; subst eo28) | ((with_reducible refine gate_callee (f := 60) rfl ?_); refine goesL_ (some 35) rfl rfl Try.func60 (by kernel_rfl) rfl #[.agg #[.int .i64 t263, .slice Ao28 t264.length co28], .int .i64 a1, .int .i64 a2, .int .i64 a3] rfl lmB ?_; (with_reducible refine (spec_l8Add.calls t263 (fun k_ => some k_ = (.slice Ao28 t264.length co28 : Value).ownBlock) (.slice Ao28 t264.length co28) t264 a1 a2 a3 t267 t268 t271 w _ ?side1 ?side2 A23.out).mono ?_); (case side1 => repeat (first | (with_reducible first | exact HB.out | apply bwA | apply bwN | apply bwD | refine below_set ?_ GE259.out | refine below_set ?_ GE260.out) | exact HB.out)); (case side2 => exact Kd.R_tight rfl HO266.out); rintro e w29 ⟨v269, rfl, ho0, hb, hkp⟩; refine ⟨_, rfl, ?_⟩; have n0_ := Aside0.mk (blk_kept (bvK BK259.out) hkp (fun hs_ => (fun e_ => (Kd.R_ne HO266.out BK259.out (by decide)) e_) hs_)); have n1_ := Aside0.mk (blk_kept (bvK BK260.out) hkp (fun hs_ => (fun e_ => (Kd.R_ne HO266.out BK260.out (by decide)) e_) hs_)); have n2_ := Aside0.mk (Kd.R_mono (ok' := fun k_ => True) ho0 (fun k_ hk_ => trivial)); have n3_ := Aside0.mk (hb); clear BK259; clear BK260; clear HB; clear HO266; have BK259 := n0_; have BK260 := n1_; have HO270 := n2_; have HB := n3_; clear n0_ n1_ n2_ n3_; (try clear hb); (try clear hkp); (try clear ho0)) | ((with_reducible refine gate_dst (N := 10) rfl ?_); (try (refine gate_guard (by rfl) ?_; dsimp only)); refine box_event ?hg (N := 10) ?hd (cs := #[.int .i64 0, .slice none 0 0]) (t := 25) ?hr ?_; (case hd => rfl); (case hg => rfl); (case hr => first | (go_simp; done) | (go_simp; rfl)); intro gb272 hg w30 hbox hb; have n0_ := Aside0.mk (Kd.R_below (rvR HO270.out) hb); have n1_ := Aside0.mk (blk_below (g := gb259) (o := .cells #[.int .i64 a0_0, .slice A0_1 l0_1.length c0_1] 25 (0, 0)) (bvK BK259.out) hb); have n2_ := Aside0.mk (blk_below (g := gb260) (o := .cells #[.int .i64 0, .slice none 0 0] 25 (0, 0)) (bvK BK260.out) hb); have n3_ := Aside0.mk (below_step (by repeat (first | (with_reducible first | exact HB.out | apply bwA | apply bwN | apply bwD | refine below_set ?_ GE259.out | refine below_set ?_ GE260.out) | exact HB.out)) hb); have n4_ := Aside0.mk (hbox); have n5_ := Aside0.mk ((by rw [hg]; exact (below_size (by repeat (first | (with_reducible first | exact HB.out | apply bwA | apply bwN | apply bwD | refine below_set ?_ GE259.out | refine below_set ?_ GE260.out) | exact HB.out))) : w.heap.size ≤ gb272)); have n6_ := Aside0.mk ((by rw [hg]; exact (below_size (by repeat (first | (with_reducible first | exact HB.out | apply bwA | apply bwN | apply bwD | refine below_set ?_ GE259.out | refine below_set ?_ GE260.out) | exact HB.out))) : w.heap.size ≤ gb272)); have n7_ := Aside0.mk ((by rw [hg]; exact Nat.ne_of_lt (blk_lt (g := gb259) (o := .cells #[.int .i64 a0_0, .slice A0_1 l0_1.length c0_1] 25 (0, 0)) (bvK BK259.out)) : gb259 ≠ gb272)); have n8_ := Aside0.mk ((by rw [hg]; exact Nat.ne_of_gt (blk_lt (g := gb259) (o := .cells #[.int .i64 a0_0, .slice A0_1 l0_1.length c0_1] 25 (0, 0)) (bvK BK259.out)) : gb272 ≠ gb259)); have n9_ := Aside0.mk ((by rw [hg]; exact Nat.ne_of_lt (blk_lt (g := gb260) (o := .cells #[.int .i64 0, .slice none 0 0] 25 (0, 0)) (bvK BK260.out)) : gb260 ≠ gb272)); have n10_ := Aside0.mk ((by rw [hg]; exact Nat.ne_of_gt (blk_lt (g := gb260) (o := .cells #[.int .i64 0, .slice none 0 0] 25 (0, 0)) (bvK BK260.out)) : gb272 ≠ gb260)); clear HO270; clear BK259; clear BK260; clear HB; have HO270 := n0_; have BK259 := n1_; have BK260 := n2_; have HB := n3_; have BK272 := n4_; have GW272 := n5_; have GE272 := n6_; have NB259_272 := n7_; have NB272_259 := n8_; have NB260_272 := n9_; have NB272_260 := n10_; clear n0_ n1_ n2_ n3_ n4_ n5_ n6_ n7_ n8_ n9_ n10_; clear hb hbox hg; have hnb31 := NB272_259.out; have hnc31 := NB259_272.out; have hnb32 := NB272_260.out; have hnc32 := NB260_272.out; have hcz33_0 : w30.cell? ⟨gb272, 0, none⟩ = some (.int .i64 0) := (blk_cell BK272.out 0).trans rfl; have hcz33_1 : w30.cell? ⟨gb272, 1, none⟩ = some (.slice none 0 0) := (blk_cell BK272.out 1).trans rfl; have hfz33_0 := blk_frozen BK272.out 0; have hfz33_1 := blk_frozen BK272.out 1; obtain ⟨Ao34, co34, eo34⟩ := Kd.R_slice HO270.out; subst eo34) | ((with_reducible refine gate_store (t := 25) (p := 10) rfl ?_); refine store_event (t := 25) (p := 10) (v := ?vo_w35) (w1 := ((w30.setCell ⟨gb272, 0, none⟩ (.int .i64 t267)).setCell ⟨gb272, 1, none⟩ (.slice Ao34 t268.length co34))) ?hg ?ho ?hn ?hr ?_; (case ho => rfl); (case hg => rfl); (case hn => rfl); (case hr => first | (go_simp; done) | (go_simp; rfl)); intro w35 hw; have n0_ : Aside0 (Kd.R k71 71 w35 w.heap.size (fun _ => True) (.slice Ao34 t268.length co34) t268) := ⟨(by rw [hw]; exact (by (with_reducible repeat (first | apply Kd.R_alloc | apply Kd.R_drewN | apply Kd.R_drew)); exact Kd.R_mono (Kd.R_far (p := ⟨gb272, 1, none⟩) (Kd.R_far (p := ⟨gb272, 0, none⟩) (Kd.R_types HO270.out BK272.out (by decide)) (fun _ hk => hk.2) (.int .i64 t267)) (fun _ hk => hk.2) (.slice Ao34 t268.length co34)) (fun _ hk => trivial)))⟩; have n1_ : Aside0 (w35.heap[gb259]? = some (.cells #[.int .i64 a0_0, .slice A0_1 l0_1.length c0_1] 25 (0, 0))) := ⟨(by rw [hw]; exact (by (with_reducible repeat (first | refine blk_drewN ?_ _ | refine blk_drew ?_ | refine blk_alloc ?_ _)); refine blk_far ?_ NB259_272.out _; (with_reducible repeat (first | refine blk_drewN ?_ _ | refine blk_drew ?_ | refine blk_alloc ?_ _)); refine blk_far ?_ NB259_272.out _; (with_reducible repeat (first | refine blk_drewN ?_ _ | refine blk_drew ?_ | refine blk_alloc ?_ _)); exact BK259.out))⟩; have n2_ : Aside0 (w35.heap[gb260]? = some (.cells #[.int .i64 0, .slice none 0 0] 25 (0, 0))) := ⟨(by rw [hw]; exact (by (with_reducible repeat (first | refine blk_drewN ?_ _ | refine blk_drew ?_ | refine blk_alloc ?_ _)); refine blk_far ?_ NB260_272.out _; (with_reducible repeat (first | refine blk_drewN ?_ _ | refine blk_drew ?_ | refine blk_alloc ?_ _)); refine blk_far ?_ NB260_272.out _; (with_reducible repeat (first | refine blk_drewN ?_ _ | refine blk_drew ?_ | refine blk_alloc ?_ _)); exact BK260.out))⟩; have n3_ : Aside0 (w35.heap[gb272]? = some (.cells #[.int .i64 t267, .slice Ao34 t268.length co34] 25 (0, 0))) := ⟨(by rw [hw]; exact (by (with_reducible repeat (first | refine blk_drewN ?_ _ | refine blk_drew ?_ | refine blk_alloc ?_ _)); refine blk_put (cs := #[.int .i64 t267, .slice none 0 0]) ?_ 1 _ rfl; (with_reducible repeat (first | refine blk_drewN ?_ _ | refine blk_drew ?_ | refine blk_alloc ?_ _)); refine blk_put (cs := #[.int .i64 0, .slice none 0 0]) ?_ 0 _ rfl; (with_reducible repeat (first | refine blk_drewN ?_ _ | refine blk_drew ?_ | refine blk_alloc ?_ _)); exact BK272.out))⟩; have n4_ : Aside0 (Below w.heap.size w w35) := ⟨(by rw [hw]; exact (by repeat (first | (with_reducible first | exact HB.out | apply bwA | apply bwN | apply bwD | refine below_set ?_ GE259.out | refine below_set ?_ GE260.out | refine below_set ?_ GE272.out) | exact HB.out)))⟩; clear hw; clear HO270; clear BK259; clear BK260; clear BK272; clear HB; have HO270 := n0_; have BK259 := n1_; have BK260 := n2_; have BK272 := n3_; have HB := n4_; clear n0_ n1_ n2_ n3_ n4_; have hcz36_0 : w35.cell? ⟨gb272, 0, none⟩ = some (.int .i64 t267) := (blk_cell BK272.out 0).trans rfl; have hcz36_1 : w35.cell? ⟨gb272, 1, none⟩ = some (.slice Ao34 t268.length co34) := (blk_cell BK272.out 1).trans rfl; have hfz36_0 := blk_frozen BK272.out 0; have hfz36_1 := blk_frozen BK272.out 1) | ((with_reducible refine gate_callee (f := 62) rfl ?_); refine goesL_ (some 40) rfl rfl Try.func62 (by kernel_rfl) rfl #[.agg #[.int .i64 t267, .slice Ao34 t268.length co34], .int .i64 t271] rfl lmB ?_; (with_reducible refine (spec_l8Told.calls t267 (fun k_ => some k_ = (.slice Ao34 t268.length co34 : Value).ownBlock) (.slice Ao34 t268.length co34) t268 t271 t273 t274 t277 w _ ?side1 ?side2 A24.out).mono ?_); (case side1 => repeat (first | (with_reducible first | exact HB.out | apply bwA | apply bwN | apply bwD | refine below_set ?_ GE259.out | refine below_set ?_ GE260.out | refine below_set ?_ GE272.out) | exact HB.out)); (case side2 => exact Kd.R_tight rfl HO270.out); rintro e w37 ⟨v275, rfl, ho0, hb, hkp⟩; refine ⟨_, rfl, ?_⟩; have n0_ := Aside0.mk (blk_kept (bvK BK259.out) hkp (fun hs_ => (fun e_ => (Kd.R_ne HO270.out BK259.out (by decide)) e_) hs_)); have n1_ := Aside0.mk (blk_kept (bvK BK260.out) hkp (fun hs_ => (fun e_ => (Kd.R_ne HO270.out BK260.out (by decide)) e_) hs_)); have n2_ := Aside0.mk (blk_kept (bvK BK272.out) hkp (fun hs_ => (fun e_ => (Kd.R_ne HO270.out BK272.out (by decide)) e_) hs_)); have n3_ := Aside0.mk (Kd.R_mono (ok' := fun k_ => True) ho0 (fun k_ hk_ => trivial)); have n4_ := Aside0.mk (hb); clear BK259; clear BK260; clear BK272; clear HB; clear HO270; have BK259 := n0_; have BK260 := n1_; have BK272 := n2_; have HO276 := n3_; have HB := n4_; clear n0_ n1_ n2_ n3_ n4_; (try clear hb); (try clear hkp); (try clear ho0); have hcz38_0 : w37.cell? ⟨gb260, 0, none⟩ = some (.int .i64 0) := (blk_cell BK260.out 0).trans rfl; have hcz38_1 : w37.cell? ⟨gb260, 1, none⟩ = some (.slice none 0 0) := (blk_cell BK260.out 1).trans rfl; have hfz38_0 := blk_frozen BK260.out 0; have hfz38_1 := blk_frozen BK260.out 1; obtain ⟨Ao39, co39, eo39⟩ := Kd.R_slice HO276.out; subst eo39))
    refine bodyPost_ret (results_ct rfl _ _ gb260 25 #[.int .i64 t273, .slice Ao39 t274.length co39] (0, 0) _ rfl (by (with_reducible repeat (first | refine blk_drewN ?_ _ | refine blk_drew ?_ | refine blk_alloc ?_ _)); refine blk_put (cs := #[.int .i64 t273, .slice none 0 0]) ?_ 1 _ rfl; (with_reducible repeat (first | refine blk_drewN ?_ _ | refine blk_drew ?_ | refine blk_alloc ?_ _)); refine blk_put (cs := #[.int .i64 0, .slice none 0 0]) ?_ 0 _ rfl; (with_reducible repeat (first | refine blk_drewN ?_ _ | refine blk_drew ?_ | refine blk_alloc ?_ _)); exact BK260.out) Try.underlying25 rfl (by kernel_rfl)) rfl ?_
    exact ⟨_, ers, by (with_reducible repeat (first | apply Kd.R_alloc | apply Kd.R_drewN | apply Kd.R_drew)); exact Kd.R_mono (Kd.R_far (p := ⟨gb260, 1, none⟩) (Kd.R_far (p := ⟨gb260, 0, none⟩) (Kd.R_types HO276.out BK260.out (by decide)) (fun _ hk => hk.2) (.int .i64 t273)) (fun _ hk => hk.2) (.slice Ao39 t274.length co39)) (fun _ hk => trivial), by repeat (first | (with_reducible first | exact HB.out | apply bwA | apply bwN | apply bwD | refine below_set ?_ GE259.out | refine below_set ?_ GE260.out | refine below_set ?_ GE272.out) | exact HB.out)⟩

/-! ### impl_forking_goes: function 100 -/
def impl_forking_goes.f (s : FS) (n v value : Int) : Option Int :=
 (impl_Diagram_varAt.f s.vars s.forks n).bind fun t => if t = v then (if 0 ≤ wrap64 (n - 2) then if wrap64 (n - 2) < (s.forks.length : Int) then (if value = 1 then some (rd_T71 s.forks (wrap64 (n - 2))).f2 else some (rd_T71 s.forks (wrap64 (n - 2))).f1) else none else none) else some n
set_option maxHeartbeats 4000000 in
set_option maxRecDepth 100000 in
theorem impl_forking_goes.calls (s : FS) (n v value r : Int) (base : Nat) (ok : Nat → Prop) (g : Nat) (w : World) (hI : IsF w base ok g s) (h : impl_forking_goes.f s n v value = some r) :
  Calls Try.prog 100 #[.pointer (some ⟨g, 0, none⟩), .int .i64 n, .int .i64 v, .int .i64 value] w fun e w' => e = .returned (.int .i64 r) ∧ Below w.heap.size w w' := by
 have hu25 := Try.underlying25
 have hu71 := Try.underlying71
 have hu113 := Try.underlying113
 obtain ⟨u, b1, b2, hg, hR, _⟩ := hI
 obtain ⟨A, c, rfl⟩ := Kd.R_slice hR
 have BG := Aside0.mk hg
 have HR := Aside0.mk (Kd.R_reads' hR).2.2
 have HC := Aside0.mk (Kd.R_reads' hR).2.1
 have hg0 : w.cell? ⟨g, 0, none⟩ = some (.int .i64 s.vars) := (blk_cell hg 0).trans rfl
 have hg1 : w.cell? ⟨g, 1, none⟩ = some (.slice A s.forks.length c) := (blk_cell hg 1).trans rfl
 unfold impl_forking_goes.f at h
 obtain ⟨t, hv, h2⟩ := Option.bind_eq_some_iff.mp h
 clear h
 have h := h2
 clear h2
 have HV := Aside0.mk hv
 clear hR hg hv
 by_cases c1 : t = v
 ·rw [if_pos c1] at h
  subst c1
  have c1b : (t != t) = false := by simp
  obtain ⟨j, hj⟩ : ∃ j, wrap64 (n - 2) = j := ⟨_, rfl⟩
  have hjw : (IntKind.i64.wrap (n - 2)) = j := (i64_w _).trans hj
  rw [hj] at h
  by_cases c2 : 0 ≤ j
  ·rw [if_pos c2] at h
   by_cases c3 : j < (s.forks.length : Int)
   ·rw [if_pos c3] at h
    obtain ⟨ad, rfl, hx0, hx1, hx2⟩ := at_T71 HR.out j c2 c3
    have c2b : decide (0 ≤ j) = true := decide_eq_true c2
    have c3b : decide (j < (s.forks.length : Int)) = true := decide_eq_true c3
    have X := Aside0.mk (And.intro hx0 (And.intro hx1 hx2))
    clear hx0 hx1 hx2 hj
    generalize rd_T71 s.forks j = x at h X
    by_cases c4 : value = 1
    ·rw [if_pos c4] at h
     obtain rfl := Option.some.inj h
     have c4b : (value == 1) = true := beq_iff_eq.mpr c4
     clear h c4
     go_enter Try.func100, Try.ntmps100
     go_wp2_with (first | (go_at_call 54; refine (impl_Diagram_varAt.calls s.vars _ c s.forks n _ _ HR.out HC.out HV.out).mono ?_; rintro e w1 ⟨rfl, hb⟩; have HB1 := Aside0.mk hb; have BG1 := Aside0.mk (blk_below BG.out hb); have hi1 : w1.cell? ⟨g, 1, none⟩ = some (.slice (some ad) s.forks.length c) := (blk_cell BG1.out 1).trans rfl; have hx0 := (hb.cell (World.block_lt_of_cell? w _ X.out.1)).trans X.out.1; have hx1 := (hb.cell (World.block_lt_of_cell? w _ X.out.2.1)).trans X.out.2.1; have hx2 := (hb.cell (World.block_lt_of_cell? w _ X.out.2.2)).trans X.out.2.2; clear hb) | ((with_reducible refine gate_dst (N := 9) rfl ?_); refine box_event ?hg (N := 9) ?hd (cs := #[.int .i64 0, .int .i64 0, .int .i64 0]) (t := 71) ?hr ?_; (case hd => rfl); (case hg => rfl); (case hr => first | (go_simp; done) | (go_simp; rfl)); intro gb hgb w3 hbox hb; have BX0 := Aside0.mk hbox; have HB3 := Aside0.mk (below_step HB1.out hb); have hz0 : w3.cell? ⟨gb, 0, none⟩ = some (.int .i64 0) := (blk_cell BX0.out 0).trans rfl; have hz1 : w3.cell? ⟨gb, 1, none⟩ = some (.int .i64 0) := (blk_cell BX0.out 1).trans rfl; have hz2 : w3.cell? ⟨gb, 2, none⟩ = some (.int .i64 0) := (blk_cell BX0.out 2).trans rfl; have hy0 := blk_frozen BX0.out 0; have hy1 := blk_frozen BX0.out 1; have hy2 := blk_frozen BX0.out 2; have HGB := Aside0.mk (show w.heap.size ≤ gb by rw [hgb]; exact HB1.out.size); clear hgb hbox hb))
     go_ret
     exact ⟨rfl, below_set (below_set (below_set HB3.out HGB.out) HGB.out) HGB.out⟩
    ·rw [if_neg c4] at h
     obtain rfl := Option.some.inj h
     have c4b : (value == 1) = false := beq_eq_false_iff_ne.mpr c4
     clear h c4
     go_enter Try.func100, Try.ntmps100
     go_wp2_with (first | (go_at_call 54; refine (impl_Diagram_varAt.calls s.vars _ c s.forks n _ _ HR.out HC.out HV.out).mono ?_; rintro e w1 ⟨rfl, hb⟩; have HB1 := Aside0.mk hb; have BG1 := Aside0.mk (blk_below BG.out hb); have hi1 : w1.cell? ⟨g, 1, none⟩ = some (.slice (some ad) s.forks.length c) := (blk_cell BG1.out 1).trans rfl; have hx0 := (hb.cell (World.block_lt_of_cell? w _ X.out.1)).trans X.out.1; have hx1 := (hb.cell (World.block_lt_of_cell? w _ X.out.2.1)).trans X.out.2.1; have hx2 := (hb.cell (World.block_lt_of_cell? w _ X.out.2.2)).trans X.out.2.2; clear hb) | ((with_reducible refine gate_dst (N := 9) rfl ?_); refine box_event ?hg (N := 9) ?hd (cs := #[.int .i64 0, .int .i64 0, .int .i64 0]) (t := 71) ?hr ?_; (case hd => rfl); (case hg => rfl); (case hr => first | (go_simp; done) | (go_simp; rfl)); intro gb hgb w3 hbox hb; have BX0 := Aside0.mk hbox; have HB3 := Aside0.mk (below_step HB1.out hb); have hz0 : w3.cell? ⟨gb, 0, none⟩ = some (.int .i64 0) := (blk_cell BX0.out 0).trans rfl; have hz1 : w3.cell? ⟨gb, 1, none⟩ = some (.int .i64 0) := (blk_cell BX0.out 1).trans rfl; have hz2 : w3.cell? ⟨gb, 2, none⟩ = some (.int .i64 0) := (blk_cell BX0.out 2).trans rfl; have hy0 := blk_frozen BX0.out 0; have hy1 := blk_frozen BX0.out 1; have hy2 := blk_frozen BX0.out 2; have HGB := Aside0.mk (show w.heap.size ≤ gb by rw [hgb]; exact HB1.out.size); clear hgb hbox hb))
     go_ret
     exact ⟨rfl, below_set (below_set (below_set HB3.out HGB.out) HGB.out) HGB.out⟩
   ·rw [if_neg c3] at h
    cases h
  ·rw [if_neg c2] at h
   cases h
 ·rw [if_neg c1] at h
  obtain rfl := Option.some.inj h
  have c1b : (t != v) = true := bne_iff_ne.mpr c1
  clear h c1
  go_enter Try.func100, Try.ntmps100
  go_wp2_with (go_at_call 54; refine (impl_Diagram_varAt.calls s.vars A c s.forks _ t _ HR.out HC.out HV.out).mono ?_; rintro e w1 ⟨rfl, hb⟩; have HB1 := Aside0.mk hb; clear hb)
  go_ret
  exact ⟨rfl, HB1.out⟩

/-! ### impl_forking_fix: function 63 -/
theorem keyInt : Mp.Key Try.prog 3 (Value.int .i64) KeyI where
 law := Maps.int_keyed Try.underlying3
 reads := fun x hx => by
  have hu := Try.underlying3
  exact ⟨.int .i64 x, by simp [keyOf, mapKey, hu, hx.wf]⟩
 inj := fun x y _ _ h => by
  simp at h
  exact h
def impl_forking_fix.two (rec : FS → Int → (Int → Option Int) → Option (FS × (Int → Option Int) × Int)) (s : FS) (n : Int) (x : S71) (m : Int → Option Int) : Option (FS × (Int → Option Int) × Int) :=
 (rec s x.f1 m).bind fun p1 => (rec p1.1 x.f2 p1.2.1).bind fun p2 =>
 if p2.1.full = true then some (p2.1, p2.2.1, 0) else (impl_forking_fork.f p2.1 x.f0 p1.2.2 p2.2.2).bind fun p3 => some (p3.1, (fun y => if y = n then some p3.2 else p2.2.1 y), p3.2)
def impl_forking_fix.f : Nat → FS → Int → Int → Int → (Int → Option Int) → Option (FS × (Int → Option Int) × Int)
 | 0, _, _, _, _, _ => none
 | k + 1, s, n, v, value, m =>
  (impl_Diagram_varAt.f s.vars s.forks n).bind fun t => if t > v then some (s, m, n)
  else if t = v then (impl_forking_goes.f s n v value).bind fun r => some (s, m, r)
  else if KeyI n then
   match m n with
   | some r => some (s, m, r)
   | none => if 0 ≤ wrap64 (n - 2) then if wrap64 (n - 2) < (s.forks.length : Int) then impl_forking_fix.two (fun s2 n2 m2 => impl_forking_fix.f k s2 n2 v value m2) s n (rd_T71 s.forks (wrap64 (n - 2))) m else none else none
  else none
theorem impl_forking_fix.two_le {f1 f2 : FS → Int → (Int → Option Int) → Option (FS × (Int → Option Int) × Int)} (h : ∀ s n m, LeO (f1 s n m) (f2 s n m)) (s : FS) (n : Int) (x : S71) (m : Int → Option Int) : LeO (impl_forking_fix.two f1 s n x m) (impl_forking_fix.two f2 s n x m) :=
 LeO.bind (h _ _ _) (fun _ => LeO.bind (h _ _ _) (fun _ => LeO.refl _))
theorem impl_forking_fix.le : ∀ (k : Nat) (s : FS) (n v value : Int) (m : Int → Option Int), LeO (impl_forking_fix.f k s n v value m) (impl_forking_fix.f (k + 1) s n v value m)
 | 0 => fun _ _ _ _ _ r h => by simp [impl_forking_fix.f] at h
 | k + 1 => fun s n v value m => by
  have ih := impl_forking_fix.le k
  rw [impl_forking_fix.f, impl_forking_fix.f]
  refine LeO.bind (LeO.refl _) (fun t => LeO.ite (LeO.refl _) (LeO.ite (LeO.refl _) (LeO.ite ?_ (LeO.refl _))))
  cases m n with
  | some r => exact LeO.refl _
  | none => exact LeO.ite (LeO.ite (impl_forking_fix.two_le (fun s2 n2 m2 => ih s2 n2 v value m2) _ _ _ _) (LeO.refl _)) (LeO.refl _)
theorem impl_forking_fix.mono : ∀ s n v value m k, LeO (impl_forking_fix.f k s n v value m) (impl_forking_fix.f (k + 1) s n v value m) := fun s n v value m k => impl_forking_fix.le k s n v value m
set_option maxHeartbeats 16000000 in
set_option maxRecDepth 100000 in
theorem impl_forking_fix.calls : ∀ (k : Nat) (s s' : FS) (n v value r : Int) (m m' : Int → Option Int) (mb : Nat) (ok : Nat → Prop) (g : Nat) (w0 w : World) (_ : Below w0.heap.size w0 w) (_ : IsF w w0.heap.size ok g s) (_ : Mp.Is (Value.int .i64) KeyI (Value.int .i64) w mb m) (_ : w0.heap.size ≤ mb ∧ ¬ ok mb) (_ : ∀ k, w.heap.size ≤ k → ok k) (_ : impl_forking_fix.f k s n v value m = some (s', m', r)),
  Calls Try.prog 63 #[.pointer (some ⟨g, 0, none⟩), .int .i64 n, .int .i64 v, .int .i64 value, .map (some mb)] w fun e w' => e = .returned (.int .i64 r) ∧ IsF w' w0.heap.size ok g s' ∧ Mp.Is (Value.int .i64) KeyI (Value.int .i64) w' mb m' ∧ Below w0.heap.size w0 w' ∧ Kept w w' (fun k_ => ok k_ ∨ k_ = mb)
 | 0 => fun _ _ _ _ _ _ _ _ _ _ _ _ _ _ _ _ _ _ h => by simp [impl_forking_fix.f] at h
 | k + 1 => fun s s' n v value r m m' mb ok g w0 w hB hI hM hmb hf h => by
  have ih := Aside0.mk (impl_forking_fix.calls k)
  have hu25 := Try.underlying25
  have hu71 := Try.underlying71
  have hu113 := Try.underlying113
  have HI := Aside0.mk hI
  have HB := Aside0.mk hB
  have HF := Aside0.mk hf
  have HM := Aside0.mk hM
  have MB := Aside0.mk hmb
  simp only [impl_forking_fix.f] at h
  obtain ⟨t, hva, h2⟩ := Option.bind_eq_some_iff.mp h
  have HVA := Aside0.mk hva
  obtain ⟨u, b1, b2, hg, hR, _, _, _, k1, _, _, k4, _, _⟩ := hI
  obtain ⟨A, c, rfl⟩ := Kd.R_slice hR
  have BG := Aside0.mk hg
  have HC := Aside0.mk (Kd.R_reads' hR).2.1
  have HR := Aside0.mk (Kd.R_reads' hR).2.2
  have hg0 : w.cell? ⟨g, 0, none⟩ = some (.int .i64 s.vars) := (blk_cell hg 0).trans rfl
  have hg1 : w.cell? ⟨g, 1, none⟩ = some (.slice A s.forks.length c) := (blk_cell hg 1).trans rfl
  clear hB hM hmb hf h hva hg hR k1 k4
  have h := h2
  clear h2
  by_cases c1 : t > v
  ·rw [if_pos c1] at h
   simp only [Option.some.injEq, Prod.mk.injEq] at h
   obtain ⟨rfl, rfl, rfl⟩ := h
   have e1 : decide (v < t) = true := decide_eq_true c1
   clear c1
   go_enter Try.func63, Try.ntmps63
   go_wp2_with (first | (go_at_call 54; (with_reducible refine (impl_Diagram_varAt.calls s.vars A c s.forks n t _ HR.out HC.out HVA.out).mono ?_); rintro e w5 ⟨rfl, hb⟩; have HB5 := Aside0.mk (hb); have BG5 := Aside0.mk (blk_below BG.out hb); have g50 : w5.cell? ⟨g, 0, none⟩ = some (.int .i64 s.vars) := (blk_cell BG5.out 0).trans rfl; have g51 : w5.cell? ⟨g, 1, none⟩ = some (.slice A s.forks.length c) := (blk_cell BG5.out 1).trans rfl; clear hb))
   go_ret
   exact ⟨rfl, HI.out.below HB5.out, HM.out.below HB5.out, below_then HB.out HB.out.size HB5.out, Kept.of_below HB5.out _⟩
  rw [if_neg c1] at h
  have e1 : decide (v < t) = false := decide_eq_false c1
  clear c1
  by_cases c2 : t = v
  ·rw [if_pos c2] at h
   obtain ⟨q, hq, h2⟩ := Option.bind_eq_some_iff.mp h
   simp only [Option.some.injEq, Prod.mk.injEq] at h2
   obtain ⟨rfl, rfl, rfl⟩ := h2
   have HQ := Aside0.mk hq
   have e2 : (t == v) = true := beq_iff_eq.mpr c2
   clear c2 h hq
   go_enter Try.func63, Try.ntmps63
   go_wp2_with (first | (go_at_call 54; (with_reducible refine (impl_Diagram_varAt.calls s.vars A c s.forks n t _ HR.out HC.out HVA.out).mono ?_); rintro e w5 ⟨rfl, hb⟩; have HB5 := Aside0.mk (hb); have BG5 := Aside0.mk (blk_below BG.out hb); have g50 : w5.cell? ⟨g, 0, none⟩ = some (.int .i64 s.vars) := (blk_cell BG5.out 0).trans rfl; have g51 : w5.cell? ⟨g, 1, none⟩ = some (.slice A s.forks.length c) := (blk_cell BG5.out 1).trans rfl; clear hb) | (go_at_call 54; (with_reducible refine (impl_Diagram_varAt.calls s.vars A c s.forks n t _ (Kd.C_below HR.out HB5.out) HC.out HVA.out).mono ?_); rintro e w6 ⟨rfl, hb⟩; have HB6 := Aside0.mk (below_step HB5.out hb); have BG6 := Aside0.mk (blk_below BG5.out hb); have g60 : w6.cell? ⟨g, 0, none⟩ = some (.int .i64 s.vars) := (blk_cell BG6.out 0).trans rfl; have g61 : w6.cell? ⟨g, 1, none⟩ = some (.slice A s.forks.length c) := (blk_cell BG6.out 1).trans rfl; clear hb) | (go_at_call 100; have hi_ := HI.out.below HB6.out; (with_reducible refine (impl_forking_goes.calls s n v value q w0.heap.size _ g _ hi_ HQ.out).mono ?_); rintro e w7 ⟨rfl, hb⟩; have HB7 := Aside0.mk (below_step HB6.out hb); clear hb hi_))
   go_ret
   exact ⟨rfl, HI.out.below HB7.out, HM.out.below HB7.out, below_then HB.out HB.out.size HB7.out, Kept.of_below HB7.out _⟩
  rw [if_neg c2] at h
  have e2 : (t == v) = false := beq_eq_false_iff_ne.mpr c2
  clear c2
  by_cases c3 : KeyI n
  ·rw [if_pos c3] at h
   have C3 := Aside0.mk c3
   clear c3
   cases hs : m n with
   | some q =>
    rw [hs] at h
    simp only [Option.some.injEq, Prod.mk.injEq] at h
    obtain ⟨rfl, rfl, rfl⟩ := h
    go_enter Try.func63, Try.ntmps63
    go_wp2_with (first | (go_at_call 54; (with_reducible refine (impl_Diagram_varAt.calls s.vars A c s.forks n t _ HR.out HC.out HVA.out).mono ?_); rintro e w5 ⟨rfl, hb⟩; have HB5 := Aside0.mk (hb); have BG5 := Aside0.mk (blk_below BG.out hb); have g50 : w5.cell? ⟨g, 0, none⟩ = some (.int .i64 s.vars) := (blk_cell BG5.out 0).trans rfl; have g51 : w5.cell? ⟨g, 1, none⟩ = some (.slice A s.forks.length c) := (blk_cell BG5.out 1).trans rfl; clear hb) | (go_at_call 54; (with_reducible refine (impl_Diagram_varAt.calls s.vars A c s.forks n t _ (Kd.C_below HR.out HB5.out) HC.out HVA.out).mono ?_); rintro e w6 ⟨rfl, hb⟩; have HB6 := Aside0.mk (below_step HB5.out hb); have BG6 := Aside0.mk (blk_below BG5.out hb); have g60 : w6.cell? ⟨g, 0, none⟩ = some (.int .i64 s.vars) := (blk_cell BG6.out 0).trans rfl; have g61 : w6.cell? ⟨g, 1, none⟩ = some (.slice A s.forks.length c) := (blk_cell BG6.out 1).trans rfl; clear hb) | ((with_reducible refine gate_ (op := .lookup 83 (.tmp 39) (.tmp 40) true) rfl ?_); refine Mp.look_some rfl (.tmp 39) (.tmp 40) rfl rfl (HM.out.below HB6.out) keyInt Try.underlying83 zero_int n rfl C3.out hs ?_))
    go_ret
    exact ⟨rfl, HI.out.below HB6.out, HM.out.below HB6.out, below_then HB.out HB.out.size HB6.out, Kept.of_below HB6.out _⟩
   | none =>
    rw [hs] at h
    simp only at h
    obtain ⟨j, hj⟩ : ∃ j, wrap64 (n - 2) = j := ⟨_, rfl⟩
    have hjw : (IntKind.i64.wrap (n - 2)) = j := (i64_w _).trans hj
    rw [hj] at h
    by_cases c4 : 0 ≤ j
    ·rw [if_pos c4] at h
     by_cases c5 : j < (s.forks.length : Int)
     ·rw [if_pos c5] at h
      obtain ⟨ad, rfl, hx0, hx1, hx2⟩ := at_T71 HR.out j c4 c5
      have c4b : decide (0 ≤ j) = true := decide_eq_true c4
      have c5b : decide (j < (s.forks.length : Int)) = true := decide_eq_true c5
      have X := Aside0.mk (And.intro hx0 (And.intro hx1 hx2))
      clear hx0 hx1 hx2 hj
      generalize rd_T71 s.forks j = x at h X
      simp only [impl_forking_fix.two] at h
      obtain ⟨⟨s1, m1, lo⟩, hp1, h3⟩ := Option.bind_eq_some_iff.mp h
      obtain ⟨⟨s2, m2, hi⟩, hp2, h4⟩ := Option.bind_eq_some_iff.mp h3
      simp only at hp2 h4
      have P1 := Aside0.mk hp1
      have P2 := Aside0.mk hp2
      have H4 := Aside0.mk h4
      clear h h3 h4 hp1 hp2
      cases hfl : s2.full with
      | true =>
       have h5 := H4.out
       rw [hfl, if_pos rfl] at h5
       simp only [Option.some.injEq, Prod.mk.injEq] at h5
       obtain ⟨rfl, rfl, rfl⟩ := h5
       clear H4
       go_enter Try.func63, Try.ntmps63
       go_upto_region 9 with (first | (go_at_call 54; (with_reducible refine (impl_Diagram_varAt.calls s.vars _ c s.forks n t _ HR.out HC.out HVA.out).mono ?_); rintro e w5 ⟨rfl, hb⟩; have HB5 := Aside0.mk (hb); have BG5 := Aside0.mk (blk_below BG.out hb); have g50 : w5.cell? ⟨g, 0, none⟩ = some (.int .i64 s.vars) := (blk_cell BG5.out 0).trans rfl; have g51 : w5.cell? ⟨g, 1, none⟩ = some (.slice (some ad) s.forks.length c) := (blk_cell BG5.out 1).trans rfl; clear hb) | (go_at_call 54; (with_reducible refine (impl_Diagram_varAt.calls s.vars _ c s.forks n t _ (Kd.C_below HR.out HB5.out) HC.out HVA.out).mono ?_); rintro e w6 ⟨rfl, hb⟩; have HB6 := Aside0.mk (below_step HB5.out hb); have BG6 := Aside0.mk (blk_below BG5.out hb); have g60 : w6.cell? ⟨g, 0, none⟩ = some (.int .i64 s.vars) := (blk_cell BG6.out 0).trans rfl; have g61 : w6.cell? ⟨g, 1, none⟩ = some (.slice (some ad) s.forks.length c) := (blk_cell BG6.out 1).trans rfl; have x60 := (HB6.out.cell (World.block_lt_of_cell? w _ X.out.1)).trans X.out.1; have x61 := (HB6.out.cell (World.block_lt_of_cell? w _ X.out.2.1)).trans X.out.2.1; have x62 := (HB6.out.cell (World.block_lt_of_cell? w _ X.out.2.2)).trans X.out.2.2; clear hb) | ((with_reducible refine gate_ (op := .lookup 83 (.tmp 39) (.tmp 40) true) rfl ?_); refine Mp.look_none rfl (.tmp 39) (.tmp 40) rfl rfl (HM.out.below HB6.out) keyInt Try.underlying83 zero_int n rfl C3.out hs ?_) | ((with_reducible refine gate_dst (N := 13) rfl ?_); refine box_event ?hg (N := 13) ?hd (cs := #[.int .i64 0, .int .i64 0, .int .i64 0]) (t := 71) ?hr ?_; (case hd => rfl); (case hg => rfl); (case hr => first | (go_simp; done) | (go_simp; rfl)); intro gb hgb w7 hbox hb; have BX0 := Aside0.mk hbox; have HB7 := Aside0.mk (below_step HB6.out hb); have hz0 : w7.cell? ⟨gb, 0, none⟩ = some (.int .i64 0) := (blk_cell BX0.out 0).trans rfl; have hz1 : w7.cell? ⟨gb, 1, none⟩ = some (.int .i64 0) := (blk_cell BX0.out 1).trans rfl; have hz2 : w7.cell? ⟨gb, 2, none⟩ = some (.int .i64 0) := (blk_cell BX0.out 2).trans rfl; have hy0 := blk_frozen BX0.out 0; have hy1 := blk_frozen BX0.out 1; have hy2 := blk_frozen BX0.out 2; have HGB := Aside0.mk (show w.heap.size ≤ gb by rw [hgb]; exact HB6.out.size); clear hgb hbox hb))
       have n0_ := Aside0.mk (below_set (below_set (below_set HB7.out HGB.out (j := 0) (v := .int .i64 x.f0)) HGB.out (j := 1) (v := .int .i64 x.f1)) HGB.out (j := 2) (v := .int .i64 x.f2))
       have BX8 := Aside0.mk (blk_put (blk_put (blk_put BX0.out 0 (.int .i64 x.f0) rfl) 1 (.int .i64 x.f1) rfl) 2 (.int .i64 x.f2) rfl)
       generalize (((w7.setCell ⟨gb, 0, none⟩ (.int .i64 x.f0)).setCell ⟨gb, 1, none⟩ (.int .i64 x.f1)).setCell ⟨gb, 2, none⟩ (.int .i64 x.f2)) = w8 at n0_ BX8 ⊢
       have LB8 := blk_lt BX8.out
       have I8 : Aside0 (IsF w8 w0.heap.size (fun k_ => ok k_ ∧ k_ ≠ gb) g s) := ⟨IsF.mono ((HI.out.bound).step (fun k_ hk_ _ => n0_.out.block k_ hk_.2.2)) (fun k_ hk_ => ⟨hk_.1, fun e_ => by have := HGB.out; have := hk_.2.2; omega⟩)⟩
       have M8 := Aside0.mk (HM.out.below n0_.out)
       have MB8 : Aside0 (w0.heap.size ≤ mb ∧ ¬ (ok mb ∧ mb ≠ gb)) := ⟨MB.out.1, fun h_ => MB.out.2 h_.1⟩
       have BL8 := Aside0.mk (below_then HB.out HB.out.size n0_.out)
       have HF8 : Aside0 (∀ k_, w8.heap.size ≤ k_ → ok k_ ∧ k_ ≠ gb) := ⟨fun k_ h_ => ⟨HF.out k_ (Nat.le_trans n0_.out.size h_), fun e_ => by omega⟩⟩
       have K8 := Aside0.mk (Kept.of_below n0_.out (fun k_ => ok k_ ∨ k_ = mb))
       have NB8 : Aside0 (¬ ((ok gb ∧ gb ≠ gb) ∨ gb = mb)) := ⟨fun h_ => h_.elim (fun h_ => h_.2 rfl) (fun e_ => by have := HM.out.lt; have := HGB.out; omega)⟩
       have x81 : w8.cell? ⟨gb, 1, none⟩ = some (.int .i64 x.f1) := (blk_cell BX8.out 1).trans rfl
       clear n0_ LB8 hz0 hz1 hz2 hy0 hy1 hy2 BX0 HB7 x60 x61 x62 HB6 BG6 g60 g61 HB5 BG5 g50 g51
       go_wp2_with (first | (go_at_call 63; (with_reducible refine (ih.out s s1 x.f1 v value lo m m1 mb _ g w0 _ BL8.out I8.out M8.out MB8.out HF8.out P1.out).mono ?_); rintro e w9 ⟨rfl, hi_, hm_, hb_, hk_⟩; have I9 := Aside0.mk hi_; have M9 := Aside0.mk hm_; have BL9 := Aside0.mk hb_; have BX9 := Aside0.mk (blk_kept BX8.out hk_ NB8.out); have K9 := Aside0.mk (K8.out.then_ hk_ (fun _ h_ => .inl (h_.imp And.left id))); have HF9 : Aside0 (∀ k_, w9.heap.size ≤ k_ → ok k_ ∧ k_ ≠ gb) := ⟨fun k_ h_ => HF8.out k_ (Nat.le_trans hk_.1 h_)⟩; have x92 : w9.cell? ⟨gb, 2, none⟩ = some (.int .i64 x.f2) := (blk_cell BX9.out 2).trans rfl; clear hi_ hm_ hb_ hk_) | (go_at_call 63; (with_reducible refine (ih.out s1 s2 x.f2 v value hi m1 m2 mb _ g w0 _ BL9.out I9.out M9.out MB8.out HF9.out P2.out).mono ?_); rintro e w10 ⟨rfl, hi_, hm_, hb_, hk_⟩; have I10 := Aside0.mk hi_; have M10 := Aside0.mk hm_; have BL10 := Aside0.mk hb_; have BX10 := Aside0.mk (blk_kept BX9.out hk_ NB8.out); have K10 := Aside0.mk (K9.out.then_ hk_ (fun _ h_ => .inl (h_.imp And.left id))); have HF10 : Aside0 (∀ k_, w10.heap.size ≤ k_ → ok k_ ∧ k_ ≠ gb) := ⟨fun k_ h_ => HF9.out k_ (Nat.le_trans hk_.1 h_)⟩; have x100 : w10.cell? ⟨gb, 0, none⟩ = some (.int .i64 x.f0) := (blk_cell BX10.out 0).trans rfl; obtain ⟨u10, b10, c10, hg10, _⟩ := hi_; have g103 : w10.cell? ⟨g, 3, none⟩ = some (.bool s2.full) := (blk_cell hg10 3).trans rfl; rw [hfl] at g103; clear hg10 hm_ hb_ hk_))
       go_ret
       exact ⟨rfl, I10.out.mono (fun _ h_ => h_.1), M10.out, BL10.out, K10.out⟩
      | false =>
       have h5 := H4.out
       rw [hfl, if_neg (by decide)] at h5
       obtain ⟨⟨s3, nn⟩, hp3, h6⟩ := Option.bind_eq_some_iff.mp h5
       simp only [Option.some.injEq, Prod.mk.injEq] at h6
       obtain ⟨rfl, rfl, rfl⟩ := h6
       have P3 := Aside0.mk hp3
       clear H4 h5 hp3
       go_enter Try.func63, Try.ntmps63
       go_upto_region 9 with (first | (go_at_call 54; (with_reducible refine (impl_Diagram_varAt.calls s.vars _ c s.forks n t _ HR.out HC.out HVA.out).mono ?_); rintro e w5 ⟨rfl, hb⟩; have HB5 := Aside0.mk (hb); have BG5 := Aside0.mk (blk_below BG.out hb); have g50 : w5.cell? ⟨g, 0, none⟩ = some (.int .i64 s.vars) := (blk_cell BG5.out 0).trans rfl; have g51 : w5.cell? ⟨g, 1, none⟩ = some (.slice (some ad) s.forks.length c) := (blk_cell BG5.out 1).trans rfl; clear hb) | (go_at_call 54; (with_reducible refine (impl_Diagram_varAt.calls s.vars _ c s.forks n t _ (Kd.C_below HR.out HB5.out) HC.out HVA.out).mono ?_); rintro e w6 ⟨rfl, hb⟩; have HB6 := Aside0.mk (below_step HB5.out hb); have BG6 := Aside0.mk (blk_below BG5.out hb); have g60 : w6.cell? ⟨g, 0, none⟩ = some (.int .i64 s.vars) := (blk_cell BG6.out 0).trans rfl; have g61 : w6.cell? ⟨g, 1, none⟩ = some (.slice (some ad) s.forks.length c) := (blk_cell BG6.out 1).trans rfl; have x60 := (HB6.out.cell (World.block_lt_of_cell? w _ X.out.1)).trans X.out.1; have x61 := (HB6.out.cell (World.block_lt_of_cell? w _ X.out.2.1)).trans X.out.2.1; have x62 := (HB6.out.cell (World.block_lt_of_cell? w _ X.out.2.2)).trans X.out.2.2; clear hb) | ((with_reducible refine gate_ (op := .lookup 83 (.tmp 39) (.tmp 40) true) rfl ?_); refine Mp.look_none rfl (.tmp 39) (.tmp 40) rfl rfl (HM.out.below HB6.out) keyInt Try.underlying83 zero_int n rfl C3.out hs ?_) | ((with_reducible refine gate_dst (N := 13) rfl ?_); refine box_event ?hg (N := 13) ?hd (cs := #[.int .i64 0, .int .i64 0, .int .i64 0]) (t := 71) ?hr ?_; (case hd => rfl); (case hg => rfl); (case hr => first | (go_simp; done) | (go_simp; rfl)); intro gb hgb w7 hbox hb; have BX0 := Aside0.mk hbox; have HB7 := Aside0.mk (below_step HB6.out hb); have hz0 : w7.cell? ⟨gb, 0, none⟩ = some (.int .i64 0) := (blk_cell BX0.out 0).trans rfl; have hz1 : w7.cell? ⟨gb, 1, none⟩ = some (.int .i64 0) := (blk_cell BX0.out 1).trans rfl; have hz2 : w7.cell? ⟨gb, 2, none⟩ = some (.int .i64 0) := (blk_cell BX0.out 2).trans rfl; have hy0 := blk_frozen BX0.out 0; have hy1 := blk_frozen BX0.out 1; have hy2 := blk_frozen BX0.out 2; have HGB := Aside0.mk (show w.heap.size ≤ gb by rw [hgb]; exact HB6.out.size); clear hgb hbox hb))
       have n0_ := Aside0.mk (below_set (below_set (below_set HB7.out HGB.out (j := 0) (v := .int .i64 x.f0)) HGB.out (j := 1) (v := .int .i64 x.f1)) HGB.out (j := 2) (v := .int .i64 x.f2))
       have BX8 := Aside0.mk (blk_put (blk_put (blk_put BX0.out 0 (.int .i64 x.f0) rfl) 1 (.int .i64 x.f1) rfl) 2 (.int .i64 x.f2) rfl)
       generalize (((w7.setCell ⟨gb, 0, none⟩ (.int .i64 x.f0)).setCell ⟨gb, 1, none⟩ (.int .i64 x.f1)).setCell ⟨gb, 2, none⟩ (.int .i64 x.f2)) = w8 at n0_ BX8 ⊢
       have LB8 := blk_lt BX8.out
       have I8 : Aside0 (IsF w8 w0.heap.size (fun k_ => ok k_ ∧ k_ ≠ gb) g s) := ⟨IsF.mono ((HI.out.bound).step (fun k_ hk_ _ => n0_.out.block k_ hk_.2.2)) (fun k_ hk_ => ⟨hk_.1, fun e_ => by have := HGB.out; have := hk_.2.2; omega⟩)⟩
       have M8 := Aside0.mk (HM.out.below n0_.out)
       have MB8 : Aside0 (w0.heap.size ≤ mb ∧ ¬ (ok mb ∧ mb ≠ gb)) := ⟨MB.out.1, fun h_ => MB.out.2 h_.1⟩
       have BL8 := Aside0.mk (below_then HB.out HB.out.size n0_.out)
       have HF8 : Aside0 (∀ k_, w8.heap.size ≤ k_ → ok k_ ∧ k_ ≠ gb) := ⟨fun k_ h_ => ⟨HF.out k_ (Nat.le_trans n0_.out.size h_), fun e_ => by omega⟩⟩
       have K8 := Aside0.mk (Kept.of_below n0_.out (fun k_ => ok k_ ∨ k_ = mb))
       have NB8 : Aside0 (¬ ((ok gb ∧ gb ≠ gb) ∨ gb = mb)) := ⟨fun h_ => h_.elim (fun h_ => h_.2 rfl) (fun e_ => by have := HM.out.lt; have := HGB.out; omega)⟩
       have x81 : w8.cell? ⟨gb, 1, none⟩ = some (.int .i64 x.f1) := (blk_cell BX8.out 1).trans rfl
       clear n0_ LB8 hz0 hz1 hz2 hy0 hy1 hy2 BX0 HB7 x60 x61 x62 HB6 BG6 g60 g61 HB5 BG5 g50 g51
       go_wp2_with (first | (go_at_call 63; (with_reducible refine (ih.out s s1 x.f1 v value lo m m1 mb _ g w0 _ BL8.out I8.out M8.out MB8.out HF8.out P1.out).mono ?_); rintro e w9 ⟨rfl, hi_, hm_, hb_, hk_⟩; have I9 := Aside0.mk hi_; have M9 := Aside0.mk hm_; have BL9 := Aside0.mk hb_; have BX9 := Aside0.mk (blk_kept BX8.out hk_ NB8.out); have K9 := Aside0.mk (K8.out.then_ hk_ (fun _ h_ => .inl (h_.imp And.left id))); have HF9 : Aside0 (∀ k_, w9.heap.size ≤ k_ → ok k_ ∧ k_ ≠ gb) := ⟨fun k_ h_ => HF8.out k_ (Nat.le_trans hk_.1 h_)⟩; have x92 : w9.cell? ⟨gb, 2, none⟩ = some (.int .i64 x.f2) := (blk_cell BX9.out 2).trans rfl; clear hi_ hm_ hb_ hk_) | (go_at_call 63; (with_reducible refine (ih.out s1 s2 x.f2 v value hi m1 m2 mb _ g w0 _ BL9.out I9.out M9.out MB8.out HF9.out P2.out).mono ?_); rintro e w10 ⟨rfl, hi_, hm_, hb_, hk_⟩; have I10 := Aside0.mk hi_; have M10 := Aside0.mk hm_; have BL10 := Aside0.mk hb_; have BX10 := Aside0.mk (blk_kept BX9.out hk_ NB8.out); have K10 := Aside0.mk (K9.out.then_ hk_ (fun _ h_ => .inl (h_.imp And.left id))); have HF10 : Aside0 (∀ k_, w10.heap.size ≤ k_ → ok k_ ∧ k_ ≠ gb) := ⟨fun k_ h_ => HF9.out k_ (Nat.le_trans hk_.1 h_)⟩; have x100 : w10.cell? ⟨gb, 0, none⟩ = some (.int .i64 x.f0) := (blk_cell BX10.out 0).trans rfl; obtain ⟨u10, b10, c10, hg10, _⟩ := hi_; have g103 : w10.cell? ⟨g, 3, none⟩ = some (.bool s2.full) := (blk_cell hg10 3).trans rfl; rw [hfl] at g103; clear hg10 hm_ hb_ hk_) | (go_at_call 57; (with_reducible refine (impl_forking_fork.calls s2 s3 x.f0 lo hi nn _ g w0 _ BL10.out I10.out HF10.out P3.out).mono ?_); rintro e w11 ⟨rfl, hi_, hb_, hk_⟩; have I11 := Aside0.mk hi_; have BL11 := Aside0.mk hb_; have K11 := Aside0.mk (K10.out.then_ hk_ (fun _ h_ => .inl (.inl h_.1))); have M11 := Aside0.mk (M10.out.move (hk_.2 mb M10.out.lt MB8.out.2)); clear hi_ hb_ hk_) | ((with_reducible refine gate_ (op := .mapUpdate 83 (.tmp 73) (.tmp 74) (.tmp 80)) rfl ?_); refine Mp.store rfl (.tmp 73) (.tmp 74) (.tmp 80) rfl rfl M11.out keyInt Try.underlying83 n rfl C3.out nn rfl ?_; intro w12 hm_ hg_ hz_; have I12 := Aside0.mk (I11.out.step (fun k_ hk_ hlt_ => hg_.block k_ hlt_ (fun e_ => MB8.out.2 (by cases e_; exact hk_)))); have M12 := Aside0.mk hm_; have BL12 := Aside0.mk (BL11.out.grown hg_ BL11.out.size (fun k_ e_ => by cases e_; exact MB8.out.1)); have K12 := Aside0.mk (Kept.of_grown hg_ K11.out (fun k_ e_ => by cases e_; exact .inl (.inr rfl))); clear hm_ hg_ hz_) | ((with_reducible refine gate_ (op := .lookup 83 (.tmp 81) (.tmp 82) false) rfl ?_); refine Mp.at_some rfl (.tmp 81) (.tmp 82) rfl rfl M12.out keyInt Try.underlying83 zero_int n rfl C3.out (v := nn) (by simp) ?_))
       go_ret
       exact ⟨rfl, I12.out.mono (fun _ h_ => h_.1), M12.out, BL12.out, K12.out⟩
     ·rw [if_neg c5] at h
      cases h
    ·rw [if_neg c4] at h
     cases h
  ·rw [if_neg c3] at h
   cases h

/-! ### impl_DiagramFix: function 16 -/
def impl_DiagramFix.f (k : Nat) (a0_0 : Int) (l0_1 : List S71) (n : Int) (v : Int) (value : Int) : Option (Int × List S71 × Int) := (impl_DiagramValid.f a0_0 l0_1).bind fun t0 => if t0 = false then some (0, [], -1) else (impl_Diagram_isPlace.f a0_0 l0_1 n).bind fun t1 => if t1 = false then some (0, [], -1) else (impl_in.f v 0 (wrap64 (a0_0 - 1))).bind fun t2 => if t2 = false then some (0, [], -1) else (impl_in.f value 0 1).bind fun t3 => if t3 = false then some (0, [], -1) else (impl_forkingOf.f a0_0 l0_1).bind fun s => (impl_forking_fix.f k s n v value (fun _ => none)).bind fun p => impl_forking_done.f p.1 p.2.2
theorem impl_DiagramFix.mono : ∀ a0_0 l0_1 n v value k, LeO (impl_DiagramFix.f k a0_0 l0_1 n v value) (impl_DiagramFix.f (k + 1) a0_0 l0_1 n v value) := fun a0_0 l0_1 n v value k => LeO.bind (LeO.refl _) (fun _ => LeO.ite (LeO.refl _) (LeO.bind (LeO.refl _) (fun _ => LeO.ite (LeO.refl _) (LeO.bind (LeO.refl _) (fun _ => LeO.ite (LeO.refl _) (LeO.bind (LeO.refl _) (fun _ => LeO.ite (LeO.refl _) (LeO.bind (LeO.refl _) (fun _ => LeO.bind (impl_forking_fix.mono _ _ _ _ _ k) (fun _ => LeO.refl _))))))))))
set_option maxHeartbeats 8000000 in
set_option maxRecDepth 100000 in
theorem impl_DiagramFix.calls (k : Nat) (a0_0 : Int) (A0_1 : Option Addr) (c0_1 : Nat) (l0_1 : List S71) (n : Int) (v : Int) (value : Int) (r1 : Int) (r2 : List S71) (r3 : Int) (w : World) (hr : Kd.C k71 w A0_1 l0_1.length l0_1) (hc : l0_1.length ≤ c0_1) (h : impl_DiagramFix.f k a0_0 l0_1 n v value = some (r1, r2, r3)) :
  Calls Try.prog 16 #[.agg #[.int .i64 a0_0, .slice A0_1 l0_1.length c0_1], .int .i64 n, .int .i64 v, .int .i64 value] w fun e w' => ∃ v1_ : Value, e = .returned (.tuple #[.agg #[.int .i64 r1, v1_], .int .i64 r3]) ∧ Kd.R k71 71 w' w.heap.size (fun _ => True) v1_ r2 ∧ Below w.heap.size w w' := by
 have hu25 := Try.underlying25
 have HR := Aside0.mk hr
 have HC := Aside0.mk hc
 unfold impl_DiagramFix.f at h
 clear hr hc
 obtain ⟨t0, h0, h_⟩ := Option.bind_eq_some_iff.mp h
 clear h
 have h := h_
 have T0 := Aside0.mk h0
 clear h0 h_
 cases t0 with
 | false =>
  rw [if_pos rfl] at h
  simp only [Option.some.injEq, Prod.mk.injEq] at h
  obtain ⟨rfl, rfl, rfl⟩ := h
  go_enter Try.func16, Try.ntmps16
  go_wp2_with (first | ((with_reducible refine gate_dst (N := 4) rfl ?_); refine box_event ?hg (N := 4) ?hd (cs := #[.int .i64 a0_0, .slice A0_1 l0_1.length c0_1]) (t := 25) ?hr ?_; (case hd => rfl); (case hg => rfl); (case hr => first | (go_simp; done) | (go_simp; rfl)); intro g0 hg0 w1 hbox hb; have BD1 := Aside0.mk hbox; have HB1 := Aside0.mk hb; clear hg0 hbox hb) | ((with_reducible refine gate_dst (N := 8) rfl ?_); refine box_event ?hg (N := 8) ?hd (cs := #[.int .i64 0, .slice none 0 0]) (t := 25) ?hr ?_; (case hd => rfl); (case hg => rfl); (case hr => first | (go_simp; done) | (go_simp; rfl)); intro gr hgr w2 hbox hb; have GR := Aside0.mk (show w.heap.size ≤ gr by rw [hgr]; exact HB1.out.size); have BR2 := Aside0.mk hbox; have BD2 := Aside0.mk (blk_below BD1.out hb); have HB2 := Aside0.mk (below_step HB1.out hb); have d20 : w2.cell? ⟨g0, 0, none⟩ = some (.int .i64 a0_0) := (blk_cell BD2.out 0).trans rfl; have d21 : w2.cell? ⟨g0, 1, none⟩ = some (.slice A0_1 l0_1.length c0_1) := (blk_cell BD2.out 1).trans rfl; clear hgr hbox hb) | (go_at_call 17; (with_reducible refine (impl_DiagramValid.calls a0_0 A0_1 c0_1 l0_1 false _ (Kd.C_below HR.out HB2.out) HC.out T0.out).mono ?_); rintro e w3 ⟨rfl, hb⟩; have HB3 := Aside0.mk (below_step HB2.out hb); have BD3 := Aside0.mk (blk_below BD2.out hb); have BR3 := Aside0.mk (blk_below BR2.out hb); have d30 : w3.cell? ⟨g0, 0, none⟩ = some (.int .i64 a0_0) := (blk_cell BD3.out 0).trans rfl; have d31 : w3.cell? ⟨g0, 1, none⟩ = some (.slice A0_1 l0_1.length c0_1) := (blk_cell BD3.out 1).trans rfl; have r30 : w3.cell? ⟨gr, 0, none⟩ = some (.int .i64 0) := (blk_cell BR3.out 0).trans rfl; have r31 : w3.cell? ⟨gr, 1, none⟩ = some (.slice none 0 0) := (blk_cell BR3.out 1).trans rfl; have q30 := blk_frozen BR3.out 0; have q31 := blk_frozen BR3.out 1; clear hb))
  refine bodyPost_ret (results_ct rfl _ _ gr 25 #[.int .i64 0, .slice none 0 0] (0, 0) _ rfl (blk_put (blk_put BR3.out 0 _ rfl) 1 _ rfl) Try.underlying25 rfl (by kernel_rfl)) rfl ?_
  exact ⟨_, rfl, Kd.R_nil _ _ _ _ _, below_set (below_set HB3.out GR.out) GR.out⟩
 | true =>
  rw [if_neg (by decide)] at h
  obtain ⟨t1, h1, h_⟩ := Option.bind_eq_some_iff.mp h
  clear h
  have h := h_
  have T1 := Aside0.mk h1
  clear h1 h_
  cases t1 with
  | false =>
   rw [if_pos rfl] at h
   simp only [Option.some.injEq, Prod.mk.injEq] at h
   obtain ⟨rfl, rfl, rfl⟩ := h
   go_enter Try.func16, Try.ntmps16
   go_wp2_with (first | ((with_reducible refine gate_dst (N := 4) rfl ?_); refine box_event ?hg (N := 4) ?hd (cs := #[.int .i64 a0_0, .slice A0_1 l0_1.length c0_1]) (t := 25) ?hr ?_; (case hd => rfl); (case hg => rfl); (case hr => first | (go_simp; done) | (go_simp; rfl)); intro g0 hg0 w1 hbox hb; have BD1 := Aside0.mk hbox; have HB1 := Aside0.mk hb; clear hg0 hbox hb) | ((with_reducible refine gate_dst (N := 8) rfl ?_); refine box_event ?hg (N := 8) ?hd (cs := #[.int .i64 0, .slice none 0 0]) (t := 25) ?hr ?_; (case hd => rfl); (case hg => rfl); (case hr => first | (go_simp; done) | (go_simp; rfl)); intro gr hgr w2 hbox hb; have GR := Aside0.mk (show w.heap.size ≤ gr by rw [hgr]; exact HB1.out.size); have BR2 := Aside0.mk hbox; have BD2 := Aside0.mk (blk_below BD1.out hb); have HB2 := Aside0.mk (below_step HB1.out hb); have d20 : w2.cell? ⟨g0, 0, none⟩ = some (.int .i64 a0_0) := (blk_cell BD2.out 0).trans rfl; have d21 : w2.cell? ⟨g0, 1, none⟩ = some (.slice A0_1 l0_1.length c0_1) := (blk_cell BD2.out 1).trans rfl; clear hgr hbox hb) | (go_at_call 17; (with_reducible refine (impl_DiagramValid.calls a0_0 A0_1 c0_1 l0_1 true _ (Kd.C_below HR.out HB2.out) HC.out T0.out).mono ?_); rintro e w3 ⟨rfl, hb⟩; have HB3 := Aside0.mk (below_step HB2.out hb); have BD3 := Aside0.mk (blk_below BD2.out hb); have BR3 := Aside0.mk (blk_below BR2.out hb); have d30 : w3.cell? ⟨g0, 0, none⟩ = some (.int .i64 a0_0) := (blk_cell BD3.out 0).trans rfl; have d31 : w3.cell? ⟨g0, 1, none⟩ = some (.slice A0_1 l0_1.length c0_1) := (blk_cell BD3.out 1).trans rfl; have r30 : w3.cell? ⟨gr, 0, none⟩ = some (.int .i64 0) := (blk_cell BR3.out 0).trans rfl; have r31 : w3.cell? ⟨gr, 1, none⟩ = some (.slice none 0 0) := (blk_cell BR3.out 1).trans rfl; have q30 := blk_frozen BR3.out 0; have q31 := blk_frozen BR3.out 1; clear hb) | (go_at_call 53; (with_reducible refine (impl_Diagram_isPlace.calls a0_0 A0_1 c0_1 l0_1 n false _ (Kd.C_below HR.out HB3.out) HC.out T1.out).mono ?_); rintro e w4 ⟨rfl, hb⟩; have HB4 := Aside0.mk (below_step HB3.out hb); have BD4 := Aside0.mk (blk_below BD3.out hb); have BR4 := Aside0.mk (blk_below BR3.out hb); have d40 : w4.cell? ⟨g0, 0, none⟩ = some (.int .i64 a0_0) := (blk_cell BD4.out 0).trans rfl; have d41 : w4.cell? ⟨g0, 1, none⟩ = some (.slice A0_1 l0_1.length c0_1) := (blk_cell BD4.out 1).trans rfl; have r40 : w4.cell? ⟨gr, 0, none⟩ = some (.int .i64 0) := (blk_cell BR4.out 0).trans rfl; have r41 : w4.cell? ⟨gr, 1, none⟩ = some (.slice none 0 0) := (blk_cell BR4.out 1).trans rfl; have q40 := blk_frozen BR4.out 0; have q41 := blk_frozen BR4.out 1; clear hb))
   refine bodyPost_ret (results_ct rfl _ _ gr 25 #[.int .i64 0, .slice none 0 0] (0, 0) _ rfl (blk_put (blk_put BR4.out 0 _ rfl) 1 _ rfl) Try.underlying25 rfl (by kernel_rfl)) rfl ?_
   exact ⟨_, rfl, Kd.R_nil _ _ _ _ _, below_set (below_set HB4.out GR.out) GR.out⟩
  | true =>
   rw [if_neg (by decide)] at h
   obtain ⟨t2, h2, h_⟩ := Option.bind_eq_some_iff.mp h
   clear h
   have h := h_
   have T2 := Aside0.mk h2
   clear h2 h_
   cases t2 with
   | false =>
    rw [if_pos rfl] at h
    simp only [Option.some.injEq, Prod.mk.injEq] at h
    obtain ⟨rfl, rfl, rfl⟩ := h
    go_enter Try.func16, Try.ntmps16
    go_wp2_with (first | ((with_reducible refine gate_dst (N := 4) rfl ?_); refine box_event ?hg (N := 4) ?hd (cs := #[.int .i64 a0_0, .slice A0_1 l0_1.length c0_1]) (t := 25) ?hr ?_; (case hd => rfl); (case hg => rfl); (case hr => first | (go_simp; done) | (go_simp; rfl)); intro g0 hg0 w1 hbox hb; have BD1 := Aside0.mk hbox; have HB1 := Aside0.mk hb; clear hg0 hbox hb) | ((with_reducible refine gate_dst (N := 8) rfl ?_); refine box_event ?hg (N := 8) ?hd (cs := #[.int .i64 0, .slice none 0 0]) (t := 25) ?hr ?_; (case hd => rfl); (case hg => rfl); (case hr => first | (go_simp; done) | (go_simp; rfl)); intro gr hgr w2 hbox hb; have GR := Aside0.mk (show w.heap.size ≤ gr by rw [hgr]; exact HB1.out.size); have BR2 := Aside0.mk hbox; have BD2 := Aside0.mk (blk_below BD1.out hb); have HB2 := Aside0.mk (below_step HB1.out hb); have d20 : w2.cell? ⟨g0, 0, none⟩ = some (.int .i64 a0_0) := (blk_cell BD2.out 0).trans rfl; have d21 : w2.cell? ⟨g0, 1, none⟩ = some (.slice A0_1 l0_1.length c0_1) := (blk_cell BD2.out 1).trans rfl; clear hgr hbox hb) | (go_at_call 17; (with_reducible refine (impl_DiagramValid.calls a0_0 A0_1 c0_1 l0_1 true _ (Kd.C_below HR.out HB2.out) HC.out T0.out).mono ?_); rintro e w3 ⟨rfl, hb⟩; have HB3 := Aside0.mk (below_step HB2.out hb); have BD3 := Aside0.mk (blk_below BD2.out hb); have BR3 := Aside0.mk (blk_below BR2.out hb); have d30 : w3.cell? ⟨g0, 0, none⟩ = some (.int .i64 a0_0) := (blk_cell BD3.out 0).trans rfl; have d31 : w3.cell? ⟨g0, 1, none⟩ = some (.slice A0_1 l0_1.length c0_1) := (blk_cell BD3.out 1).trans rfl; have r30 : w3.cell? ⟨gr, 0, none⟩ = some (.int .i64 0) := (blk_cell BR3.out 0).trans rfl; have r31 : w3.cell? ⟨gr, 1, none⟩ = some (.slice none 0 0) := (blk_cell BR3.out 1).trans rfl; have q30 := blk_frozen BR3.out 0; have q31 := blk_frozen BR3.out 1; clear hb) | (go_at_call 53; (with_reducible refine (impl_Diagram_isPlace.calls a0_0 A0_1 c0_1 l0_1 n true _ (Kd.C_below HR.out HB3.out) HC.out T1.out).mono ?_); rintro e w4 ⟨rfl, hb⟩; have HB4 := Aside0.mk (below_step HB3.out hb); have BD4 := Aside0.mk (blk_below BD3.out hb); have BR4 := Aside0.mk (blk_below BR3.out hb); have d40 : w4.cell? ⟨g0, 0, none⟩ = some (.int .i64 a0_0) := (blk_cell BD4.out 0).trans rfl; have d41 : w4.cell? ⟨g0, 1, none⟩ = some (.slice A0_1 l0_1.length c0_1) := (blk_cell BD4.out 1).trans rfl; have r40 : w4.cell? ⟨gr, 0, none⟩ = some (.int .i64 0) := (blk_cell BR4.out 0).trans rfl; have r41 : w4.cell? ⟨gr, 1, none⟩ = some (.slice none 0 0) := (blk_cell BR4.out 1).trans rfl; have q40 := blk_frozen BR4.out 0; have q41 := blk_frozen BR4.out 1; clear hb) | (go_at_call 52; (with_reducible refine (impl_in.calls v 0 (wrap64 (a0_0 - 1)) false _ T2.out).mono ?_); rintro e w5 ⟨rfl, hb⟩; replace hb := hb.below; have HB5 := Aside0.mk (below_step HB4.out hb); have BD5 := Aside0.mk (blk_below BD4.out hb); have BR5 := Aside0.mk (blk_below BR4.out hb); have d50 : w5.cell? ⟨g0, 0, none⟩ = some (.int .i64 a0_0) := (blk_cell BD5.out 0).trans rfl; have d51 : w5.cell? ⟨g0, 1, none⟩ = some (.slice A0_1 l0_1.length c0_1) := (blk_cell BD5.out 1).trans rfl; have r50 : w5.cell? ⟨gr, 0, none⟩ = some (.int .i64 0) := (blk_cell BR5.out 0).trans rfl; have r51 : w5.cell? ⟨gr, 1, none⟩ = some (.slice none 0 0) := (blk_cell BR5.out 1).trans rfl; have q50 := blk_frozen BR5.out 0; have q51 := blk_frozen BR5.out 1; clear hb))
    refine bodyPost_ret (results_ct rfl _ _ gr 25 #[.int .i64 0, .slice none 0 0] (0, 0) _ rfl (blk_put (blk_put BR5.out 0 _ rfl) 1 _ rfl) Try.underlying25 rfl (by kernel_rfl)) rfl ?_
    exact ⟨_, rfl, Kd.R_nil _ _ _ _ _, below_set (below_set HB5.out GR.out) GR.out⟩
   | true =>
    rw [if_neg (by decide)] at h
    obtain ⟨t3, h3, h_⟩ := Option.bind_eq_some_iff.mp h
    clear h
    have h := h_
    have T3 := Aside0.mk h3
    clear h3 h_
    cases t3 with
    | false =>
     rw [if_pos rfl] at h
     simp only [Option.some.injEq, Prod.mk.injEq] at h
     obtain ⟨rfl, rfl, rfl⟩ := h
     go_enter Try.func16, Try.ntmps16
     go_wp2_with (first | ((with_reducible refine gate_dst (N := 4) rfl ?_); refine box_event ?hg (N := 4) ?hd (cs := #[.int .i64 a0_0, .slice A0_1 l0_1.length c0_1]) (t := 25) ?hr ?_; (case hd => rfl); (case hg => rfl); (case hr => first | (go_simp; done) | (go_simp; rfl)); intro g0 hg0 w1 hbox hb; have BD1 := Aside0.mk hbox; have HB1 := Aside0.mk hb; clear hg0 hbox hb) | ((with_reducible refine gate_dst (N := 8) rfl ?_); refine box_event ?hg (N := 8) ?hd (cs := #[.int .i64 0, .slice none 0 0]) (t := 25) ?hr ?_; (case hd => rfl); (case hg => rfl); (case hr => first | (go_simp; done) | (go_simp; rfl)); intro gr hgr w2 hbox hb; have GR := Aside0.mk (show w.heap.size ≤ gr by rw [hgr]; exact HB1.out.size); have BR2 := Aside0.mk hbox; have BD2 := Aside0.mk (blk_below BD1.out hb); have HB2 := Aside0.mk (below_step HB1.out hb); have d20 : w2.cell? ⟨g0, 0, none⟩ = some (.int .i64 a0_0) := (blk_cell BD2.out 0).trans rfl; have d21 : w2.cell? ⟨g0, 1, none⟩ = some (.slice A0_1 l0_1.length c0_1) := (blk_cell BD2.out 1).trans rfl; clear hgr hbox hb) | (go_at_call 17; (with_reducible refine (impl_DiagramValid.calls a0_0 A0_1 c0_1 l0_1 true _ (Kd.C_below HR.out HB2.out) HC.out T0.out).mono ?_); rintro e w3 ⟨rfl, hb⟩; have HB3 := Aside0.mk (below_step HB2.out hb); have BD3 := Aside0.mk (blk_below BD2.out hb); have BR3 := Aside0.mk (blk_below BR2.out hb); have d30 : w3.cell? ⟨g0, 0, none⟩ = some (.int .i64 a0_0) := (blk_cell BD3.out 0).trans rfl; have d31 : w3.cell? ⟨g0, 1, none⟩ = some (.slice A0_1 l0_1.length c0_1) := (blk_cell BD3.out 1).trans rfl; have r30 : w3.cell? ⟨gr, 0, none⟩ = some (.int .i64 0) := (blk_cell BR3.out 0).trans rfl; have r31 : w3.cell? ⟨gr, 1, none⟩ = some (.slice none 0 0) := (blk_cell BR3.out 1).trans rfl; have q30 := blk_frozen BR3.out 0; have q31 := blk_frozen BR3.out 1; clear hb) | (go_at_call 53; (with_reducible refine (impl_Diagram_isPlace.calls a0_0 A0_1 c0_1 l0_1 n true _ (Kd.C_below HR.out HB3.out) HC.out T1.out).mono ?_); rintro e w4 ⟨rfl, hb⟩; have HB4 := Aside0.mk (below_step HB3.out hb); have BD4 := Aside0.mk (blk_below BD3.out hb); have BR4 := Aside0.mk (blk_below BR3.out hb); have d40 : w4.cell? ⟨g0, 0, none⟩ = some (.int .i64 a0_0) := (blk_cell BD4.out 0).trans rfl; have d41 : w4.cell? ⟨g0, 1, none⟩ = some (.slice A0_1 l0_1.length c0_1) := (blk_cell BD4.out 1).trans rfl; have r40 : w4.cell? ⟨gr, 0, none⟩ = some (.int .i64 0) := (blk_cell BR4.out 0).trans rfl; have r41 : w4.cell? ⟨gr, 1, none⟩ = some (.slice none 0 0) := (blk_cell BR4.out 1).trans rfl; have q40 := blk_frozen BR4.out 0; have q41 := blk_frozen BR4.out 1; clear hb) | (go_at_call 52; (with_reducible refine (impl_in.calls v 0 (wrap64 (a0_0 - 1)) true _ T2.out).mono ?_); rintro e w5 ⟨rfl, hb⟩; replace hb := hb.below; have HB5 := Aside0.mk (below_step HB4.out hb); have BD5 := Aside0.mk (blk_below BD4.out hb); have BR5 := Aside0.mk (blk_below BR4.out hb); have d50 : w5.cell? ⟨g0, 0, none⟩ = some (.int .i64 a0_0) := (blk_cell BD5.out 0).trans rfl; have d51 : w5.cell? ⟨g0, 1, none⟩ = some (.slice A0_1 l0_1.length c0_1) := (blk_cell BD5.out 1).trans rfl; have r50 : w5.cell? ⟨gr, 0, none⟩ = some (.int .i64 0) := (blk_cell BR5.out 0).trans rfl; have r51 : w5.cell? ⟨gr, 1, none⟩ = some (.slice none 0 0) := (blk_cell BR5.out 1).trans rfl; have q50 := blk_frozen BR5.out 0; have q51 := blk_frozen BR5.out 1; clear hb) | (go_at_call 52; (with_reducible refine (impl_in.calls value 0 1 false _ T3.out).mono ?_); rintro e w6 ⟨rfl, hb⟩; replace hb := hb.below; have HB6 := Aside0.mk (below_step HB5.out hb); have BD6 := Aside0.mk (blk_below BD5.out hb); have BR6 := Aside0.mk (blk_below BR5.out hb); have d60 : w6.cell? ⟨g0, 0, none⟩ = some (.int .i64 a0_0) := (blk_cell BD6.out 0).trans rfl; have d61 : w6.cell? ⟨g0, 1, none⟩ = some (.slice A0_1 l0_1.length c0_1) := (blk_cell BD6.out 1).trans rfl; have r60 : w6.cell? ⟨gr, 0, none⟩ = some (.int .i64 0) := (blk_cell BR6.out 0).trans rfl; have r61 : w6.cell? ⟨gr, 1, none⟩ = some (.slice none 0 0) := (blk_cell BR6.out 1).trans rfl; have q60 := blk_frozen BR6.out 0; have q61 := blk_frozen BR6.out 1; clear hb))
     refine bodyPost_ret (results_ct rfl _ _ gr 25 #[.int .i64 0, .slice none 0 0] (0, 0) _ rfl (blk_put (blk_put BR6.out 0 _ rfl) 1 _ rfl) Try.underlying25 rfl (by kernel_rfl)) rfl ?_
     exact ⟨_, rfl, Kd.R_nil _ _ _ _ _, below_set (below_set HB6.out GR.out) GR.out⟩
    | true =>
     rw [if_neg (by decide)] at h
     obtain ⟨s, hs, h_⟩ := Option.bind_eq_some_iff.mp h
     obtain ⟨⟨s2, mm, r⟩, hp, hd⟩ := Option.bind_eq_some_iff.mp h_
     have TS := Aside0.mk hs
     have TP := Aside0.mk hp
     have TD := Aside0.mk hd
     clear h h_ hs hp hd
     go_enter Try.func16, Try.ntmps16
     go_wp2_with (first | ((with_reducible refine gate_dst (N := 4) rfl ?_); refine box_event ?hg (N := 4) ?hd (cs := #[.int .i64 a0_0, .slice A0_1 l0_1.length c0_1]) (t := 25) ?hr ?_; (case hd => rfl); (case hg => rfl); (case hr => first | (go_simp; done) | (go_simp; rfl)); intro g0 hg0 w1 hbox hb; have BD1 := Aside0.mk hbox; have HB1 := Aside0.mk hb; clear hg0 hbox hb) | ((with_reducible refine gate_dst (N := 8) rfl ?_); refine box_event ?hg (N := 8) ?hd (cs := #[.int .i64 0, .slice none 0 0]) (t := 25) ?hr ?_; (case hd => rfl); (case hg => rfl); (case hr => first | (go_simp; done) | (go_simp; rfl)); intro gr hgr w2 hbox hb; have GR := Aside0.mk (show w.heap.size ≤ gr by rw [hgr]; exact HB1.out.size); have BR2 := Aside0.mk hbox; have BD2 := Aside0.mk (blk_below BD1.out hb); have HB2 := Aside0.mk (below_step HB1.out hb); have d20 : w2.cell? ⟨g0, 0, none⟩ = some (.int .i64 a0_0) := (blk_cell BD2.out 0).trans rfl; have d21 : w2.cell? ⟨g0, 1, none⟩ = some (.slice A0_1 l0_1.length c0_1) := (blk_cell BD2.out 1).trans rfl; clear hgr hbox hb) | (go_at_call 17; (with_reducible refine (impl_DiagramValid.calls a0_0 A0_1 c0_1 l0_1 true _ (Kd.C_below HR.out HB2.out) HC.out T0.out).mono ?_); rintro e w3 ⟨rfl, hb⟩; have HB3 := Aside0.mk (below_step HB2.out hb); have BD3 := Aside0.mk (blk_below BD2.out hb); have BR3 := Aside0.mk (blk_below BR2.out hb); have d30 : w3.cell? ⟨g0, 0, none⟩ = some (.int .i64 a0_0) := (blk_cell BD3.out 0).trans rfl; have d31 : w3.cell? ⟨g0, 1, none⟩ = some (.slice A0_1 l0_1.length c0_1) := (blk_cell BD3.out 1).trans rfl; have r30 : w3.cell? ⟨gr, 0, none⟩ = some (.int .i64 0) := (blk_cell BR3.out 0).trans rfl; have r31 : w3.cell? ⟨gr, 1, none⟩ = some (.slice none 0 0) := (blk_cell BR3.out 1).trans rfl; have q30 := blk_frozen BR3.out 0; have q31 := blk_frozen BR3.out 1; clear hb) | (go_at_call 53; (with_reducible refine (impl_Diagram_isPlace.calls a0_0 A0_1 c0_1 l0_1 n true _ (Kd.C_below HR.out HB3.out) HC.out T1.out).mono ?_); rintro e w4 ⟨rfl, hb⟩; have HB4 := Aside0.mk (below_step HB3.out hb); have BD4 := Aside0.mk (blk_below BD3.out hb); have BR4 := Aside0.mk (blk_below BR3.out hb); have d40 : w4.cell? ⟨g0, 0, none⟩ = some (.int .i64 a0_0) := (blk_cell BD4.out 0).trans rfl; have d41 : w4.cell? ⟨g0, 1, none⟩ = some (.slice A0_1 l0_1.length c0_1) := (blk_cell BD4.out 1).trans rfl; have r40 : w4.cell? ⟨gr, 0, none⟩ = some (.int .i64 0) := (blk_cell BR4.out 0).trans rfl; have r41 : w4.cell? ⟨gr, 1, none⟩ = some (.slice none 0 0) := (blk_cell BR4.out 1).trans rfl; have q40 := blk_frozen BR4.out 0; have q41 := blk_frozen BR4.out 1; clear hb) | (go_at_call 52; (with_reducible refine (impl_in.calls v 0 (wrap64 (a0_0 - 1)) true _ T2.out).mono ?_); rintro e w5 ⟨rfl, hb⟩; replace hb := hb.below; have HB5 := Aside0.mk (below_step HB4.out hb); have BD5 := Aside0.mk (blk_below BD4.out hb); have BR5 := Aside0.mk (blk_below BR4.out hb); have d50 : w5.cell? ⟨g0, 0, none⟩ = some (.int .i64 a0_0) := (blk_cell BD5.out 0).trans rfl; have d51 : w5.cell? ⟨g0, 1, none⟩ = some (.slice A0_1 l0_1.length c0_1) := (blk_cell BD5.out 1).trans rfl; have r50 : w5.cell? ⟨gr, 0, none⟩ = some (.int .i64 0) := (blk_cell BR5.out 0).trans rfl; have r51 : w5.cell? ⟨gr, 1, none⟩ = some (.slice none 0 0) := (blk_cell BR5.out 1).trans rfl; have q50 := blk_frozen BR5.out 0; have q51 := blk_frozen BR5.out 1; clear hb) | (go_at_call 52; (with_reducible refine (impl_in.calls value 0 1 true _ T3.out).mono ?_); rintro e w6 ⟨rfl, hb⟩; replace hb := hb.below; have HB6 := Aside0.mk (below_step HB5.out hb); have BD6 := Aside0.mk (blk_below BD5.out hb); have BR6 := Aside0.mk (blk_below BR5.out hb); have d60 : w6.cell? ⟨g0, 0, none⟩ = some (.int .i64 a0_0) := (blk_cell BD6.out 0).trans rfl; have d61 : w6.cell? ⟨g0, 1, none⟩ = some (.slice A0_1 l0_1.length c0_1) := (blk_cell BD6.out 1).trans rfl; have r60 : w6.cell? ⟨gr, 0, none⟩ = some (.int .i64 0) := (blk_cell BR6.out 0).trans rfl; have r61 : w6.cell? ⟨gr, 1, none⟩ = some (.slice none 0 0) := (blk_cell BR6.out 1).trans rfl; have q60 := blk_frozen BR6.out 0; have q61 := blk_frozen BR6.out 1; clear hb) | (go_at_call 55; (with_reducible refine (impl_forkingOf.calls a0_0 A0_1 c0_1 l0_1 s _ (Kd.C_below HR.out HB6.out) HC.out TS.out).mono ?_); rintro e wF ⟨g, rfl, hi, hb⟩; have IF := Aside0.mk hi; have HBF := Aside0.mk hb; clear hi hb) | ((with_reducible refine gate_ (op := .makeMap 83 none) rfl ?_); refine Mp.made_event rfl (N := 41) rfl 83 rfl (Value.int .i64) KeyI (Value.int .i64) ?_; intro mb hmb wM hM_ hb; have IM : Aside0 (IsF wM w6.heap.size (fun k_ => w6.heap.size ≤ k_ ∧ k_ ≠ mb) g s) := ⟨IsF.mono (IF.out.bound.below hb) (fun k_ hk_ => ⟨hk_.1, fun e_ => by have := hk_.2.2; omega⟩)⟩; have MM := Aside0.mk hM_; have BM := Aside0.mk (below_then HBF.out HBF.out.size hb); have MB : Aside0 (w6.heap.size ≤ mb ∧ ¬ (w6.heap.size ≤ mb ∧ mb ≠ mb)) := ⟨⟨by rw [hmb]; exact HBF.out.size, fun h_ => h_.2 rfl⟩⟩; have HFX : Aside0 (∀ k_, wM.heap.size ≤ k_ → w6.heap.size ≤ k_ ∧ k_ ≠ mb) := ⟨fun k_ h_ => ⟨Nat.le_trans BM.out.size h_, fun e_ => by have := hM_.lt; omega⟩⟩; clear hmb hM_ hb) | (go_at_call 63; (with_reducible refine (impl_forking_fix.calls k s s2 n v value r (fun _ => none) mm mb _ g w6 _ BM.out IM.out MM.out MB.out HFX.out TP.out).mono ?_); rintro e wG ⟨rfl, hi_, hm_, hb_, hk_⟩; have IG := Aside0.mk hi_; have HBG := Aside0.mk hb_; clear hi_ hm_ hb_ hk_) | (go_at_call 56; (with_reducible refine (impl_forking_done.calls s2 r r1 r2 r3 _ _ g _ IG.out TD.out).mono ?_); rintro e wD ⟨v1, rfl, hR, hb⟩; obtain ⟨A5, c5, rfl⟩ := Kd.R_slice hR; have HBD := Aside0.mk (below_then HBG.out HBG.out.size hb); have BRD := Aside0.mk (blk_below BR6.out HBD.out); have RD := Aside0.mk (Kd.R_lower hR (Nat.le_trans HB6.out.size HBG.out.size)); have r90 : wD.cell? ⟨gr, 0, none⟩ = some (.int .i64 0) := (blk_cell BRD.out 0).trans rfl; have r91 : wD.cell? ⟨gr, 1, none⟩ = some (.slice none 0 0) := (blk_cell BRD.out 1).trans rfl; have q90 := blk_frozen BRD.out 0; have q91 := blk_frozen BRD.out 1; clear hR hb))
     refine bodyPost_ret (results_ct rfl _ _ gr 25 #[.int .i64 r1, .slice A5 r2.length c5] (0, 0) _ rfl (blk_put (blk_put BRD.out 0 _ rfl) 1 _ rfl) Try.underlying25 rfl (by kernel_rfl)) rfl ?_
     exact ⟨_, rfl, Kd.R_mono (Kd.R_far (p := ⟨gr, 1, none⟩) (Kd.R_far (p := ⟨gr, 0, none⟩) (Kd.R_types RD.out BRD.out (by decide)) (fun _ hk => hk.2) _) (fun _ hk => hk.2) _) (fun _ _ => trivial), below_set (below_set (below_step HB6.out HBD.out) GR.out) GR.out⟩

end Go.Proofs.Ytpcompnmadpljaa.QFnAddFork
