-- Written by a program of this session (mk.py). Lean checks it.
import Derived.Test.YtpcompnmadpljaaQFnDiagramSamex0
import Derived.Test.YtpcompnmadpljaaQFnDiagramSamex9
import Derived.Test.YtpcompnmadpljaaQFnDiagramSamex11
namespace Go.Proofs.Ytpcompnmadpljaa.QFnDiagramSame
open Go.RowKit Go.Proofs.YtpcompnmadpljaaW.PrintWords Go.Proofs.YtpcompnmadpljaaW.PrintLast Go.Proofs.YtpcompnmadpljaaW.PrintMore
attribute [local go_sem] max2_int min2_int max_two min_two max_three min_three max_four min_four   -- for this text's walks alone
set_option linter.unusedVariables false
set_option linter.unusedSimpArgs false

/-! ### spec_DrawDiagramAnd: function 37 -/
def spec_DrawDiagramAnd.f (k : Nat) (l0 : List Int) : Option (Int × (List (S71)) × Int × Int) := (spec_l40Open.f l0).bind fun bt272 => ((spec_l8Any.f k bt272.1 bt272.2 5).bind fun bt275 => ((spec_l40Rd_pick.f k bt272.1 bt275.2.2.2 3).bind fun bt282 => (if bt282.1 = 0 then ((spec_l40Rd_num.f k bt272.1 bt282.2 (([0, 1, bt275.2.2.1, 2] : List Int))).bind fun bt287 => (some (bt275.1, bt275.2.1, bt275.2.2.1, bt287.1))) else ((spec_l40Rd_pick.f k bt272.1 bt282.2 (wrap64 ((bt275.2.1.length : Int) + 2))).bind fun bt289 => (some (bt275.1, bt275.2.1, bt275.2.2.1, bt289.1))))))
theorem spec_DrawDiagramAnd.mono : ∀ a0 k, LeO (spec_DrawDiagramAnd.f k a0) (spec_DrawDiagramAnd.f (k + 1) a0) := by
 intro a0 k
 unfold spec_DrawDiagramAnd.f
 repeat' first
   | (with_reducible exact spec_l40Rd_num.mono _ _ _ _)
   | (with_reducible exact spec_l40Rd_pick.mono _ _ _ _)
   | (with_reducible exact spec_l8Any.mono _ _ _ _)
   | (with_reducible exact LeO.refl _)
   | (with_reducible exact LeO.none _)
   | (with_reducible refine LeO.ite ?_ ?_)
   | (with_reducible refine LeO.bind ?_ (fun _ => ?_))
   | exact spec_l40Rd_num.mono _ _ _ _
   | exact spec_l40Rd_pick.mono _ _ _ _
   | exact spec_l8Any.mono _ _ _ _
   | exact LeO.none _
   | refine LeO.ite ?_ ?_
   | refine LeO.bind ?_ (fun _ => ?_)
def spec_DrawDiagramAnd.T4 : Bool × List (List Nat × List Nat) := (true, [([], []), ([], []), ([], []), ([], []), ([3], [3]), ([2, 4], [2, 4]), ([0, 5, 0], [0]), ([1, 6, 0, 1, 6], [1]), ([5, 7, 0, 1, 2, 3, 4, 5, 6, 7], [5])])
def spec_DrawDiagramAnd.B4 : List Nat := [0, 0, 0, 0, 8, 28, 61, 127, 255]
theorem spec_DrawDiagramAnd.tab4 : rtab .any (opsOf Try.f37 4) = spec_DrawDiagramAnd.T4 := by kernel_rfl
theorem spec_DrawDiagramAnd.bits4 : waitsOk spec_DrawDiagramAnd.T4.2 spec_DrawDiagramAnd.B4 = true := by kernel_rfl
def spec_DrawDiagramAnd.T5 : Bool × List (List Nat × List Nat) := (true, [([], []), ([], []), ([], []), ([], []), ([3], [3]), ([4], [4]), ([5], [5]), ([2, 6], [2, 6]), ([0, 7, 0], [0]), ([1, 8, 0, 1, 8], [1]), ([7, 9, 0, 1, 2, 3, 4, 5, 6, 7, 8, 9], [7])])
def spec_DrawDiagramAnd.B5 : List Nat := [0, 0, 0, 0, 8, 24, 56, 124, 253, 511, 1023]
theorem spec_DrawDiagramAnd.tab5 : rtab .any (opsOf Try.f37 5) = spec_DrawDiagramAnd.T5 := by kernel_rfl
theorem spec_DrawDiagramAnd.bits5 : waitsOk spec_DrawDiagramAnd.T5.2 spec_DrawDiagramAnd.B5 = true := by kernel_rfl
set_option maxHeartbeats 8000000 in
set_option maxRecDepth 100000 in
theorem spec_DrawDiagramAnd.calls (k : Nat) (A0 : Option Addr) (c0 : Nat) (l0 : List Int) (r1 : Int) (r2 : List (S71)) (r3 : Int) (r4 : Int) (w : World) (hr0 : Kd.C (Kd.int .u8) w A0 l0.length l0) (hc0 : l0.length ≤ c0) (h : spec_DrawDiagramAnd.f k l0 = some (r1, r2, r3, r4)) :
  Calls Try.prog 37 #[.slice A0 l0.length c0] w fun e w' => ∃ v1_ : Value, e = .returned (.tuple #[.agg #[.int .i64 r1, v1_], .int .i64 r3, .int .i64 r4]) ∧ Kd.R k71 71 w' w.heap.size (fun _ => True) v1_ r2 ∧ Below w.heap.size w w' := by
 have hu25 := Try.underlying25
 have HR0 := Aside0.mk hr0
 have HC0 := Aside0.mk hc0
 clear hr0 hc0
 have HB := Aside0.mk (Below.refl w.heap.size w)
 have H : ((spec_l40Open.f l0).bind fun bt272 => ((spec_l8Any.f k bt272.1 bt272.2 5).bind fun bt275 => ((spec_l40Rd_pick.f k bt272.1 bt275.2.2.2 3).bind fun bt282 => (if bt282.1 = 0 then ((spec_l40Rd_num.f k bt272.1 bt282.2 (([0, 1, bt275.2.2.1, 2] : List Int))).bind fun bt287 => (some (bt275.1, bt275.2.1, bt275.2.2.1, bt287.1))) else ((spec_l40Rd_pick.f k bt272.1 bt282.2 (wrap64 ((bt275.2.1.length : Int) + 2))).bind fun bt289 => (some (bt275.1, bt275.2.1, bt275.2.2.1, bt289.1))))))) = some (r1, r2, r3, r4) := h
 clear h
 replace H := Option.bind_eq_some_iff.mp H
 obtain ⟨⟨t272, t273⟩, A20, H⟩ := H
 replace H : ((spec_l8Any.f k t272 t273 5).bind fun bt275 => ((spec_l40Rd_pick.f k t272 bt275.2.2.2 3).bind fun bt282 => (if bt282.1 = 0 then ((spec_l40Rd_num.f k t272 bt282.2 (([0, 1, bt275.2.2.1, 2] : List Int))).bind fun bt287 => (some (bt275.1, bt275.2.1, bt275.2.2.1, bt287.1))) else ((spec_l40Rd_pick.f k t272 bt282.2 (wrap64 ((bt275.2.1.length : Int) + 2))).bind fun bt289 => (some (bt275.1, bt275.2.1, bt275.2.2.1, bt289.1)))))) = some (r1, r2, r3, r4) := H
 have A2 := Aside0.mk A20
 clear A20
 replace H := Option.bind_eq_some_iff.mp H
 obtain ⟨⟨t275, t276, t279, t280⟩, A30, H⟩ := H
 replace H : ((spec_l40Rd_pick.f k t272 t280 3).bind fun bt282 => (if bt282.1 = 0 then ((spec_l40Rd_num.f k t272 bt282.2 (([0, 1, t279, 2] : List Int))).bind fun bt287 => (some (t275, t276, t279, bt287.1))) else ((spec_l40Rd_pick.f k t272 bt282.2 (wrap64 ((t276.length : Int) + 2))).bind fun bt289 => (some (t275, t276, t279, bt289.1))))) = some (r1, r2, r3, r4) := H
 have A3 := Aside0.mk A30
 clear A30
 replace H := Option.bind_eq_some_iff.mp H
 obtain ⟨⟨t282, t283⟩, A40, H⟩ := H
 replace H : (if t282 = 0 then ((spec_l40Rd_num.f k t272 t283 (([0, 1, t279, 2] : List Int))).bind fun bt287 => (some (t275, t276, t279, bt287.1))) else ((spec_l40Rd_pick.f k t272 t283 (wrap64 ((t276.length : Int) + 2))).bind fun bt289 => (some (t275, t276, t279, bt289.1)))) = some (r1, r2, r3, r4) := H
 have A4 := Aside0.mk A40
 clear A40
 by_cases c5 : t282 = 0
 ·rw [if_pos c5] at H
  have c5b0 : (t282 == 0) = true := beq_iff_eq.mpr c5
  have c5b1 : (t282 != 0) = false := bne_eq_false_iff_eq.mpr c5
  clear c5
  obtain ⟨y284, hy284⟩ : ∃ y_ : List Int, y_ = (([0, 1, t279, 2] : List Int)) := ⟨_, rfl⟩
  replace H : ((spec_l40Rd_num.f k t272 t283 y284).bind fun bt287 => (some (t275, t276, t279, bt287.1))) = some (r1, r2, r3, r4) := by first | (rw [hy284]; with_reducible exact H) | (have H2_ := (Option.bind_some _ _).symm.trans H; rw [hy284]; with_reducible exact H2_) | (have H2_ := (Option.bind_some _ _).symm.trans H; with_reducible exact H2_) | with_reducible exact H | (rw [hy284]; exact H) | exact H
  have Ny284 := Aside0.mk hy284
  clear hy284
  replace H := Option.bind_eq_some_iff.mp H
  obtain ⟨⟨t287, t288⟩, A60, H⟩ := H
  replace H : (some (t275, t276, t279, t287)) = some (r1, r2, r3, r4) := H
  have A6 := Aside0.mk A60
  clear A60
  simp only [Option.some.injEq, Prod.mk.injEq] at H
  obtain ⟨rfl, rfl, rfl, rfl⟩ := H
  go_enter Try.func37, Try.ntmps37
  try go_wp2_with (first | ((with_reducible refine gate_dst (N := 2) rfl ?_); refine box_event ?hg (N := 2) ?hd (cs := #[.int .i64 0, .slice none 0 0]) (t := 25) ?hr ?_; (case hd => rfl); (case hg => rfl); (case hr => first | (go_simp; done) | (go_simp; rfl)); intro gb271 hg w7 hbox hb; have n0_ := Aside0.mk (below_step (by repeat (first | (with_reducible first | exact HB.out | apply bwA | apply bwN | apply bwD) | exact HB.out)) hb); have n1_ := Aside0.mk (hbox); have n2_ := Aside0.mk ((by rw [hg]; exact (below_size (by repeat (first | (with_reducible first | exact HB.out | apply bwA | apply bwN | apply bwD) | exact HB.out))) : w.heap.size ≤ gb271)); have n3_ := Aside0.mk ((by rw [hg]; exact (below_size (by repeat (first | (with_reducible first | exact HB.out | apply bwA | apply bwN | apply bwD) | exact HB.out))) : w.heap.size ≤ gb271)); clear HB; have HB := n0_; have BK271 := n1_; have GW271 := n2_; have GE271 := n3_; clear n0_ n1_ n2_ n3_; clear hb hbox hg) | ((with_reducible refine gate_callee (f := 47) rfl ?_); refine goesL_ (some 9) rfl rfl Try.func47 (by kernel_rfl) rfl #[.slice A0 l0.length c0] rfl lmB ?_; (with_reducible refine (spec_l40Open.calls _ _ l0 t272 t273 w _ ?side1 ?side2 ?side3 A2.out).mono ?_); (case side1 => repeat (first | (with_reducible first | exact HB.out | apply bwA | apply bwN | apply bwD | refine below_set ?_ GE271.out) | exact HB.out)); (case side2 => exact HR0.out); (case side3 => exact HC0.out); rintro e w8 ⟨g274, rfl, hi, hb, hb2⟩; refine ⟨_, rfl, ?_⟩; have n0_ := Aside0.mk (blk_below (g := gb271) (o := .cells #[.int .i64 0, .slice none 0 0] 25 (0, 0)) (bvK BK271.out) hb2); have n1_ := Aside0.mk (hb); have n2_ := Aside0.mk (hi); have n3_ := Aside0.mk (IsS106.ne_blk hi (blk_below (g := gb271) (o := .cells #[.int .i64 0, .slice none 0 0] 25 (0, 0)) (bvK BK271.out) hb2) (by decide)); have n4_ := Aside0.mk (Ne.symm (IsS106.ne_blk hi (blk_below (g := gb271) (o := .cells #[.int .i64 0, .slice none 0 0] 25 (0, 0)) (bvK BK271.out) hb2) (by decide))); clear BK271; clear HB; have BK271 := n0_; have HB := n1_; have HI274 := n2_; have NB274_271 := n3_; have NB271_274 := n4_; clear n0_ n1_ n2_ n3_ n4_; (try clear hb); (try clear hb2); (try clear hk); (try clear hi)) | ((with_reducible refine gate_callee (f := 48) rfl ?_); refine goesL_ (some 12) rfl rfl Try.func48 (by kernel_rfl) rfl #[.pointer (some ⟨g274, 0, none⟩), .int .i64 5] rfl lmB ?_; (with_reducible refine (spec_l8Any.calls k g274 t272 t273 5 t275 t276 t279 t280 w _ ?side1 ?side2 A3.out).mono ?_); (case side1 => repeat (first | (with_reducible first | exact HI274.out | apply IsS106.alloc | apply IsS106.drewN | apply IsS106.drew | apply IsS106.set_1 | refine IsS106.far ?_ NB274_271.out _) | exact HI274.out)); (case side2 => repeat (first | (with_reducible first | exact HB.out | apply bwA | apply bwN | apply bwD | refine below_set ?_ (IsS106.ge HI274.out) | refine below_set ?_ GE271.out) | exact HB.out)); rintro e w9 ⟨v277, rfl, ho0, hi, hb, hk⟩; refine ⟨_, rfl, ?_⟩; have n0_ := Aside0.mk (KeepBut.blk hk (g' := gb271) (o := .cells #[.int .i64 0, .slice none 0 0] 25 (0, 0)) (bvK BK271.out) NB271_274.out (by simp)); have n1_ := Aside0.mk (Kd.R_lower ho0 (below_size (by repeat (first | (with_reducible first | exact HB.out | apply bwA | apply bwN | apply bwD | refine below_set ?_ (IsS106.ge HI274.out) | refine below_set ?_ GE271.out) | exact HB.out)))); have n2_ := Aside0.mk (hb); have n3_ := Aside0.mk (hi); clear BK271; clear HB; clear HI274; have BK271 := n0_; have HO278 := n1_; have HB := n2_; have HI274 := n3_; clear n0_ n1_ n2_ n3_; (try clear hb); (try clear hb2); (try clear hk); (try clear hi); (try clear ho0)) | ((with_reducible refine gate_dst (N := 6) rfl ?_); refine box_event ?hg (N := 6) ?hd (cs := #[.int .i64 0, .slice none 0 0]) (t := 25) ?hr ?_; (case hd => rfl); (case hg => rfl); (case hr => first | (go_simp; done) | (go_simp; rfl)); intro gb281 hg w10 hbox hb; have n0_ := Aside0.mk (Kd.R_below (rvR HO278.out) hb); have n1_ := Aside0.mk (blk_below (g := gb271) (o := .cells #[.int .i64 0, .slice none 0 0] 25 (0, 0)) (bvK BK271.out) hb); have n2_ := Aside0.mk (IsS106.below (by repeat (first | (with_reducible first | exact HI274.out | apply IsS106.alloc | apply IsS106.drewN | apply IsS106.drew | apply IsS106.set_1 | refine IsS106.far ?_ NB274_271.out _) | exact HI274.out)) hb); have n3_ := Aside0.mk (below_step (by repeat (first | (with_reducible first | exact HB.out | apply bwA | apply bwN | apply bwD | refine below_set ?_ (IsS106.ge HI274.out) | refine below_set ?_ GE271.out) | exact HB.out)) hb); have n4_ := Aside0.mk (hbox); have n5_ := Aside0.mk ((by rw [hg]; exact (below_size (by repeat (first | (with_reducible first | exact HB.out | apply bwA | apply bwN | apply bwD | refine below_set ?_ (IsS106.ge HI274.out) | refine below_set ?_ GE271.out) | exact HB.out))) : w.heap.size ≤ gb281)); have n6_ := Aside0.mk ((by rw [hg]; exact (below_size (by repeat (first | (with_reducible first | exact HB.out | apply bwA | apply bwN | apply bwD | refine below_set ?_ (IsS106.ge HI274.out) | refine below_set ?_ GE271.out) | exact HB.out))) : w.heap.size ≤ gb281)); have n7_ := Aside0.mk ((by rw [hg]; exact Nat.ne_of_lt (blk_lt (g := gb271) (o := .cells #[.int .i64 0, .slice none 0 0] 25 (0, 0)) (bvK BK271.out)) : gb271 ≠ gb281)); have n8_ := Aside0.mk ((by rw [hg]; exact Nat.ne_of_gt (blk_lt (g := gb271) (o := .cells #[.int .i64 0, .slice none 0 0] 25 (0, 0)) (bvK BK271.out)) : gb281 ≠ gb271)); have n9_ := Aside0.mk ((by rw [hg]; exact Nat.ne_of_lt (IsS106.lt (show IsS106 w _ g274 t272 t280 from by repeat (first | (with_reducible first | exact HI274.out | apply IsS106.alloc | apply IsS106.drewN | apply IsS106.drew | apply IsS106.set_1 | refine IsS106.far ?_ NB274_271.out _) | exact HI274.out))) : g274 ≠ gb281)); have n10_ := Aside0.mk ((by rw [hg]; exact Nat.ne_of_gt (IsS106.lt (show IsS106 w _ g274 t272 t280 from by repeat (first | (with_reducible first | exact HI274.out | apply IsS106.alloc | apply IsS106.drewN | apply IsS106.drew | apply IsS106.set_1 | refine IsS106.far ?_ NB274_271.out _) | exact HI274.out))) : gb281 ≠ g274)); clear HO278; clear BK271; clear HI274; clear HB; have HO278 := n0_; have BK271 := n1_; have HI274 := n2_; have HB := n3_; have BK281 := n4_; have GW281 := n5_; have GE281 := n6_; have NB271_281 := n7_; have NB281_271 := n8_; have NB274_281 := n9_; have NB281_274 := n10_; clear n0_ n1_ n2_ n3_ n4_ n5_ n6_ n7_ n8_ n9_ n10_; clear hb hbox hg; have hnb11 := NB281_271.out; have hnc11 := NB271_281.out; have hnb12 := NB281_274.out; have hnc12 := NB274_281.out; have hcz13_0 : w10.cell? ⟨gb281, 0, none⟩ = some (.int .i64 0) := (blk_cell BK281.out 0).trans rfl; have hcz13_1 : w10.cell? ⟨gb281, 1, none⟩ = some (.slice none 0 0) := (blk_cell BK281.out 1).trans rfl; have hfz13_0 := blk_frozen BK281.out 0; have hfz13_1 := blk_frozen BK281.out 1; obtain ⟨Ao14, co14, eo14⟩ := Kd.R_slice HO278.out; subst eo14) | ((with_reducible refine gate_callee (f := 49) rfl ?_); refine goesL_ (some 16) rfl rfl Try.func49 (by kernel_rfl) rfl #[.pointer (some ⟨g274, 0, none⟩), .int .i64 3] rfl lmB ?_; (with_reducible refine (spec_l40Rd_pick.calls k g274 t272 t280 3 t282 t283 w _ ?side1 ?side2 A4.out).mono ?_); (case side1 => repeat (first | (with_reducible first | exact HI274.out | apply IsS106.alloc | apply IsS106.drewN | apply IsS106.drew | apply IsS106.set_1 | refine IsS106.far ?_ NB274_271.out _ | refine IsS106.far ?_ NB274_281.out _) | exact HI274.out)); (case side2 => repeat (first | (with_reducible first | exact HB.out | apply bwA | apply bwN | apply bwD | refine below_set ?_ (IsS106.ge HI274.out) | refine below_set ?_ GE271.out | refine below_set ?_ GE281.out) | exact HB.out)); rintro e w15 ⟨rfl, hi, hb, hk⟩; refine ⟨_, rfl, ?_⟩; have n0_ := Aside0.mk (KeepBut.blk hk (g' := gb271) (o := .cells #[.int .i64 0, .slice none 0 0] 25 (0, 0)) (by (with_reducible repeat (first | refine blk_drewN ?_ _ | refine blk_drew ?_ | refine blk_alloc ?_ _)); refine blk_far ?_ NB271_281.out _; (with_reducible repeat (first | refine blk_drewN ?_ _ | refine blk_drew ?_ | refine blk_alloc ?_ _)); refine blk_far ?_ NB271_281.out _; (with_reducible repeat (first | refine blk_drewN ?_ _ | refine blk_drew ?_ | refine blk_alloc ?_ _)); exact BK271.out) NB271_274.out (by simp)); have n1_ := Aside0.mk (Kd.R_mono (Kd.R_keep (IsS106.apart (show IsS106 w _ g274 t272 t280 from by repeat (first | (with_reducible first | exact HI274.out | apply IsS106.alloc | apply IsS106.drewN | apply IsS106.drew | apply IsS106.set_1 | refine IsS106.far ?_ NB274_271.out _ | refine IsS106.far ?_ NB274_281.out _) | exact HI274.out)) (by (with_reducible repeat (first | apply Kd.R_alloc | apply Kd.R_drewN | apply Kd.R_drew)); exact (Kd.R_mono (Kd.R_far (p := ⟨gb281, 1, none⟩) (Kd.R_far (p := ⟨gb281, 0, none⟩) (Kd.R_types HO278.out BK281.out (by decide)) (fun _ hk => hk.2) (.int .i64 t275)) (fun _ hk => hk.2) (.slice Ao14 t276.length co14)) (fun _ h_ => h_.1))) (by decide)) hk (fun _ h => h.2)) (fun _ h => h.1)); have n2_ := Aside0.mk (KeepBut.blk hk (g' := gb281) (o := .cells #[.int .i64 t275, .slice Ao14 t276.length co14] 25 (0, 0)) (by (with_reducible repeat (first | refine blk_drewN ?_ _ | refine blk_drew ?_ | refine blk_alloc ?_ _)); refine blk_put (cs := #[.int .i64 t275, .slice none 0 0]) ?_ 1 _ rfl; (with_reducible repeat (first | refine blk_drewN ?_ _ | refine blk_drew ?_ | refine blk_alloc ?_ _)); refine blk_put (cs := #[.int .i64 0, .slice none 0 0]) ?_ 0 _ rfl; (with_reducible repeat (first | refine blk_drewN ?_ _ | refine blk_drew ?_ | refine blk_alloc ?_ _)); exact BK281.out) NB281_274.out (by simp)); have n3_ := Aside0.mk (hb); have n4_ := Aside0.mk (hi); clear BK271; clear HO278; clear BK281; clear HB; clear HI274; have BK271 := n0_; have HO278 := n1_; have BK281 := n2_; have HB := n3_; have HI274 := n4_; clear n0_ n1_ n2_ n3_ n4_; (try clear hb); (try clear hb2); (try clear hk); (try clear hi)))
  have n0_ := Aside0.mk (Kd.R_drew HO278.out)
  have n1_ := Aside0.mk (blk_drew BK271.out)
  have n2_ := Aside0.mk (blk_drew BK281.out)
  have n3_ := Aside0.mk (IsS106.drew HI274.out)
  have n4_ := Aside0.mk (below_drew1 HB.out)
  clear HO278
  clear BK271
  clear BK281
  clear HI274
  clear HB
  have HO278 := n0_
  have BK271 := n1_
  have BK281 := n2_
  have HI274 := n3_
  have HB := n4_
  clear n0_ n1_ n2_ n3_ n4_
  refine start_ (n := 9) (S := fun w' => w'.cell? ⟨gb281, 0, none⟩ = some (.int .i64 t275) ∧ w'.cell? ⟨gb281, 1, none⟩ = some (.slice Ao14 t276.length co14)) (ds := []) (Pt.bm 9 0) (by kernel_rfl) rfl rfl ⟨(blk_cell BK281.out 0).trans rfl, (blk_cell BK281.out 1).trans rfl⟩ (fun hHeld => ?_); refine with_tabW spec_DrawDiagramAnd.tab4 spec_DrawDiagramAnd.bits4 (fun HT_ HW_ => ?_)
  generalize w15.drew = w16 at HO278 BK271 BK281 HI274 HB hHeld ⊢
  refine Pt.pu 1 (some 19) (Pt.bm 9 2) (any_of HT_.out (by kernel_rfl)) ?_
  refine Pt.pu 2 (some 20) (Pt.bm 9 6) (any_of HT_.out (by kernel_rfl)) ?_
  refine Pt.pu 3 (some 21) (Pt.bm 9 14) (any_of HT_.out (by kernel_rfl)) ?_
  refine Pt.tk 0 (some 18) (Pt.bm 9 15) rfl rfl (take_ofW HT_.out HW_.out (by kernel_rfl)) hHeld (Or.inl ⟨by rfl, by rintro w' ⟨s0, s1⟩; go_simp; with_reducible rfl⟩) ?_
  refine one_ (i := 4) (N := some 22) (Pt.bm 9 31) rfl rfl (one_of HT_.out (by kernel_rfl)) (by decide) (fun K hK => ?_)
  refine Kd.R_lit_step (Kd.int .i64) _ 3 ?hg (N := 22) ?hd (xs := ([0, 1, t279, 2] : List Int)) (inner := [.int .i64 0, .int .i64 1, .int .i64 t279, .int .i64 2]) (ok := fun _ => True) (okp := fun _ => True) ?hr ?hp (fun _ hk => hk) trivial (Below.refl _ _) (Nat.le_refl _) (by simp) ?_; (case hd => rfl); (case hg => rfl); (case hr => first | (go_simp; done) | (go_simp; rfl)); (case hp => exact (Reps.one (show Kd.M (Kd.int .i64) _ _ _ 0 [.int .i64 0] from rfl) (Reps.one (show Kd.M (Kd.int .i64) _ _ _ 1 [.int .i64 1] from rfl) (Reps.one (show Kd.M (Kd.int .i64) _ _ _ t279 [.int .i64 t279] from rfl) (Reps.one (show Kd.M (Kd.int .i64) _ _ _ 2 [.int .i64 2] from rfl) (Reps.none _ _))))))
  intro v285 w17 ho18 hb hg_ hnew_
  clear hg_ hnew_
  (first | rw [← Ny284.out] at ho18 | (simp only [Int.reduceToNat] at ho18; rw [← Ny284.out] at ho18))
  have n0_ := Aside0.mk (Kd.R_below (rvR HO278.out) hb)
  have n1_ := Aside0.mk (Kd.R_lower ho18 (below_size (by repeat (first | (with_reducible first | exact HB.out | apply bwA | apply bwN | apply bwD | refine below_set ?_ (IsS106.ge HI274.out) | refine below_set ?_ GE271.out | refine below_set ?_ GE281.out) | exact HB.out))))
  have n2_ := Aside0.mk (blk_below (g := gb271) (o := .cells #[.int .i64 0, .slice none 0 0] 25 (0, 0)) (bvK BK271.out) hb)
  have n3_ := Aside0.mk (IsS106.below (by repeat (first | (with_reducible first | exact HI274.out | apply IsS106.alloc | apply IsS106.drewN | apply IsS106.drew | apply IsS106.set_1 | refine IsS106.far ?_ NB274_271.out _ | refine IsS106.far ?_ NB274_281.out _) | exact HI274.out)) hb)
  have n4_ := Aside0.mk (blk_below (g := gb281) (o := .cells #[.int .i64 t275, .slice Ao14 t276.length co14] 25 (0, 0)) (bvK BK281.out) hb)
  have n5_ := Aside0.mk (below_step (by repeat (first | (with_reducible first | exact HB.out | apply bwA | apply bwN | apply bwD | refine below_set ?_ (IsS106.ge HI274.out) | refine below_set ?_ GE271.out | refine below_set ?_ GE281.out) | exact HB.out)) hb)
  clear HO278
  clear BK271
  clear HI274
  clear BK281
  clear HB
  have HO278 := n0_
  have HO286 := n1_
  have BK271 := n2_
  have HI274 := n3_
  have BK281 := n4_
  have HB := n5_
  clear n0_ n1_ n2_ n3_ n4_ n5_
  clear hb ho18
  obtain ⟨Ao19, co19, eo19⟩ := Kd.R_slice HO286.out
  (first | subst eo19 | (injection eo19 with f1_ f2_ f3_; have f4_ := f1_.symm; have f5_ := f3_.symm; clear f1_ f2_ f3_; subst f4_; subst f5_))
  refine hK.out _ _ ⟨(blk_cell BK281.out 0).trans rfl, (blk_cell BK281.out 1).trans rfl⟩ (fun hHeld => ?_)
  clear hK K
  refine norm_ (a' := ?_) ?_ ?_
  rotate_left
  ·show Act.put _ (some 22) _ = _
   simp only [Act.put, List.setIfInBounds_toArray, List.set_cons_zero, List.set_cons_succ, i64_w, i32_w]
   rfl
  refine one_ (i := 5) (N := some 23) (Pt.bm 9 63) rfl rfl (one_of HT_.out (by kernel_rfl)) (by decide) (fun K hK => ?_)
  refine goes_ Try.func51 (by kernel_rfl) rfl #[.pointer (some ⟨g274, 0, none⟩), .slice Ao19 y284.length co19] (by rfl) rfl rfl lmB ?_
  with_reducible refine (spec_l40Rd_num.calls k g274 t272 t283 _ _ y284 t287 t288 w _ ?side1 ?side2 ?side3 ?side4 ?side5 A6.out).mono ?_
  (case side1 => repeat (first | (with_reducible first | exact HI274.out | apply IsS106.alloc | apply IsS106.drewN | apply IsS106.drew | apply IsS106.set_1 | refine IsS106.far ?_ NB274_271.out _ | refine IsS106.far ?_ NB274_281.out _) | exact HI274.out))
  (case side2 => repeat (first | (with_reducible first | exact HB.out | apply bwA | apply bwN | apply bwD | refine below_set ?_ (IsS106.ge HI274.out) | refine below_set ?_ GE271.out | refine below_set ?_ GE281.out) | exact HB.out))
  (case side3 => repeat (first | exact (Kd.R_reads' HO286.out).2.2 | (with_reducible refine Kd.C_alloc ?_ _) | (with_reducible refine Kd.C_drewN ?_ _) | (with_reducible refine Kd.C_drew ?_)))
  (case side4 => exact (Kd.R_reads' HO286.out).2.1)
  (case side5 => exact far_slice (IsS106.own_ne HI274.out HO286.out (by decide)))
  rintro e w20 ⟨rfl, hi, hb, hk⟩
  refine ⟨_, rfl, ?_⟩
  have n0_ := Aside0.mk (KeepBut.blk hk (g' := gb271) (o := .cells #[.int .i64 0, .slice none 0 0] 25 (0, 0)) (bvK BK271.out) NB271_274.out (by simp))
  have n1_ := Aside0.mk (Kd.R_mono (Kd.R_keep (IsS106.apart (show IsS106 w _ g274 t272 t283 from by repeat (first | (with_reducible first | exact HI274.out | apply IsS106.alloc | apply IsS106.drewN | apply IsS106.drew | apply IsS106.set_1 | refine IsS106.far ?_ NB274_271.out _ | refine IsS106.far ?_ NB274_281.out _) | exact HI274.out)) (rvR HO278.out) (by decide)) hk (fun _ h => h.2)) (fun _ h => h.1))
  have n2_ := Aside0.mk (KeepBut.blk hk (g' := gb281) (o := .cells #[.int .i64 t275, .slice Ao14 t276.length co14] 25 (0, 0)) (bvK BK281.out) NB281_274.out (by simp))
  have n3_ := Aside0.mk (Kd.R_mono (Kd.R_keep (IsS106.apart (show IsS106 w _ g274 t272 t283 from by repeat (first | (with_reducible first | exact HI274.out | apply IsS106.alloc | apply IsS106.drewN | apply IsS106.drew | apply IsS106.set_1 | refine IsS106.far ?_ NB274_271.out _ | refine IsS106.far ?_ NB274_281.out _) | exact HI274.out)) (rvR HO286.out) (by decide)) hk (fun _ h => h.2)) (fun _ h => h.1))
  have n4_ := Aside0.mk (hb)
  have n5_ := Aside0.mk (hi)
  clear BK271
  clear HO278
  clear BK281
  clear HO286
  clear HB
  clear HI274
  have BK271 := n0_
  have HO278 := n1_
  have BK281 := n2_
  have HO286 := n3_
  have HB := n4_
  have HI274 := n5_
  clear n0_ n1_ n2_ n3_ n4_ n5_
  (try clear hb)
  (try clear hb2)
  (try clear hk)
  (try clear hi)
  refine hK.out _ _ ⟨(blk_cell BK281.out 0).trans rfl, (blk_cell BK281.out 1).trans rfl⟩ (fun hHeld => ?_)
  clear hK K
  refine norm_ (a' := ?_) ?_ ?_
  rotate_left
  ·show Act.put _ (some 23) _ = _
   simp only [Act.put, List.setIfInBounds_toArray, List.set_cons_zero, List.set_cons_succ, i64_w, i32_w]
   rfl
  refine one_ (i := 6) (N := none) (Pt.bm 9 127) rfl rfl (one_of HT_.out (by kernel_rfl)) (by decide) (fun K hK => ?_)
  have hs21 : w20.cell? ⟨gb271, 0, none⟩ = some (.int .i64 0) := (blk_cell BK271.out 0).trans rfl
  have hfs21 := blk_frozen BK271.out 0
  have hns21_1 := NB281_271.out
  have hms21_1 := NB271_281.out
  have hs22 : w20.cell? ⟨gb271, 1, none⟩ = some (.slice none 0 0) := (blk_cell BK271.out 1).trans rfl
  have hfs22 := blk_frozen BK271.out 1
  have hns22_1 := NB281_271.out
  have hms22_1 := NB271_281.out
  refine skip_ (w1 := ?_) (by rfl) rfl ?_ ?_
  rotate_left
  ·go_simp
   rfl
  refine hK.out _ _ ⟨((cell_far (p := ⟨gb271, _, none⟩) NB281_271.out _).trans (((cell_far (p := ⟨gb271, _, none⟩) NB281_271.out _).trans (hHeld.1)))), ((cell_far (p := ⟨gb271, _, none⟩) NB281_271.out _).trans (((cell_far (p := ⟨gb271, _, none⟩) NB281_271.out _).trans (hHeld.2))))⟩ (fun hHeld => ?_)
  clear hK K
  refine Pt.pu 7 (some 3) (Pt.bm 9 255) (any_of HT_.out (by kernel_rfl)) ?_
  refine Pt.pu 8 (some 4) (Pt.bm 9 511) (any_of HT_.out (by kernel_rfl)) ?_
  refine done_ (done_of HT_.out (by kernel_rfl)) ?_
  try go_wp2
  refine bodyPost_ret (results_ctt rfl _ _ gb271 25 #[.int .i64 t275, .slice Ao14 t276.length co14] (0, 0) _ rfl (by (with_reducible repeat (first | refine blk_drewN ?_ _ | refine blk_drew ?_ | refine blk_alloc ?_ _)); refine blk_put (cs := #[.int .i64 t275, .slice none 0 0]) ?_ 1 _ rfl; (with_reducible repeat (first | refine blk_drewN ?_ _ | refine blk_drew ?_ | refine blk_alloc ?_ _)); refine blk_put (cs := #[.int .i64 0, .slice none 0 0]) ?_ 0 _ rfl; (with_reducible repeat (first | refine blk_drewN ?_ _ | refine blk_drew ?_ | refine blk_alloc ?_ _)); exact BK271.out) Try.underlying25 rfl (by kernel_rfl)) rfl ?_
  exact ⟨_, ers, by (with_reducible repeat (first | apply Kd.R_alloc | apply Kd.R_drewN | apply Kd.R_drew)); exact Kd.R_mono (Kd.R_far (p := ⟨gb271, 1, none⟩) (Kd.R_far (p := ⟨gb271, 0, none⟩) (Kd.R_types HO278.out BK271.out (by decide)) (fun _ hk => hk.2) (.int .i64 t275)) (fun _ hk => hk.2) (.slice Ao14 t276.length co14)) (fun _ hk => trivial), by repeat (first | (with_reducible first | exact HB.out | apply bwA | apply bwN | apply bwD | refine below_set ?_ (IsS106.ge HI274.out) | refine below_set ?_ GE271.out | refine below_set ?_ GE281.out) | exact HB.out)⟩
 ·rw [if_neg c5] at H
  have c5b0 : (t282 == 0) = false := beq_eq_false_iff_ne.mpr c5
  have c5b1 : (t282 != 0) = true := bne_iff_ne.mpr c5
  replace H := Option.bind_eq_some_iff.mp H
  obtain ⟨⟨t289, t290⟩, A230, H⟩ := H
  replace H : (some (t275, t276, t279, t289)) = some (r1, r2, r3, r4) := H
  have A23 := Aside0.mk A230
  clear A230
  simp only [Option.some.injEq, Prod.mk.injEq] at H
  obtain ⟨rfl, rfl, rfl, rfl⟩ := H
  go_enter Try.func37, Try.ntmps37
  try go_wp2_with (first | ((with_reducible refine gate_dst (N := 2) rfl ?_); refine box_event ?hg (N := 2) ?hd (cs := #[.int .i64 0, .slice none 0 0]) (t := 25) ?hr ?_; (case hd => rfl); (case hg => rfl); (case hr => first | (go_simp; done) | (go_simp; rfl)); intro gb271 hg w24 hbox hb; have n0_ := Aside0.mk (below_step (by repeat (first | (with_reducible first | exact HB.out | apply bwA | apply bwN | apply bwD) | exact HB.out)) hb); have n1_ := Aside0.mk (hbox); have n2_ := Aside0.mk ((by rw [hg]; exact (below_size (by repeat (first | (with_reducible first | exact HB.out | apply bwA | apply bwN | apply bwD) | exact HB.out))) : w.heap.size ≤ gb271)); have n3_ := Aside0.mk ((by rw [hg]; exact (below_size (by repeat (first | (with_reducible first | exact HB.out | apply bwA | apply bwN | apply bwD) | exact HB.out))) : w.heap.size ≤ gb271)); clear HB; have HB := n0_; have BK271 := n1_; have GW271 := n2_; have GE271 := n3_; clear n0_ n1_ n2_ n3_; clear hb hbox hg) | ((with_reducible refine gate_callee (f := 47) rfl ?_); refine goesL_ (some 9) rfl rfl Try.func47 (by kernel_rfl) rfl #[.slice A0 l0.length c0] rfl lmB ?_; (with_reducible refine (spec_l40Open.calls _ _ l0 t272 t273 w _ ?side1 ?side2 ?side3 A2.out).mono ?_); (case side1 => repeat (first | (with_reducible first | exact HB.out | apply bwA | apply bwN | apply bwD | refine below_set ?_ GE271.out) | exact HB.out)); (case side2 => exact HR0.out); (case side3 => exact HC0.out); rintro e w25 ⟨g274, rfl, hi, hb, hb2⟩; refine ⟨_, rfl, ?_⟩; have n0_ := Aside0.mk (blk_below (g := gb271) (o := .cells #[.int .i64 0, .slice none 0 0] 25 (0, 0)) (bvK BK271.out) hb2); have n1_ := Aside0.mk (hb); have n2_ := Aside0.mk (hi); have n3_ := Aside0.mk (IsS106.ne_blk hi (blk_below (g := gb271) (o := .cells #[.int .i64 0, .slice none 0 0] 25 (0, 0)) (bvK BK271.out) hb2) (by decide)); have n4_ := Aside0.mk (Ne.symm (IsS106.ne_blk hi (blk_below (g := gb271) (o := .cells #[.int .i64 0, .slice none 0 0] 25 (0, 0)) (bvK BK271.out) hb2) (by decide))); clear BK271; clear HB; have BK271 := n0_; have HB := n1_; have HI274 := n2_; have NB274_271 := n3_; have NB271_274 := n4_; clear n0_ n1_ n2_ n3_ n4_; (try clear hb); (try clear hb2); (try clear hk); (try clear hi)) | ((with_reducible refine gate_callee (f := 48) rfl ?_); refine goesL_ (some 12) rfl rfl Try.func48 (by kernel_rfl) rfl #[.pointer (some ⟨g274, 0, none⟩), .int .i64 5] rfl lmB ?_; (with_reducible refine (spec_l8Any.calls k g274 t272 t273 5 t275 t276 t279 t280 w _ ?side1 ?side2 A3.out).mono ?_); (case side1 => repeat (first | (with_reducible first | exact HI274.out | apply IsS106.alloc | apply IsS106.drewN | apply IsS106.drew | apply IsS106.set_1 | refine IsS106.far ?_ NB274_271.out _) | exact HI274.out)); (case side2 => repeat (first | (with_reducible first | exact HB.out | apply bwA | apply bwN | apply bwD | refine below_set ?_ (IsS106.ge HI274.out) | refine below_set ?_ GE271.out) | exact HB.out)); rintro e w26 ⟨v277, rfl, ho0, hi, hb, hk⟩; refine ⟨_, rfl, ?_⟩; have n0_ := Aside0.mk (KeepBut.blk hk (g' := gb271) (o := .cells #[.int .i64 0, .slice none 0 0] 25 (0, 0)) (bvK BK271.out) NB271_274.out (by simp)); have n1_ := Aside0.mk (Kd.R_lower ho0 (below_size (by repeat (first | (with_reducible first | exact HB.out | apply bwA | apply bwN | apply bwD | refine below_set ?_ (IsS106.ge HI274.out) | refine below_set ?_ GE271.out) | exact HB.out)))); have n2_ := Aside0.mk (hb); have n3_ := Aside0.mk (hi); clear BK271; clear HB; clear HI274; have BK271 := n0_; have HO278 := n1_; have HB := n2_; have HI274 := n3_; clear n0_ n1_ n2_ n3_; (try clear hb); (try clear hb2); (try clear hk); (try clear hi); (try clear ho0)) | ((with_reducible refine gate_dst (N := 6) rfl ?_); refine box_event ?hg (N := 6) ?hd (cs := #[.int .i64 0, .slice none 0 0]) (t := 25) ?hr ?_; (case hd => rfl); (case hg => rfl); (case hr => first | (go_simp; done) | (go_simp; rfl)); intro gb281 hg w27 hbox hb; have n0_ := Aside0.mk (Kd.R_below (rvR HO278.out) hb); have n1_ := Aside0.mk (blk_below (g := gb271) (o := .cells #[.int .i64 0, .slice none 0 0] 25 (0, 0)) (bvK BK271.out) hb); have n2_ := Aside0.mk (IsS106.below (by repeat (first | (with_reducible first | exact HI274.out | apply IsS106.alloc | apply IsS106.drewN | apply IsS106.drew | apply IsS106.set_1 | refine IsS106.far ?_ NB274_271.out _) | exact HI274.out)) hb); have n3_ := Aside0.mk (below_step (by repeat (first | (with_reducible first | exact HB.out | apply bwA | apply bwN | apply bwD | refine below_set ?_ (IsS106.ge HI274.out) | refine below_set ?_ GE271.out) | exact HB.out)) hb); have n4_ := Aside0.mk (hbox); have n5_ := Aside0.mk ((by rw [hg]; exact (below_size (by repeat (first | (with_reducible first | exact HB.out | apply bwA | apply bwN | apply bwD | refine below_set ?_ (IsS106.ge HI274.out) | refine below_set ?_ GE271.out) | exact HB.out))) : w.heap.size ≤ gb281)); have n6_ := Aside0.mk ((by rw [hg]; exact (below_size (by repeat (first | (with_reducible first | exact HB.out | apply bwA | apply bwN | apply bwD | refine below_set ?_ (IsS106.ge HI274.out) | refine below_set ?_ GE271.out) | exact HB.out))) : w.heap.size ≤ gb281)); have n7_ := Aside0.mk ((by rw [hg]; exact Nat.ne_of_lt (blk_lt (g := gb271) (o := .cells #[.int .i64 0, .slice none 0 0] 25 (0, 0)) (bvK BK271.out)) : gb271 ≠ gb281)); have n8_ := Aside0.mk ((by rw [hg]; exact Nat.ne_of_gt (blk_lt (g := gb271) (o := .cells #[.int .i64 0, .slice none 0 0] 25 (0, 0)) (bvK BK271.out)) : gb281 ≠ gb271)); have n9_ := Aside0.mk ((by rw [hg]; exact Nat.ne_of_lt (IsS106.lt (show IsS106 w _ g274 t272 t280 from by repeat (first | (with_reducible first | exact HI274.out | apply IsS106.alloc | apply IsS106.drewN | apply IsS106.drew | apply IsS106.set_1 | refine IsS106.far ?_ NB274_271.out _) | exact HI274.out))) : g274 ≠ gb281)); have n10_ := Aside0.mk ((by rw [hg]; exact Nat.ne_of_gt (IsS106.lt (show IsS106 w _ g274 t272 t280 from by repeat (first | (with_reducible first | exact HI274.out | apply IsS106.alloc | apply IsS106.drewN | apply IsS106.drew | apply IsS106.set_1 | refine IsS106.far ?_ NB274_271.out _) | exact HI274.out))) : gb281 ≠ g274)); clear HO278; clear BK271; clear HI274; clear HB; have HO278 := n0_; have BK271 := n1_; have HI274 := n2_; have HB := n3_; have BK281 := n4_; have GW281 := n5_; have GE281 := n6_; have NB271_281 := n7_; have NB281_271 := n8_; have NB274_281 := n9_; have NB281_274 := n10_; clear n0_ n1_ n2_ n3_ n4_ n5_ n6_ n7_ n8_ n9_ n10_; clear hb hbox hg; have hnb28 := NB281_271.out; have hnc28 := NB271_281.out; have hnb29 := NB281_274.out; have hnc29 := NB274_281.out; have hcz30_0 : w27.cell? ⟨gb281, 0, none⟩ = some (.int .i64 0) := (blk_cell BK281.out 0).trans rfl; have hcz30_1 : w27.cell? ⟨gb281, 1, none⟩ = some (.slice none 0 0) := (blk_cell BK281.out 1).trans rfl; have hfz30_0 := blk_frozen BK281.out 0; have hfz30_1 := blk_frozen BK281.out 1; obtain ⟨Ao31, co31, eo31⟩ := Kd.R_slice HO278.out; subst eo31) | ((with_reducible refine gate_callee (f := 49) rfl ?_); refine goesL_ (some 16) rfl rfl Try.func49 (by kernel_rfl) rfl #[.pointer (some ⟨g274, 0, none⟩), .int .i64 3] rfl lmB ?_; (with_reducible refine (spec_l40Rd_pick.calls k g274 t272 t280 3 t282 t283 w _ ?side1 ?side2 A4.out).mono ?_); (case side1 => repeat (first | (with_reducible first | exact HI274.out | apply IsS106.alloc | apply IsS106.drewN | apply IsS106.drew | apply IsS106.set_1 | refine IsS106.far ?_ NB274_271.out _ | refine IsS106.far ?_ NB274_281.out _) | exact HI274.out)); (case side2 => repeat (first | (with_reducible first | exact HB.out | apply bwA | apply bwN | apply bwD | refine below_set ?_ (IsS106.ge HI274.out) | refine below_set ?_ GE271.out | refine below_set ?_ GE281.out) | exact HB.out)); rintro e w32 ⟨rfl, hi, hb, hk⟩; refine ⟨_, rfl, ?_⟩; have n0_ := Aside0.mk (KeepBut.blk hk (g' := gb271) (o := .cells #[.int .i64 0, .slice none 0 0] 25 (0, 0)) (by (with_reducible repeat (first | refine blk_drewN ?_ _ | refine blk_drew ?_ | refine blk_alloc ?_ _)); refine blk_far ?_ NB271_281.out _; (with_reducible repeat (first | refine blk_drewN ?_ _ | refine blk_drew ?_ | refine blk_alloc ?_ _)); refine blk_far ?_ NB271_281.out _; (with_reducible repeat (first | refine blk_drewN ?_ _ | refine blk_drew ?_ | refine blk_alloc ?_ _)); exact BK271.out) NB271_274.out (by simp)); have n1_ := Aside0.mk (Kd.R_mono (Kd.R_keep (IsS106.apart (show IsS106 w _ g274 t272 t280 from by repeat (first | (with_reducible first | exact HI274.out | apply IsS106.alloc | apply IsS106.drewN | apply IsS106.drew | apply IsS106.set_1 | refine IsS106.far ?_ NB274_271.out _ | refine IsS106.far ?_ NB274_281.out _) | exact HI274.out)) (by (with_reducible repeat (first | apply Kd.R_alloc | apply Kd.R_drewN | apply Kd.R_drew)); exact (Kd.R_mono (Kd.R_far (p := ⟨gb281, 1, none⟩) (Kd.R_far (p := ⟨gb281, 0, none⟩) (Kd.R_types HO278.out BK281.out (by decide)) (fun _ hk => hk.2) (.int .i64 t275)) (fun _ hk => hk.2) (.slice Ao31 t276.length co31)) (fun _ h_ => h_.1))) (by decide)) hk (fun _ h => h.2)) (fun _ h => h.1)); have n2_ := Aside0.mk (KeepBut.blk hk (g' := gb281) (o := .cells #[.int .i64 t275, .slice Ao31 t276.length co31] 25 (0, 0)) (by (with_reducible repeat (first | refine blk_drewN ?_ _ | refine blk_drew ?_ | refine blk_alloc ?_ _)); refine blk_put (cs := #[.int .i64 t275, .slice none 0 0]) ?_ 1 _ rfl; (with_reducible repeat (first | refine blk_drewN ?_ _ | refine blk_drew ?_ | refine blk_alloc ?_ _)); refine blk_put (cs := #[.int .i64 0, .slice none 0 0]) ?_ 0 _ rfl; (with_reducible repeat (first | refine blk_drewN ?_ _ | refine blk_drew ?_ | refine blk_alloc ?_ _)); exact BK281.out) NB281_274.out (by simp)); have n3_ := Aside0.mk (hb); have n4_ := Aside0.mk (hi); clear BK271; clear HO278; clear BK281; clear HB; clear HI274; have BK271 := n0_; have HO278 := n1_; have BK281 := n2_; have HB := n3_; have HI274 := n4_; clear n0_ n1_ n2_ n3_ n4_; (try clear hb); (try clear hb2); (try clear hk); (try clear hi)))
  have n0_ := Aside0.mk (Kd.R_drew HO278.out)
  have n1_ := Aside0.mk (blk_drew BK271.out)
  have n2_ := Aside0.mk (blk_drew BK281.out)
  have n3_ := Aside0.mk (IsS106.drew HI274.out)
  have n4_ := Aside0.mk (below_drew1 HB.out)
  clear HO278
  clear BK271
  clear BK281
  clear HI274
  clear HB
  have HO278 := n0_
  have BK271 := n1_
  have BK281 := n2_
  have HI274 := n3_
  have HB := n4_
  clear n0_ n1_ n2_ n3_ n4_
  refine start_ (n := 11) (S := fun w' => w'.cell? ⟨gb281, 0, none⟩ = some (.int .i64 t275) ∧ w'.cell? ⟨gb281, 1, none⟩ = some (.slice Ao31 t276.length co31)) (ds := []) (Pt.bm 11 0) (by kernel_rfl) rfl rfl ⟨(blk_cell BK281.out 0).trans rfl, (blk_cell BK281.out 1).trans rfl⟩ (fun hHeld => ?_); refine with_tabW spec_DrawDiagramAnd.tab5 spec_DrawDiagramAnd.bits5 (fun HT_ HW_ => ?_)
  generalize w32.drew = w33 at HO278 BK271 BK281 HI274 HB hHeld ⊢
  refine Pt.pu 1 (some 25) (Pt.bm 11 2) (any_of HT_.out (by kernel_rfl)) ?_
  refine Pt.pu 2 (some 26) (Pt.bm 11 6) (any_of HT_.out (by kernel_rfl)) ?_
  refine Pt.pu 3 (some 27) (Pt.bm 11 14) (any_of HT_.out (by kernel_rfl)) ?_
  refine Pt.tk 0 (some 24) (Pt.bm 11 15) rfl rfl (take_ofW HT_.out HW_.out (by kernel_rfl)) hHeld (Or.inl ⟨by rfl, by rintro w' ⟨s0, s1⟩; go_simp; with_reducible rfl⟩) ?_
  refine Pt.tk 4 (some 28) (Pt.bm 11 31) rfl rfl (take_ofW HT_.out HW_.out (by kernel_rfl)) hHeld (Or.inl ⟨by rfl, by rintro w' ⟨s0, s1⟩; go_simp; with_reducible rfl⟩) ?_
  refine Pt.pu 5 (some 29) (Pt.bm 11 63) (any_of HT_.out (by kernel_rfl)) ?_
  refine Pt.pu 6 (some 30) (Pt.bm 11 127) (any_of HT_.out (by kernel_rfl)) ?_
  refine one_ (i := 7) (N := some 31) (Pt.bm 11 255) rfl rfl (one_of HT_.out (by kernel_rfl)) (by decide) (fun K hK => ?_)
  refine goes_ Try.func49 (by kernel_rfl) rfl #[.pointer (some ⟨g274, 0, none⟩), .int .i64 (wrap64 ((t276.length : Int) + 2))] (by rfl) rfl rfl lmB ?_
  with_reducible refine (spec_l40Rd_pick.calls k g274 t272 t283 (wrap64 ((t276.length : Int) + 2)) t289 t290 w _ ?side1 ?side2 A23.out).mono ?_
  (case side1 => repeat (first | (with_reducible first | exact HI274.out | apply IsS106.alloc | apply IsS106.drewN | apply IsS106.drew | apply IsS106.set_1 | refine IsS106.far ?_ NB274_271.out _ | refine IsS106.far ?_ NB274_281.out _) | exact HI274.out))
  (case side2 => repeat (first | (with_reducible first | exact HB.out | apply bwA | apply bwN | apply bwD | refine below_set ?_ (IsS106.ge HI274.out) | refine below_set ?_ GE271.out | refine below_set ?_ GE281.out) | exact HB.out))
  rintro e w34 ⟨rfl, hi, hb, hk⟩
  refine ⟨_, rfl, ?_⟩
  have n0_ := Aside0.mk (KeepBut.blk hk (g' := gb271) (o := .cells #[.int .i64 0, .slice none 0 0] 25 (0, 0)) (bvK BK271.out) NB271_274.out (by simp))
  have n1_ := Aside0.mk (Kd.R_mono (Kd.R_keep (IsS106.apart (show IsS106 w _ g274 t272 t283 from by repeat (first | (with_reducible first | exact HI274.out | apply IsS106.alloc | apply IsS106.drewN | apply IsS106.drew | apply IsS106.set_1 | refine IsS106.far ?_ NB274_271.out _ | refine IsS106.far ?_ NB274_281.out _) | exact HI274.out)) (rvR HO278.out) (by decide)) hk (fun _ h => h.2)) (fun _ h => h.1))
  have n2_ := Aside0.mk (KeepBut.blk hk (g' := gb281) (o := .cells #[.int .i64 t275, .slice Ao31 t276.length co31] 25 (0, 0)) (bvK BK281.out) NB281_274.out (by simp))
  have n3_ := Aside0.mk (hb)
  have n4_ := Aside0.mk (hi)
  clear BK271
  clear HO278
  clear BK281
  clear HB
  clear HI274
  have BK271 := n0_
  have HO278 := n1_
  have BK281 := n2_
  have HB := n3_
  have HI274 := n4_
  clear n0_ n1_ n2_ n3_ n4_
  (try clear hb)
  (try clear hb2)
  (try clear hk)
  (try clear hi)
  refine hK.out _ _ ⟨(blk_cell BK281.out 0).trans rfl, (blk_cell BK281.out 1).trans rfl⟩ (fun hHeld => ?_)
  clear hK K
  refine norm_ (a' := ?_) ?_ ?_
  rotate_left
  ·show Act.put _ (some 31) _ = _
   simp only [Act.put, List.setIfInBounds_toArray, List.set_cons_zero, List.set_cons_succ, i64_w, i32_w]
   rfl
  refine one_ (i := 8) (N := none) (Pt.bm 11 511) rfl rfl (one_of HT_.out (by kernel_rfl)) (by decide) (fun K hK => ?_)
  have hs35 : w34.cell? ⟨gb271, 0, none⟩ = some (.int .i64 0) := (blk_cell BK271.out 0).trans rfl
  have hfs35 := blk_frozen BK271.out 0
  have hns35_1 := NB281_271.out
  have hms35_1 := NB271_281.out
  have hs36 : w34.cell? ⟨gb271, 1, none⟩ = some (.slice none 0 0) := (blk_cell BK271.out 1).trans rfl
  have hfs36 := blk_frozen BK271.out 1
  have hns36_1 := NB281_271.out
  have hms36_1 := NB271_281.out
  refine skip_ (w1 := ?_) (by rfl) rfl ?_ ?_
  rotate_left
  ·go_simp
   rfl
  refine hK.out _ _ ⟨((cell_far (p := ⟨gb271, _, none⟩) NB281_271.out _).trans (((cell_far (p := ⟨gb271, _, none⟩) NB281_271.out _).trans (hHeld.1)))), ((cell_far (p := ⟨gb271, _, none⟩) NB281_271.out _).trans (((cell_far (p := ⟨gb271, _, none⟩) NB281_271.out _).trans (hHeld.2))))⟩ (fun hHeld => ?_)
  clear hK K
  refine Pt.pu 9 (some 3) (Pt.bm 11 1023) (any_of HT_.out (by kernel_rfl)) ?_
  refine Pt.pu 10 (some 4) (Pt.bm 11 2047) (any_of HT_.out (by kernel_rfl)) ?_
  refine done_ (done_of HT_.out (by kernel_rfl)) ?_
  try go_wp2
  refine bodyPost_ret (results_ctt rfl _ _ gb271 25 #[.int .i64 t275, .slice Ao31 t276.length co31] (0, 0) _ rfl (by (with_reducible repeat (first | refine blk_drewN ?_ _ | refine blk_drew ?_ | refine blk_alloc ?_ _)); refine blk_put (cs := #[.int .i64 t275, .slice none 0 0]) ?_ 1 _ rfl; (with_reducible repeat (first | refine blk_drewN ?_ _ | refine blk_drew ?_ | refine blk_alloc ?_ _)); refine blk_put (cs := #[.int .i64 0, .slice none 0 0]) ?_ 0 _ rfl; (with_reducible repeat (first | refine blk_drewN ?_ _ | refine blk_drew ?_ | refine blk_alloc ?_ _)); exact BK271.out) Try.underlying25 rfl (by kernel_rfl)) rfl ?_
  exact ⟨_, ers, by (with_reducible repeat (first | apply Kd.R_alloc | apply Kd.R_drewN | apply Kd.R_drew)); exact Kd.R_mono (Kd.R_far (p := ⟨gb271, 1, none⟩) (Kd.R_far (p := ⟨gb271, 0, none⟩) (Kd.R_types HO278.out BK271.out (by decide)) (fun _ hk => hk.2) (.int .i64 t275)) (fun _ hk => hk.2) (.slice Ao31 t276.length co31)) (fun _ hk => trivial), by repeat (first | (with_reducible first | exact HB.out | apply bwA | apply bwN | apply bwD | refine below_set ?_ (IsS106.ge HI274.out) | refine below_set ?_ GE271.out | refine below_set ?_ GE281.out) | exact HB.out)⟩

end Go.Proofs.Ytpcompnmadpljaa.QFnDiagramSame
