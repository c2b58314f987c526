-- Written by a program of this session (mk.py). Lean checks it.
import Derived.Test.YtpfkgmcbogcmoaaQFnExactRangeOfx0
import Derived.Test.YtpfkgmcbogcmoaaQFnExactRangeOfx1
import Derived.Test.YtpfkgmcbogcmoaaQFnExactRangeOfx9
import Derived.Test.YtpfkgmcbogcmoaaQFnExactRangeOfx10
namespace Go.Proofs.Ytpfkgmcbogcmoaa.QFnExactRangeOf
open Go.RowKit Go.Proofs.YtpfkgmcbogcmoaaW.PrintWords Go.Proofs.YtpfkgmcbogcmoaaW.PrintLast Go.Proofs.YtpfkgmcbogcmoaaW.PrintMore
attribute [local go_sem] max2_int min2_int max_two min_two max_three min_three max_four min_four   -- for this text's walks alone
set_option linter.unusedVariables false
set_option linter.unusedSimpArgs false

attribute [local go_sem high] eqA94
/-! ### impl_spanOf: function 75 -/
def impl_spanOf.f (k : Nat) (a0 : Int) (a1_0 : Int) (a1_1 : Int) (a2_0 : Int) (a2_1 : Int) : Option (Int × Int) := if a0 = 2 then ((impl_held.f (wrap64 (a1_0 + a2_0))).bind fun t343 => ((impl_held.f (wrap64 (a1_1 + a2_1))).bind fun t344 => (some (t343, t344)))) else (if a0 = 3 then ((impl_held.f (wrap64 (a1_0 - a2_1))).bind fun t345 => ((impl_held.f (wrap64 (a1_1 - a2_0))).bind fun t346 => (some (t345, t346)))) else (if a0 = 4 then ((impl_held.f (wrap64 (a1_0 * a2_0))).bind fun t347 => ((impl_held.f (wrap64 (a1_0 * a2_1))).bind fun t348 => ((impl_held.f (wrap64 (a1_1 * a2_0))).bind fun t349 => ((impl_held.f (wrap64 (a1_1 * a2_1))).bind fun t350 => ((some (([t347, t348, t349, t350] : List Int) : List Int)).bind fun y351 => ((slices_Min_int_int.f k y351).bind fun t354 => ((slices_Max_int_int.f k y351).bind fun t355 => (some (t354, t355))))))))) else (if a0 = 5 then ((impl_bit.f (decide (a1_1 < a2_0))).bind fun t356 => ((impl_bit.f (decide (a1_0 < a2_1))).bind fun t357 => (some (t356, t357)))) else (if a0 = 6 then (if a1_0 = a1_1 then ((impl_bit.f (a1_0 == a2_0 && (a1_1 == a2_1))).bind fun t358 => (if a1_0 ≤ a2_1 then ((impl_bit.f (decide (a2_0 ≤ a1_1))).bind fun t359 => (some (t358, t359))) else ((impl_bit.f false).bind fun t360 => (some (t358, t360))))) else ((impl_bit.f false).bind fun t361 => (if a1_0 ≤ a2_1 then ((impl_bit.f (decide (a2_0 ≤ a1_1))).bind fun t362 => (some (t361, t362))) else ((impl_bit.f false).bind fun t363 => (some (t361, t363)))))) else (if a0 = 7 then (some (wrap64 (1 - a1_1), wrap64 (1 - a1_0))) else ((impl_do.f a0 a1_0 a2_0).bind fun t364 => ((impl_do.f a0 a1_1 a2_1).bind fun t365 => (some (t364, t365)))))))))
theorem impl_spanOf.mono : ∀ a0 a1 a2 a3 a4 k, LeO (impl_spanOf.f k a0 a1 a2 a3 a4) (impl_spanOf.f (k + 1) a0 a1 a2 a3 a4) := by
 intro a0 a1 a2 a3 a4 k
 unfold impl_spanOf.f
 repeat' first
   | (with_reducible exact slices_Max_int_int.mono _ _)
   | (with_reducible exact slices_Min_int_int.mono _ _)
   | (with_reducible exact LeO.refl _)
   | (with_reducible exact LeO.none _)
   | (with_reducible refine LeO.ite ?_ ?_)
   | (with_reducible refine LeO.bind ?_ (fun _ => ?_))
   | exact slices_Max_int_int.mono _ _
   | exact slices_Min_int_int.mono _ _
   | exact LeO.none _
   | refine LeO.ite ?_ ?_
   | refine LeO.bind ?_ (fun _ => ?_)
def impl_spanOf.T3 : Bool × List (List Nat × List Nat) := (true, [([], []), ([0], [0]), ([], []), ([2], [2]), ([1, 3], [1, 3]), ([4], [4]), ([], []), ([6], [6]), ([], []), ([8], [8]), ([7, 9], [7, 9]), ([10, 5], [10]), ([5, 11], [5, 11]), ([12, 11, 0, 1, 2, 3, 4, 5, 6, 7, 8, 9, 10, 11, 12], [12])])
def impl_spanOf.B3 : List Nat := [0, 1, 0, 4, 15, 31, 0, 64, 0, 256, 960, 2047, 4095, 8191]
theorem impl_spanOf.tab3 : rtab .any (opsOf Try.f75 3) = impl_spanOf.T3 := by kernel_rfl
theorem impl_spanOf.bits3 : waitsOk impl_spanOf.T3.2 impl_spanOf.B3 = true := by kernel_rfl
def impl_spanOf.T5 : Bool × List (List Nat × List Nat) := (true, [([], []), ([0], [0]), ([], []), ([2], [2]), ([1, 3], [1, 3]), ([4], [4]), ([], []), ([6], [6]), ([], []), ([8], [8]), ([7, 9], [7, 9]), ([10, 5], [10]), ([5, 11], [5, 11]), ([12, 11, 0, 1, 2, 3, 4, 5, 6, 7, 8, 9, 10, 11, 12], [12])])
def impl_spanOf.B5 : List Nat := [0, 1, 0, 4, 15, 31, 0, 64, 0, 256, 960, 2047, 4095, 8191]
theorem impl_spanOf.tab5 : rtab .any (opsOf Try.f75 5) = impl_spanOf.T5 := by kernel_rfl
theorem impl_spanOf.bits5 : waitsOk impl_spanOf.T5.2 impl_spanOf.B5 = true := by kernel_rfl
def impl_spanOf.T7 : Bool × List (List Nat × List Nat) := (true, [([], []), ([0], [0]), ([], []), ([2], [2]), ([1, 3], [1, 3]), ([4], [4]), ([], []), ([6], [6]), ([], []), ([8], [8]), ([7, 9], [7, 9]), ([10, 5], [10]), ([], []), ([12], [12]), ([], []), ([14], [14]), ([13, 15], [13, 15]), ([16, 11], [16]), ([], []), ([18], [18]), ([], []), ([20], [20]), ([19, 21], [19, 21]), ([22, 17], [22]), ([5, 11, 17, 23], [5, 11, 17, 23]), ([24, 23, 0, 1, 2, 3, 4, 5, 6, 7, 8, 9, 10, 11, 12, 13, 14, 15, 16, 17, 18, 19, 20, 21, 22, 23, 24], [24])])
def impl_spanOf.B7 : List Nat := [0, 1, 0, 4, 15, 31, 0, 64, 0, 256, 960, 2047, 0, 4096, 0, 16384, 61440, 131071, 0, 262144, 0, 1048576, 3932160, 8388607, 16777215, 33554431]
theorem impl_spanOf.tab7 : rtab .any (opsOf Try.f75 7) = impl_spanOf.T7 := by kernel_rfl
theorem impl_spanOf.bits7 : waitsOk impl_spanOf.T7.2 impl_spanOf.B7 = true := by kernel_rfl
def impl_spanOf.T10 : Bool × List (List Nat × List Nat) := (true, [([], []), ([0], [0]), ([], []), ([2], [2]), ([1, 3], [1, 3]), ([4], [4]), ([], []), ([6], [6]), ([], []), ([8], [8]), ([7, 9], [7, 9]), ([10, 5], [10]), ([5, 11], [5, 11]), ([12, 11, 0, 1, 2, 3, 4, 5, 6, 7, 8, 9, 10, 11, 12], [12])])
def impl_spanOf.B10 : List Nat := [0, 1, 0, 4, 15, 31, 0, 64, 0, 256, 960, 2047, 4095, 8191]
theorem impl_spanOf.tab10 : rtab .any (opsOf Try.f75 10) = impl_spanOf.T10 := by kernel_rfl
theorem impl_spanOf.bits10 : waitsOk impl_spanOf.T10.2 impl_spanOf.B10 = true := by kernel_rfl
def impl_spanOf.T12 : Bool × List (List Nat × List Nat) := (true, [([], []), ([0], [0]), ([], []), ([2], [2]), ([1, 3], [1, 3]), ([4], [4]), ([5], [5]), ([5], [5]), ([6, 7, 5], [5, 6, 7]), ([5, 8], [5, 8]), ([9, 5], [9]), ([], []), ([11], [11]), ([], []), ([13], [13]), ([12, 14], [12, 14]), ([15, 10], [15]), ([16], [16]), ([17, 16], [16, 17]), ([16], [16]), ([19, 16], [16, 19]), ([18, 20, 16], [16, 18, 20]), ([16, 21], [16, 21]), ([22, 16], [22]), ([10, 23], [10, 23]), ([24, 23, 0, 1, 2, 3, 4, 5, 6, 7, 8, 9, 10, 11, 12, 13, 14, 15, 16, 17, 18, 19, 20, 21, 22, 23, 24], [24])])
def impl_spanOf.B12 : List Nat := [0, 1, 0, 4, 15, 31, 63, 63, 255, 511, 1023, 0, 2048, 0, 8192, 30720, 65535, 131071, 262143, 131071, 655359, 2097151, 4194303, 8388607, 16777215, 33554431]
theorem impl_spanOf.tab12 : rtab .any (opsOf Try.f75 12) = impl_spanOf.T12 := by kernel_rfl
theorem impl_spanOf.bits12 : waitsOk impl_spanOf.T12.2 impl_spanOf.B12 = true := by kernel_rfl
def impl_spanOf.T15 : Bool × List (List Nat × List Nat) := (true, [([], []), ([], []), ([1], [1]), ([], []), ([3], [3]), ([0, 2, 4], [0, 2, 4]), ([], []), ([], []), ([7], [7]), ([], []), ([9], [9]), ([6, 8, 10, 5], [6, 8, 10]), ([5, 11], [5, 11]), ([12, 11, 0, 1, 2, 3, 4, 5, 6, 7, 8, 9, 10, 11, 12], [12])])
def impl_spanOf.B15 : List Nat := [0, 0, 2, 0, 8, 31, 0, 0, 128, 0, 512, 2047, 4095, 8191]
theorem impl_spanOf.tab15 : rtab .any (opsOf Try.f75 15) = impl_spanOf.T15 := by kernel_rfl
theorem impl_spanOf.bits15 : waitsOk impl_spanOf.T15.2 impl_spanOf.B15 = true := by kernel_rfl
set_option maxHeartbeats 8000000 in
set_option maxRecDepth 100000 in
theorem impl_spanOf.calls (k : Nat) (a0 : Int) (a1_0 : Int) (a1_1 : Int) (a2_0 : Int) (a2_1 : Int) (r1 : Int) (r2 : Int) (w : World) (h : impl_spanOf.f k a0 a1_0 a1_1 a2_0 a2_1 = some (r1, r2)) :
  Calls Try.prog 75 #[.int .i64 a0, .agg #[.int .i64 a1_0, .int .i64 a1_1], .agg #[.int .i64 a2_0, .int .i64 a2_1]] w fun e w' => e = .returned (.agg #[.int .i64 r1, .int .i64 r2]) ∧ Below w.heap.size w w' := by
 have hu94 := Try.underlying94
 have HB := Aside0.mk (Below.refl w.heap.size w)
 have H : (if a0 = 2 then ((impl_held.f (wrap64 (a1_0 + a2_0))).bind fun t343 => ((impl_held.f (wrap64 (a1_1 + a2_1))).bind fun t344 => (some (t343, t344)))) else (if a0 = 3 then ((impl_held.f (wrap64 (a1_0 - a2_1))).bind fun t345 => ((impl_held.f (wrap64 (a1_1 - a2_0))).bind fun t346 => (some (t345, t346)))) else (if a0 = 4 then ((impl_held.f (wrap64 (a1_0 * a2_0))).bind fun t347 => ((impl_held.f (wrap64 (a1_0 * a2_1))).bind fun t348 => ((impl_held.f (wrap64 (a1_1 * a2_0))).bind fun t349 => ((impl_held.f (wrap64 (a1_1 * a2_1))).bind fun t350 => ((some (([t347, t348, t349, t350] : List Int) : List Int)).bind fun y351 => ((slices_Min_int_int.f k y351).bind fun t354 => ((slices_Max_int_int.f k y351).bind fun t355 => (some (t354, t355))))))))) else (if a0 = 5 then ((impl_bit.f (decide (a1_1 < a2_0))).bind fun t356 => ((impl_bit.f (decide (a1_0 < a2_1))).bind fun t357 => (some (t356, t357)))) else (if a0 = 6 then (if a1_0 = a1_1 then ((impl_bit.f (a1_0 == a2_0 && (a1_1 == a2_1))).bind fun t358 => (if a1_0 ≤ a2_1 then ((impl_bit.f (decide (a2_0 ≤ a1_1))).bind fun t359 => (some (t358, t359))) else ((impl_bit.f false).bind fun t360 => (some (t358, t360))))) else ((impl_bit.f false).bind fun t361 => (if a1_0 ≤ a2_1 then ((impl_bit.f (decide (a2_0 ≤ a1_1))).bind fun t362 => (some (t361, t362))) else ((impl_bit.f false).bind fun t363 => (some (t361, t363)))))) else (if a0 = 7 then (some (wrap64 (1 - a1_1), wrap64 (1 - a1_0))) else ((impl_do.f a0 a1_0 a2_0).bind fun t364 => ((impl_do.f a0 a1_1 a2_1).bind fun t365 => (some (t364, t365)))))))))) = some (r1, r2) := h
 clear h
 by_cases c4 : a0 = 2
 ·rw [if_pos c4] at H
  have c4b0 : (a0 == 2) = true := beq_iff_eq.mpr c4
  have c4b1 : (a0 != 2) = false := bne_eq_false_iff_eq.mpr c4
  clear c4
  replace H := Option.bind_eq_some_iff.mp H
  obtain ⟨t343, A50, H⟩ := H
  replace H : ((impl_held.f (wrap64 (a1_1 + a2_1))).bind fun t344 => (some (t343, t344))) = some (r1, r2) := H
  have A5 := Aside0.mk A50
  clear A50
  replace H := Option.bind_eq_some_iff.mp H
  obtain ⟨t344, A60, H⟩ := H
  replace H : (some (t343, t344)) = some (r1, r2) := H
  have A6 := Aside0.mk A60
  clear A60
  simp only [Option.some.injEq, Prod.mk.injEq] at H
  obtain ⟨rfl, rfl⟩ := H
  go_enter Try.func75, Try.ntmps75
  try go_wp2_with (first | ((with_reducible refine gate_dst (N := 4) rfl ?_); refine box_event ?hg (N := 4) ?hd (cs := #[.int .i64 a1_0, .int .i64 a1_1]) (t := 94) ?hr ?_; (case hd => rfl); (case hg => rfl); (case hr => first | (go_simp; done) | (go_simp; rfl)); intro gb340 hg w7 hbox hb; have n0_ := Aside0.mk (below_step (by repeat (first | (with_reducible first | exact HB.out | apply bwA | apply bwN | apply bwD) | exact HB.out)) hb); have n1_ := Aside0.mk (hbox); have n2_ := Aside0.mk ((by rw [hg]; exact (below_size (by repeat (first | (with_reducible first | exact HB.out | apply bwA | apply bwN | apply bwD) | exact HB.out))) : w.heap.size ≤ gb340)); have n3_ := Aside0.mk ((by rw [hg]; exact (below_size (by repeat (first | (with_reducible first | exact HB.out | apply bwA | apply bwN | apply bwD) | exact HB.out))) : w.heap.size ≤ gb340)); clear HB; have HB := n0_; have BK340 := n1_; have GW340 := n2_; have GE340 := n3_; clear n0_ n1_ n2_ n3_; clear hb hbox hg) | ((with_reducible refine gate_dst (N := 5) rfl ?_); refine box_event ?hg (N := 5) ?hd (cs := #[.int .i64 a2_0, .int .i64 a2_1]) (t := 94) ?hr ?_; (case hd => rfl); (case hg => rfl); (case hr => first | (go_simp; done) | (go_simp; rfl)); intro gb341 hg w8 hbox hb; have n0_ := Aside0.mk (blk_below (g := gb340) (o := .cells #[.int .i64 a1_0, .int .i64 a1_1] 94 (0, 0)) (by (with_reducible repeat (first | refine blk_drewN ?_ _ | refine blk_drew ?_ | refine blk_alloc ?_ _)); exact BK340.out) hb); have n1_ := Aside0.mk (below_step (by repeat (first | (with_reducible first | exact HB.out | apply bwA | apply bwN | apply bwD | refine below_set ?_ GE340.out) | exact HB.out)) hb); have n2_ := Aside0.mk (hbox); have n3_ := Aside0.mk ((by rw [hg]; exact (below_size (by repeat (first | (with_reducible first | exact HB.out | apply bwA | apply bwN | apply bwD | refine below_set ?_ GE340.out) | exact HB.out))) : w.heap.size ≤ gb341)); have n4_ := Aside0.mk ((by rw [hg]; exact (below_size (by repeat (first | (with_reducible first | exact HB.out | apply bwA | apply bwN | apply bwD | refine below_set ?_ GE340.out) | exact HB.out))) : w.heap.size ≤ gb341)); have n5_ := Aside0.mk ((by rw [hg]; exact Nat.ne_of_lt (blk_lt (g := gb340) (o := .cells #[.int .i64 a1_0, .int .i64 a1_1] 94 (0, 0)) (by (with_reducible repeat (first | refine blk_drewN ?_ _ | refine blk_drew ?_ | refine blk_alloc ?_ _)); exact BK340.out)) : gb340 ≠ gb341)); have n6_ := Aside0.mk ((by rw [hg]; exact Nat.ne_of_gt (blk_lt (g := gb340) (o := .cells #[.int .i64 a1_0, .int .i64 a1_1] 94 (0, 0)) (by (with_reducible repeat (first | refine blk_drewN ?_ _ | refine blk_drew ?_ | refine blk_alloc ?_ _)); exact BK340.out)) : gb341 ≠ gb340)); clear BK340; clear HB; have BK340 := n0_; have HB := n1_; have BK341 := n2_; have GW341 := n3_; have GE341 := n4_; have NB340_341 := n5_; have NB341_340 := n6_; clear n0_ n1_ n2_ n3_ n4_ n5_ n6_; clear hb hbox hg) | ((with_reducible refine gate_dst (N := 6) rfl ?_); refine box_event ?hg (N := 6) ?hd (cs := #[.int .i64 0, .int .i64 0]) (t := 94) ?hr ?_; (case hd => rfl); (case hg => rfl); (case hr => first | (go_simp; done) | (go_simp; rfl)); intro gb342 hg w9 hbox hb; have n0_ := Aside0.mk (blk_below (g := gb340) (o := .cells #[.int .i64 a1_0, .int .i64 a1_1] 94 (0, 0)) (by (with_reducible repeat (first | refine blk_drewN ?_ _ | refine blk_drew ?_ | refine blk_alloc ?_ _)); exact BK340.out) hb); have n1_ := Aside0.mk (blk_below (g := gb341) (o := .cells #[.int .i64 a2_0, .int .i64 a2_1] 94 (0, 0)) (by (with_reducible repeat (first | refine blk_drewN ?_ _ | refine blk_drew ?_ | refine blk_alloc ?_ _)); exact BK341.out) hb); have n2_ := Aside0.mk (below_step (by repeat (first | (with_reducible first | exact HB.out | apply bwA | apply bwN | apply bwD | refine below_set ?_ GE340.out | refine below_set ?_ GE341.out) | exact HB.out)) hb); have n3_ := Aside0.mk (hbox); have n4_ := Aside0.mk ((by rw [hg]; exact (below_size (by repeat (first | (with_reducible first | exact HB.out | apply bwA | apply bwN | apply bwD | refine below_set ?_ GE340.out | refine below_set ?_ GE341.out) | exact HB.out))) : w.heap.size ≤ gb342)); have n5_ := Aside0.mk ((by rw [hg]; exact (below_size (by repeat (first | (with_reducible first | exact HB.out | apply bwA | apply bwN | apply bwD | refine below_set ?_ GE340.out | refine below_set ?_ GE341.out) | exact HB.out))) : w.heap.size ≤ gb342)); have n6_ := Aside0.mk ((by rw [hg]; exact Nat.ne_of_lt (blk_lt (g := gb340) (o := .cells #[.int .i64 a1_0, .int .i64 a1_1] 94 (0, 0)) (by (with_reducible repeat (first | refine blk_drewN ?_ _ | refine blk_drew ?_ | refine blk_alloc ?_ _)); exact BK340.out)) : gb340 ≠ gb342)); have n7_ := Aside0.mk ((by rw [hg]; exact Nat.ne_of_gt (blk_lt (g := gb340) (o := .cells #[.int .i64 a1_0, .int .i64 a1_1] 94 (0, 0)) (by (with_reducible repeat (first | refine blk_drewN ?_ _ | refine blk_drew ?_ | refine blk_alloc ?_ _)); exact BK340.out)) : gb342 ≠ gb340)); have n8_ := Aside0.mk ((by rw [hg]; exact Nat.ne_of_lt (blk_lt (g := gb341) (o := .cells #[.int .i64 a2_0, .int .i64 a2_1] 94 (0, 0)) (by (with_reducible repeat (first | refine blk_drewN ?_ _ | refine blk_drew ?_ | refine blk_alloc ?_ _)); exact BK341.out)) : gb341 ≠ gb342)); have n9_ := Aside0.mk ((by rw [hg]; exact Nat.ne_of_gt (blk_lt (g := gb341) (o := .cells #[.int .i64 a2_0, .int .i64 a2_1] 94 (0, 0)) (by (with_reducible repeat (first | refine blk_drewN ?_ _ | refine blk_drew ?_ | refine blk_alloc ?_ _)); exact BK341.out)) : gb342 ≠ gb341)); clear BK340; clear BK341; clear HB; have BK340 := n0_; have BK341 := n1_; have HB := n2_; have BK342 := n3_; have GW342 := n4_; have GE342 := n5_; have NB340_342 := n6_; have NB342_340 := n7_; have NB341_342 := n8_; have NB342_341 := n9_; clear n0_ n1_ n2_ n3_ n4_ n5_ n6_ n7_ n8_ n9_; clear hb hbox hg))
  have n0_ := Aside0.mk (blk_drew BK340.out)
  have n1_ := Aside0.mk (blk_drew BK341.out)
  have n2_ := Aside0.mk (blk_drew BK342.out)
  have n3_ := Aside0.mk (below_drew1 HB.out)
  clear BK340
  clear BK341
  clear BK342
  clear HB
  have BK340 := n0_
  have BK341 := n1_
  have BK342 := n2_
  have HB := n3_
  clear n0_ n1_ n2_ n3_
  refine start_ (n := 14) (S := fun w' => w'.cell? ⟨gb340, 0, none⟩ = some (.int .i64 a1_0) ∧ w'.cell? ⟨gb340, 1, none⟩ = some (.int .i64 a1_1) ∧ w'.cell? ⟨gb341, 0, none⟩ = some (.int .i64 a2_0) ∧ w'.cell? ⟨gb341, 1, none⟩ = some (.int .i64 a2_1)) (ds := []) (Pt.bm 14 0) (by kernel_rfl) rfl rfl ⟨(blk_cell BK340.out 0).trans rfl, (blk_cell BK340.out 1).trans rfl, (blk_cell BK341.out 0).trans rfl, (blk_cell BK341.out 1).trans rfl⟩ (fun hHeld => ?_); refine with_tabW impl_spanOf.tab3 impl_spanOf.bits3 (fun HT_ HW_ => ?_)
  generalize w9.drew = w10 at BK340 BK341 BK342 HB hHeld ⊢
  refine Pt.pu 0 (some 11) (Pt.bm 14 1) (any_of HT_.out (by kernel_rfl)) ?_
  refine Pt.pu 2 (some 13) (Pt.bm 14 5) (any_of HT_.out (by kernel_rfl)) ?_
  refine Pt.pu 6 (some 17) (Pt.bm 14 69) (any_of HT_.out (by kernel_rfl)) ?_
  refine Pt.pu 8 (some 19) (Pt.bm 14 325) (any_of HT_.out (by kernel_rfl)) ?_
  refine Pt.tk 1 (some 12) (Pt.bm 14 327) rfl rfl (take_ofW HT_.out HW_.out (by kernel_rfl)) hHeld (Or.inl ⟨by rfl, by rintro w' ⟨s0, s1, s2, s3⟩; go_simp; with_reducible rfl⟩) ?_
  refine Pt.tk 3 (some 14) (Pt.bm 14 335) rfl rfl (take_ofW HT_.out HW_.out (by kernel_rfl)) hHeld (Or.inl ⟨by rfl, by rintro w' ⟨s0, s1, s2, s3⟩; go_simp; with_reducible rfl⟩) ?_
  refine Pt.pu 4 (some 15) (Pt.bm 14 351) (any_of HT_.out (by kernel_rfl)) ?_
  refine Pt.tk 7 (some 18) (Pt.bm 14 479) rfl rfl (take_ofW HT_.out HW_.out (by kernel_rfl)) hHeld (Or.inl ⟨by rfl, by rintro w' ⟨s0, s1, s2, s3⟩; go_simp; with_reducible rfl⟩) ?_
  refine Pt.tk 9 (some 20) (Pt.bm 14 991) rfl rfl (take_ofW HT_.out HW_.out (by kernel_rfl)) hHeld (Or.inl ⟨by rfl, by rintro w' ⟨s0, s1, s2, s3⟩; go_simp; with_reducible rfl⟩) ?_
  refine Pt.pu 10 (some 21) (Pt.bm 14 2015) (any_of HT_.out (by kernel_rfl)) ?_
  refine one_ (i := 5) (N := some 16) (Pt.bm 14 2047) rfl rfl (one_of HT_.out (by kernel_rfl)) (by decide) (fun K hK => ?_)
  refine goes_ Try.func114 (by kernel_rfl) rfl #[.int .i64 (wrap64 (a1_0 + a2_0))] (by rfl) rfl rfl (by (try simp only [List.map_toArray, List.map_cons, List.map_nil]); first | done | rfl | (simp only [List.length_drop, List.length_take]; rfl)) ?_
  with_reducible refine (impl_held.calls (wrap64 (a1_0 + a2_0)) t343 _ A5.out).mono ?_
  rintro e w11 ⟨rfl, hb⟩
  refine ⟨_, rfl, ?_⟩
  have n0_ := Aside0.mk (blk_below (g := gb340) (o := .cells #[.int .i64 a1_0, .int .i64 a1_1] 94 (0, 0)) (by (with_reducible repeat (first | refine blk_drewN ?_ _ | refine blk_drew ?_ | refine blk_alloc ?_ _)); exact BK340.out) hb)
  have n1_ := Aside0.mk (blk_below (g := gb341) (o := .cells #[.int .i64 a2_0, .int .i64 a2_1] 94 (0, 0)) (by (with_reducible repeat (first | refine blk_drewN ?_ _ | refine blk_drew ?_ | refine blk_alloc ?_ _)); exact BK341.out) hb)
  have n2_ := Aside0.mk (blk_below (g := gb342) (o := .cells #[.int .i64 0, .int .i64 0] 94 (0, 0)) (by (with_reducible repeat (first | refine blk_drewN ?_ _ | refine blk_drew ?_ | refine blk_alloc ?_ _)); exact BK342.out) hb)
  have n3_ := Aside0.mk (below_step (by repeat (first | (with_reducible first | exact HB.out | apply bwA | apply bwN | apply bwD | refine below_set ?_ GE340.out | refine below_set ?_ GE341.out | refine below_set ?_ GE342.out) | exact HB.out)) hb)
  clear BK340
  clear BK341
  clear BK342
  clear HB
  have BK340 := n0_
  have BK341 := n1_
  have BK342 := n2_
  have HB := n3_
  clear n0_ n1_ n2_ n3_
  (try clear hb)
  (try clear hb2)
  (try clear hk)
  (try clear hi)
  refine hK.out _ _ ⟨(blk_cell BK340.out 0).trans rfl, (blk_cell BK340.out 1).trans rfl, (blk_cell BK341.out 0).trans rfl, (blk_cell BK341.out 1).trans rfl⟩ (fun hHeld => ?_)
  clear hK K
  refine norm_ (a' := ?_) ?_ ?_
  rotate_left
  ·show Act.put _ (some 16) _ = _
   simp only [Act.put, List.setIfInBounds_toArray, List.set_cons_zero, List.set_cons_succ, i64_w, i32_w]
   rfl
  refine one_ (i := 11) (N := some 22) (Pt.bm 14 4095) rfl rfl (one_of HT_.out (by kernel_rfl)) (by decide) (fun K hK => ?_)
  refine goes_ Try.func114 (by kernel_rfl) rfl #[.int .i64 (wrap64 (a1_1 + a2_1))] (by rfl) rfl rfl (by (try simp only [List.map_toArray, List.map_cons, List.map_nil]); first | done | rfl | (simp only [List.length_drop, List.length_take]; rfl)) ?_
  with_reducible refine (impl_held.calls (wrap64 (a1_1 + a2_1)) t344 _ A6.out).mono ?_
  rintro e w12 ⟨rfl, hb⟩
  refine ⟨_, rfl, ?_⟩
  have n0_ := Aside0.mk (blk_below (g := gb340) (o := .cells #[.int .i64 a1_0, .int .i64 a1_1] 94 (0, 0)) (by (with_reducible repeat (first | refine blk_drewN ?_ _ | refine blk_drew ?_ | refine blk_alloc ?_ _)); exact BK340.out) hb)
  have n1_ := Aside0.mk (blk_below (g := gb341) (o := .cells #[.int .i64 a2_0, .int .i64 a2_1] 94 (0, 0)) (by (with_reducible repeat (first | refine blk_drewN ?_ _ | refine blk_drew ?_ | refine blk_alloc ?_ _)); exact BK341.out) hb)
  have n2_ := Aside0.mk (blk_below (g := gb342) (o := .cells #[.int .i64 0, .int .i64 0] 94 (0, 0)) (by (with_reducible repeat (first | refine blk_drewN ?_ _ | refine blk_drew ?_ | refine blk_alloc ?_ _)); exact BK342.out) hb)
  have n3_ := Aside0.mk (below_step (by repeat (first | (with_reducible first | exact HB.out | apply bwA | apply bwN | apply bwD | refine below_set ?_ GE340.out | refine below_set ?_ GE341.out | refine below_set ?_ GE342.out) | exact HB.out)) hb)
  clear BK340
  clear BK341
  clear BK342
  clear HB
  have BK340 := n0_
  have BK341 := n1_
  have BK342 := n2_
  have HB := n3_
  clear n0_ n1_ n2_ n3_
  (try clear hb)
  (try clear hb2)
  (try clear hk)
  (try clear hi)
  refine hK.out _ _ ⟨(blk_cell BK340.out 0).trans rfl, (blk_cell BK340.out 1).trans rfl, (blk_cell BK341.out 0).trans rfl, (blk_cell BK341.out 1).trans rfl⟩ (fun hHeld => ?_)
  clear hK K
  refine norm_ (a' := ?_) ?_ ?_
  rotate_left
  ·show Act.put _ (some 22) _ = _
   simp only [Act.put, List.setIfInBounds_toArray, List.set_cons_zero, List.set_cons_succ, i64_w, i32_w]
   rfl
  refine Pt.pu 12 (some 23) (Pt.bm 14 8191) (any_of HT_.out (by kernel_rfl)) ?_
  refine one_ (i := 13) (N := none) (Pt.bm 14 16383) rfl rfl (one_of HT_.out (by kernel_rfl)) (by decide) (fun K hK => ?_)
  have hs13 : w12.cell? ⟨gb342, 0, none⟩ = some (.int .i64 0) := (blk_cell BK342.out 0).trans rfl
  have hfs13 := blk_frozen BK342.out 0
  have hns13_0 := NB340_342.out
  have hns13_1 := NB341_342.out
  have hms13_0 := NB342_340.out
  have hms13_1 := NB342_341.out
  have hs14 : w12.cell? ⟨gb342, 1, none⟩ = some (.int .i64 0) := (blk_cell BK342.out 1).trans rfl
  have hfs14 := blk_frozen BK342.out 1
  have hns14_0 := NB340_342.out
  have hns14_1 := NB341_342.out
  have hms14_0 := NB342_340.out
  have hms14_1 := NB342_341.out
  refine skip_ (w1 := ?_) (by rfl) rfl ?_ ?_
  rotate_left
  ·go_simp
   rfl
  refine hK.out _ _ ⟨((cell_far (p := ⟨gb342, _, none⟩) NB340_342.out _).trans (((cell_far (p := ⟨gb342, _, none⟩) NB340_342.out _).trans (hHeld.1)))), ((cell_far (p := ⟨gb342, _, none⟩) NB340_342.out _).trans (((cell_far (p := ⟨gb342, _, none⟩) NB340_342.out _).trans (hHeld.2.1)))), ((cell_far (p := ⟨gb342, _, none⟩) NB341_342.out _).trans (((cell_far (p := ⟨gb342, _, none⟩) NB341_342.out _).trans (hHeld.2.2.1)))), ((cell_far (p := ⟨gb342, _, none⟩) NB341_342.out _).trans (((cell_far (p := ⟨gb342, _, none⟩) NB341_342.out _).trans (hHeld.2.2.2))))⟩ (fun hHeld => ?_)
  clear hK K
  refine done_ (done_of HT_.out (by kernel_rfl)) ?_
  try go_wp2
  refine bodyPost_ret (results_cell_row rfl _ _ gb342 94 #[.int .i64 t343, .int .i64 t344] (0, 0) _ rfl (by (with_reducible repeat (first | refine blk_drewN ?_ _ | refine blk_drew ?_ | refine blk_alloc ?_ _)); refine blk_put (cs := #[.int .i64 t343, .int .i64 0]) ?_ 1 _ rfl; (with_reducible repeat (first | refine blk_drewN ?_ _ | refine blk_drew ?_ | refine blk_alloc ?_ _)); refine blk_put (cs := #[.int .i64 0, .int .i64 0]) ?_ 0 _ rfl; (with_reducible repeat (first | refine blk_drewN ?_ _ | refine blk_drew ?_ | refine blk_alloc ?_ _)); exact BK342.out) Try.underlying94 rfl (by kernel_rfl)) rfl ?_
  exact ⟨by first | rfl | (simp [errW_none, errW_some] <;> rfl) | (simp [*, errW_none, errW_some] <;> rfl), by repeat (first | (with_reducible first | exact HB.out | apply bwA | apply bwN | apply bwD | refine below_set ?_ GE340.out | refine below_set ?_ GE341.out | refine below_set ?_ GE342.out) | exact HB.out)⟩
 ·rw [if_neg c4] at H
  have c4b0 : (a0 == 2) = false := beq_eq_false_iff_ne.mpr c4
  have c4b1 : (a0 != 2) = true := bne_iff_ne.mpr c4
  by_cases c15 : a0 = 3
  ·rw [if_pos c15] at H
   have c15b0 : (a0 == 3) = true := beq_iff_eq.mpr c15
   have c15b1 : (a0 != 3) = false := bne_eq_false_iff_eq.mpr c15
   clear c15
   replace H := Option.bind_eq_some_iff.mp H
   obtain ⟨t345, A160, H⟩ := H
   replace H : ((impl_held.f (wrap64 (a1_1 - a2_0))).bind fun t346 => (some (t345, t346))) = some (r1, r2) := H
   have A16 := Aside0.mk A160
   clear A160
   replace H := Option.bind_eq_some_iff.mp H
   obtain ⟨t346, A170, H⟩ := H
   replace H : (some (t345, t346)) = some (r1, r2) := H
   have A17 := Aside0.mk A170
   clear A170
   simp only [Option.some.injEq, Prod.mk.injEq] at H
   obtain ⟨rfl, rfl⟩ := H
   go_enter Try.func75, Try.ntmps75
   try go_wp2_with (first | ((with_reducible refine gate_dst (N := 4) rfl ?_); refine box_event ?hg (N := 4) ?hd (cs := #[.int .i64 a1_0, .int .i64 a1_1]) (t := 94) ?hr ?_; (case hd => rfl); (case hg => rfl); (case hr => first | (go_simp; done) | (go_simp; rfl)); intro gb340 hg w18 hbox hb; have n0_ := Aside0.mk (below_step (by repeat (first | (with_reducible first | exact HB.out | apply bwA | apply bwN | apply bwD) | exact HB.out)) hb); have n1_ := Aside0.mk (hbox); have n2_ := Aside0.mk ((by rw [hg]; exact (below_size (by repeat (first | (with_reducible first | exact HB.out | apply bwA | apply bwN | apply bwD) | exact HB.out))) : w.heap.size ≤ gb340)); have n3_ := Aside0.mk ((by rw [hg]; exact (below_size (by repeat (first | (with_reducible first | exact HB.out | apply bwA | apply bwN | apply bwD) | exact HB.out))) : w.heap.size ≤ gb340)); clear HB; have HB := n0_; have BK340 := n1_; have GW340 := n2_; have GE340 := n3_; clear n0_ n1_ n2_ n3_; clear hb hbox hg) | ((with_reducible refine gate_dst (N := 5) rfl ?_); refine box_event ?hg (N := 5) ?hd (cs := #[.int .i64 a2_0, .int .i64 a2_1]) (t := 94) ?hr ?_; (case hd => rfl); (case hg => rfl); (case hr => first | (go_simp; done) | (go_simp; rfl)); intro gb341 hg w19 hbox hb; have n0_ := Aside0.mk (blk_below (g := gb340) (o := .cells #[.int .i64 a1_0, .int .i64 a1_1] 94 (0, 0)) (by (with_reducible repeat (first | refine blk_drewN ?_ _ | refine blk_drew ?_ | refine blk_alloc ?_ _)); exact BK340.out) hb); have n1_ := Aside0.mk (below_step (by repeat (first | (with_reducible first | exact HB.out | apply bwA | apply bwN | apply bwD | refine below_set ?_ GE340.out) | exact HB.out)) hb); have n2_ := Aside0.mk (hbox); have n3_ := Aside0.mk ((by rw [hg]; exact (below_size (by repeat (first | (with_reducible first | exact HB.out | apply bwA | apply bwN | apply bwD | refine below_set ?_ GE340.out) | exact HB.out))) : w.heap.size ≤ gb341)); have n4_ := Aside0.mk ((by rw [hg]; exact (below_size (by repeat (first | (with_reducible first | exact HB.out | apply bwA | apply bwN | apply bwD | refine below_set ?_ GE340.out) | exact HB.out))) : w.heap.size ≤ gb341)); have n5_ := Aside0.mk ((by rw [hg]; exact Nat.ne_of_lt (blk_lt (g := gb340) (o := .cells #[.int .i64 a1_0, .int .i64 a1_1] 94 (0, 0)) (by (with_reducible repeat (first | refine blk_drewN ?_ _ | refine blk_drew ?_ | refine blk_alloc ?_ _)); exact BK340.out)) : gb340 ≠ gb341)); have n6_ := Aside0.mk ((by rw [hg]; exact Nat.ne_of_gt (blk_lt (g := gb340) (o := .cells #[.int .i64 a1_0, .int .i64 a1_1] 94 (0, 0)) (by (with_reducible repeat (first | refine blk_drewN ?_ _ | refine blk_drew ?_ | refine blk_alloc ?_ _)); exact BK340.out)) : gb341 ≠ gb340)); clear BK340; clear HB; have BK340 := n0_; have HB := n1_; have BK341 := n2_; have GW341 := n3_; have GE341 := n4_; have NB340_341 := n5_; have NB341_340 := n6_; clear n0_ n1_ n2_ n3_ n4_ n5_ n6_; clear hb hbox hg) | ((with_reducible refine gate_dst (N := 6) rfl ?_); refine box_event ?hg (N := 6) ?hd (cs := #[.int .i64 0, .int .i64 0]) (t := 94) ?hr ?_; (case hd => rfl); (case hg => rfl); (case hr => first | (go_simp; done) | (go_simp; rfl)); intro gb342 hg w20 hbox hb; have n0_ := Aside0.mk (blk_below (g := gb340) (o := .cells #[.int .i64 a1_0, .int .i64 a1_1] 94 (0, 0)) (by (with_reducible repeat (first | refine blk_drewN ?_ _ | refine blk_drew ?_ | refine blk_alloc ?_ _)); exact BK340.out) hb); have n1_ := Aside0.mk (blk_below (g := gb341) (o := .cells #[.int .i64 a2_0, .int .i64 a2_1] 94 (0, 0)) (by (with_reducible repeat (first | refine blk_drewN ?_ _ | refine blk_drew ?_ | refine blk_alloc ?_ _)); exact BK341.out) hb); have n2_ := Aside0.mk (below_step (by repeat (first | (with_reducible first | exact HB.out | apply bwA | apply bwN | apply bwD | refine below_set ?_ GE340.out | refine below_set ?_ GE341.out) | exact HB.out)) hb); have n3_ := Aside0.mk (hbox); have n4_ := Aside0.mk ((by rw [hg]; exact (below_size (by repeat (first | (with_reducible first | exact HB.out | apply bwA | apply bwN | apply bwD | refine below_set ?_ GE340.out | refine below_set ?_ GE341.out) | exact HB.out))) : w.heap.size ≤ gb342)); have n5_ := Aside0.mk ((by rw [hg]; exact (below_size (by repeat (first | (with_reducible first | exact HB.out | apply bwA | apply bwN | apply bwD | refine below_set ?_ GE340.out | refine below_set ?_ GE341.out) | exact HB.out))) : w.heap.size ≤ gb342)); have n6_ := Aside0.mk ((by rw [hg]; exact Nat.ne_of_lt (blk_lt (g := gb340) (o := .cells #[.int .i64 a1_0, .int .i64 a1_1] 94 (0, 0)) (by (with_reducible repeat (first | refine blk_drewN ?_ _ | refine blk_drew ?_ | refine blk_alloc ?_ _)); exact BK340.out)) : gb340 ≠ gb342)); have n7_ := Aside0.mk ((by rw [hg]; exact Nat.ne_of_gt (blk_lt (g := gb340) (o := .cells #[.int .i64 a1_0, .int .i64 a1_1] 94 (0, 0)) (by (with_reducible repeat (first | refine blk_drewN ?_ _ | refine blk_drew ?_ | refine blk_alloc ?_ _)); exact BK340.out)) : gb342 ≠ gb340)); have n8_ := Aside0.mk ((by rw [hg]; exact Nat.ne_of_lt (blk_lt (g := gb341) (o := .cells #[.int .i64 a2_0, .int .i64 a2_1] 94 (0, 0)) (by (with_reducible repeat (first | refine blk_drewN ?_ _ | refine blk_drew ?_ | refine blk_alloc ?_ _)); exact BK341.out)) : gb341 ≠ gb342)); have n9_ := Aside0.mk ((by rw [hg]; exact Nat.ne_of_gt (blk_lt (g := gb341) (o := .cells #[.int .i64 a2_0, .int .i64 a2_1] 94 (0, 0)) (by (with_reducible repeat (first | refine blk_drewN ?_ _ | refine blk_drew ?_ | refine blk_alloc ?_ _)); exact BK341.out)) : gb342 ≠ gb341)); clear BK340; clear BK341; clear HB; have BK340 := n0_; have BK341 := n1_; have HB := n2_; have BK342 := n3_; have GW342 := n4_; have GE342 := n5_; have NB340_342 := n6_; have NB342_340 := n7_; have NB341_342 := n8_; have NB342_341 := n9_; clear n0_ n1_ n2_ n3_ n4_ n5_ n6_ n7_ n8_ n9_; clear hb hbox hg))
   have n0_ := Aside0.mk (blk_drew BK340.out)
   have n1_ := Aside0.mk (blk_drew BK341.out)
   have n2_ := Aside0.mk (blk_drew BK342.out)
   have n3_ := Aside0.mk (below_drew1 HB.out)
   clear BK340
   clear BK341
   clear BK342
   clear HB
   have BK340 := n0_
   have BK341 := n1_
   have BK342 := n2_
   have HB := n3_
   clear n0_ n1_ n2_ n3_
   refine start_ (n := 14) (S := fun w' => w'.cell? ⟨gb340, 0, none⟩ = some (.int .i64 a1_0) ∧ w'.cell? ⟨gb340, 1, none⟩ = some (.int .i64 a1_1) ∧ w'.cell? ⟨gb341, 0, none⟩ = some (.int .i64 a2_0) ∧ w'.cell? ⟨gb341, 1, none⟩ = some (.int .i64 a2_1)) (ds := []) (Pt.bm 14 0) (by kernel_rfl) rfl rfl ⟨(blk_cell BK340.out 0).trans rfl, (blk_cell BK340.out 1).trans rfl, (blk_cell BK341.out 0).trans rfl, (blk_cell BK341.out 1).trans rfl⟩ (fun hHeld => ?_); refine with_tabW impl_spanOf.tab5 impl_spanOf.bits5 (fun HT_ HW_ => ?_)
   generalize w20.drew = w21 at BK340 BK341 BK342 HB hHeld ⊢
   refine Pt.pu 0 (some 26) (Pt.bm 14 1) (any_of HT_.out (by kernel_rfl)) ?_
   refine Pt.pu 2 (some 28) (Pt.bm 14 5) (any_of HT_.out (by kernel_rfl)) ?_
   refine Pt.pu 6 (some 32) (Pt.bm 14 69) (any_of HT_.out (by kernel_rfl)) ?_
   refine Pt.pu 8 (some 34) (Pt.bm 14 325) (any_of HT_.out (by kernel_rfl)) ?_
   refine Pt.tk 1 (some 27) (Pt.bm 14 327) rfl rfl (take_ofW HT_.out HW_.out (by kernel_rfl)) hHeld (Or.inl ⟨by rfl, by rintro w' ⟨s0, s1, s2, s3⟩; go_simp; with_reducible rfl⟩) ?_
   refine Pt.tk 3 (some 29) (Pt.bm 14 335) rfl rfl (take_ofW HT_.out HW_.out (by kernel_rfl)) hHeld (Or.inl ⟨by rfl, by rintro w' ⟨s0, s1, s2, s3⟩; go_simp; with_reducible rfl⟩) ?_
   refine Pt.pu 4 (some 30) (Pt.bm 14 351) (any_of HT_.out (by kernel_rfl)) ?_
   refine Pt.tk 7 (some 33) (Pt.bm 14 479) rfl rfl (take_ofW HT_.out HW_.out (by kernel_rfl)) hHeld (Or.inl ⟨by rfl, by rintro w' ⟨s0, s1, s2, s3⟩; go_simp; with_reducible rfl⟩) ?_
   refine Pt.tk 9 (some 35) (Pt.bm 14 991) rfl rfl (take_ofW HT_.out HW_.out (by kernel_rfl)) hHeld (Or.inl ⟨by rfl, by rintro w' ⟨s0, s1, s2, s3⟩; go_simp; with_reducible rfl⟩) ?_
   refine Pt.pu 10 (some 36) (Pt.bm 14 2015) (any_of HT_.out (by kernel_rfl)) ?_
   refine one_ (i := 5) (N := some 31) (Pt.bm 14 2047) rfl rfl (one_of HT_.out (by kernel_rfl)) (by decide) (fun K hK => ?_)
   refine goes_ Try.func114 (by kernel_rfl) rfl #[.int .i64 (wrap64 (a1_0 - a2_1))] (by rfl) rfl rfl (by (try simp only [List.map_toArray, List.map_cons, List.map_nil]); first | done | rfl | (simp only [List.length_drop, List.length_take]; rfl)) ?_
   with_reducible refine (impl_held.calls (wrap64 (a1_0 - a2_1)) t345 _ A16.out).mono ?_
   rintro e w22 ⟨rfl, hb⟩
   refine ⟨_, rfl, ?_⟩
   have n0_ := Aside0.mk (blk_below (g := gb340) (o := .cells #[.int .i64 a1_0, .int .i64 a1_1] 94 (0, 0)) (by (with_reducible repeat (first | refine blk_drewN ?_ _ | refine blk_drew ?_ | refine blk_alloc ?_ _)); exact BK340.out) hb)
   have n1_ := Aside0.mk (blk_below (g := gb341) (o := .cells #[.int .i64 a2_0, .int .i64 a2_1] 94 (0, 0)) (by (with_reducible repeat (first | refine blk_drewN ?_ _ | refine blk_drew ?_ | refine blk_alloc ?_ _)); exact BK341.out) hb)
   have n2_ := Aside0.mk (blk_below (g := gb342) (o := .cells #[.int .i64 0, .int .i64 0] 94 (0, 0)) (by (with_reducible repeat (first | refine blk_drewN ?_ _ | refine blk_drew ?_ | refine blk_alloc ?_ _)); exact BK342.out) hb)
   have n3_ := Aside0.mk (below_step (by repeat (first | (with_reducible first | exact HB.out | apply bwA | apply bwN | apply bwD | refine below_set ?_ GE340.out | refine below_set ?_ GE341.out | refine below_set ?_ GE342.out) | exact HB.out)) hb)
   clear BK340
   clear BK341
   clear BK342
   clear HB
   have BK340 := n0_
   have BK341 := n1_
   have BK342 := n2_
   have HB := n3_
   clear n0_ n1_ n2_ n3_
   (try clear hb)
   (try clear hb2)
   (try clear hk)
   (try clear hi)
   refine hK.out _ _ ⟨(blk_cell BK340.out 0).trans rfl, (blk_cell BK340.out 1).trans rfl, (blk_cell BK341.out 0).trans rfl, (blk_cell BK341.out 1).trans rfl⟩ (fun hHeld => ?_)
   clear hK K
   refine norm_ (a' := ?_) ?_ ?_
   rotate_left
   ·show Act.put _ (some 31) _ = _
    simp only [Act.put, List.setIfInBounds_toArray, List.set_cons_zero, List.set_cons_succ, i64_w, i32_w]
    rfl
   refine one_ (i := 11) (N := some 37) (Pt.bm 14 4095) rfl rfl (one_of HT_.out (by kernel_rfl)) (by decide) (fun K hK => ?_)
   refine goes_ Try.func114 (by kernel_rfl) rfl #[.int .i64 (wrap64 (a1_1 - a2_0))] (by rfl) rfl rfl (by (try simp only [List.map_toArray, List.map_cons, List.map_nil]); first | done | rfl | (simp only [List.length_drop, List.length_take]; rfl)) ?_
   with_reducible refine (impl_held.calls (wrap64 (a1_1 - a2_0)) t346 _ A17.out).mono ?_
   rintro e w23 ⟨rfl, hb⟩
   refine ⟨_, rfl, ?_⟩
   have n0_ := Aside0.mk (blk_below (g := gb340) (o := .cells #[.int .i64 a1_0, .int .i64 a1_1] 94 (0, 0)) (by (with_reducible repeat (first | refine blk_drewN ?_ _ | refine blk_drew ?_ | refine blk_alloc ?_ _)); exact BK340.out) hb)
   have n1_ := Aside0.mk (blk_below (g := gb341) (o := .cells #[.int .i64 a2_0, .int .i64 a2_1] 94 (0, 0)) (by (with_reducible repeat (first | refine blk_drewN ?_ _ | refine blk_drew ?_ | refine blk_alloc ?_ _)); exact BK341.out) hb)
   have n2_ := Aside0.mk (blk_below (g := gb342) (o := .cells #[.int .i64 0, .int .i64 0] 94 (0, 0)) (by (with_reducible repeat (first | refine blk_drewN ?_ _ | refine blk_drew ?_ | refine blk_alloc ?_ _)); exact BK342.out) hb)
   have n3_ := Aside0.mk (below_step (by repeat (first | (with_reducible first | exact HB.out | apply bwA | apply bwN | apply bwD | refine below_set ?_ GE340.out | refine below_set ?_ GE341.out | refine below_set ?_ GE342.out) | exact HB.out)) hb)
   clear BK340
   clear BK341
   clear BK342
   clear HB
   have BK340 := n0_
   have BK341 := n1_
   have BK342 := n2_
   have HB := n3_
   clear n0_ n1_ n2_ n3_
   (try clear hb)
   (try clear hb2)
   (try clear hk)
   (try clear hi)
   refine hK.out _ _ ⟨(blk_cell BK340.out 0).trans rfl, (blk_cell BK340.out 1).trans rfl, (blk_cell BK341.out 0).trans rfl, (blk_cell BK341.out 1).trans rfl⟩ (fun hHeld => ?_)
   clear hK K
   refine norm_ (a' := ?_) ?_ ?_
   rotate_left
   ·show Act.put _ (some 37) _ = _
    simp only [Act.put, List.setIfInBounds_toArray, List.set_cons_zero, List.set_cons_succ, i64_w, i32_w]
    rfl
   refine Pt.pu 12 (some 38) (Pt.bm 14 8191) (any_of HT_.out (by kernel_rfl)) ?_
   refine one_ (i := 13) (N := none) (Pt.bm 14 16383) rfl rfl (one_of HT_.out (by kernel_rfl)) (by decide) (fun K hK => ?_)
   have hs24 : w23.cell? ⟨gb342, 0, none⟩ = some (.int .i64 0) := (blk_cell BK342.out 0).trans rfl
   have hfs24 := blk_frozen BK342.out 0
   have hns24_0 := NB340_342.out
   have hns24_1 := NB341_342.out
   have hms24_0 := NB342_340.out
   have hms24_1 := NB342_341.out
   have hs25 : w23.cell? ⟨gb342, 1, none⟩ = some (.int .i64 0) := (blk_cell BK342.out 1).trans rfl
   have hfs25 := blk_frozen BK342.out 1
   have hns25_0 := NB340_342.out
   have hns25_1 := NB341_342.out
   have hms25_0 := NB342_340.out
   have hms25_1 := NB342_341.out
   refine skip_ (w1 := ?_) (by rfl) rfl ?_ ?_
   rotate_left
   ·go_simp
    rfl
   refine hK.out _ _ ⟨((cell_far (p := ⟨gb342, _, none⟩) NB340_342.out _).trans (((cell_far (p := ⟨gb342, _, none⟩) NB340_342.out _).trans (hHeld.1)))), ((cell_far (p := ⟨gb342, _, none⟩) NB340_342.out _).trans (((cell_far (p := ⟨gb342, _, none⟩) NB340_342.out _).trans (hHeld.2.1)))), ((cell_far (p := ⟨gb342, _, none⟩) NB341_342.out _).trans (((cell_far (p := ⟨gb342, _, none⟩) NB341_342.out _).trans (hHeld.2.2.1)))), ((cell_far (p := ⟨gb342, _, none⟩) NB341_342.out _).trans (((cell_far (p := ⟨gb342, _, none⟩) NB341_342.out _).trans (hHeld.2.2.2))))⟩ (fun hHeld => ?_)
   clear hK K
   refine done_ (done_of HT_.out (by kernel_rfl)) ?_
   try go_wp2
   refine bodyPost_ret (results_cell_row rfl _ _ gb342 94 #[.int .i64 t345, .int .i64 t346] (0, 0) _ rfl (by (with_reducible repeat (first | refine blk_drewN ?_ _ | refine blk_drew ?_ | refine blk_alloc ?_ _)); refine blk_put (cs := #[.int .i64 t345, .int .i64 0]) ?_ 1 _ rfl; (with_reducible repeat (first | refine blk_drewN ?_ _ | refine blk_drew ?_ | refine blk_alloc ?_ _)); refine blk_put (cs := #[.int .i64 0, .int .i64 0]) ?_ 0 _ rfl; (with_reducible repeat (first | refine blk_drewN ?_ _ | refine blk_drew ?_ | refine blk_alloc ?_ _)); exact BK342.out) Try.underlying94 rfl (by kernel_rfl)) rfl ?_
   exact ⟨by first | rfl | (simp [errW_none, errW_some] <;> rfl) | (simp [*, errW_none, errW_some] <;> rfl), by repeat (first | (with_reducible first | exact HB.out | apply bwA | apply bwN | apply bwD | refine below_set ?_ GE340.out | refine below_set ?_ GE341.out | refine below_set ?_ GE342.out) | exact HB.out)⟩
  ·rw [if_neg c15] at H
   have c15b0 : (a0 == 3) = false := beq_eq_false_iff_ne.mpr c15
   have c15b1 : (a0 != 3) = true := bne_iff_ne.mpr c15
   by_cases c26 : a0 = 4
   ·rw [if_pos c26] at H
    have c26b0 : (a0 == 4) = true := beq_iff_eq.mpr c26
    have c26b1 : (a0 != 4) = false := bne_eq_false_iff_eq.mpr c26
    clear c26
    replace H := Option.bind_eq_some_iff.mp H
    obtain ⟨t347, A270, H⟩ := H
    replace H : ((impl_held.f (wrap64 (a1_0 * a2_1))).bind fun t348 => ((impl_held.f (wrap64 (a1_1 * a2_0))).bind fun t349 => ((impl_held.f (wrap64 (a1_1 * a2_1))).bind fun t350 => ((some (([t347, t348, t349, t350] : List Int) : List Int)).bind fun y351 => ((slices_Min_int_int.f k y351).bind fun t354 => ((slices_Max_int_int.f k y351).bind fun t355 => (some (t354, t355)))))))) = some (r1, r2) := H
    have A27 := Aside0.mk A270
    clear A270
    replace H := Option.bind_eq_some_iff.mp H
    obtain ⟨t348, A280, H⟩ := H
    replace H : ((impl_held.f (wrap64 (a1_1 * a2_0))).bind fun t349 => ((impl_held.f (wrap64 (a1_1 * a2_1))).bind fun t350 => ((some (([t347, t348, t349, t350] : List Int) : List Int)).bind fun y351 => ((slices_Min_int_int.f k y351).bind fun t354 => ((slices_Max_int_int.f k y351).bind fun t355 => (some (t354, t355))))))) = some (r1, r2) := H
    have A28 := Aside0.mk A280
    clear A280
    replace H := Option.bind_eq_some_iff.mp H
    obtain ⟨t349, A290, H⟩ := H
    replace H : ((impl_held.f (wrap64 (a1_1 * a2_1))).bind fun t350 => ((some (([t347, t348, t349, t350] : List Int) : List Int)).bind fun y351 => ((slices_Min_int_int.f k y351).bind fun t354 => ((slices_Max_int_int.f k y351).bind fun t355 => (some (t354, t355)))))) = some (r1, r2) := H
    have A29 := Aside0.mk A290
    clear A290
    replace H := Option.bind_eq_some_iff.mp H
    obtain ⟨t350, A300, H⟩ := H
    replace H : ((some (([t347, t348, t349, t350] : List Int) : List Int)).bind fun y351 => ((slices_Min_int_int.f k y351).bind fun t354 => ((slices_Max_int_int.f k y351).bind fun t355 => (some (t354, t355))))) = some (r1, r2) := H
    have A30 := Aside0.mk A300
    clear A300
    obtain ⟨y351, hy351⟩ : ∃ y_ : List Int, y_ = (([t347, t348, t349, t350] : List Int)) := ⟨_, rfl⟩
    replace H : ((slices_Min_int_int.f k y351).bind fun t354 => ((slices_Max_int_int.f k y351).bind fun t355 => (some (t354, t355)))) = some (r1, r2) := by first | (rw [hy351]; with_reducible exact H) | (have H2_ := (Option.bind_some _ _).symm.trans H; rw [hy351]; with_reducible exact H2_) | (have H2_ := (Option.bind_some _ _).symm.trans H; with_reducible exact H2_) | with_reducible exact H | (rw [hy351]; exact H) | exact H
    have Ny351 := Aside0.mk hy351
    clear hy351
    replace H := Option.bind_eq_some_iff.mp H
    obtain ⟨t354, A310, H⟩ := H
    replace H : ((slices_Max_int_int.f k y351).bind fun t355 => (some (t354, t355))) = some (r1, r2) := H
    have A31 := Aside0.mk A310
    clear A310
    replace H := Option.bind_eq_some_iff.mp H
    obtain ⟨t355, A320, H⟩ := H
    replace H : (some (t354, t355)) = some (r1, r2) := H
    have A32 := Aside0.mk A320
    clear A320
    simp only [Option.some.injEq, Prod.mk.injEq] at H
    obtain ⟨rfl, rfl⟩ := H
    go_enter Try.func75, Try.ntmps75
    try go_wp2_with (first | ((with_reducible refine gate_dst (N := 4) rfl ?_); refine box_event ?hg (N := 4) ?hd (cs := #[.int .i64 a1_0, .int .i64 a1_1]) (t := 94) ?hr ?_; (case hd => rfl); (case hg => rfl); (case hr => first | (go_simp; done) | (go_simp; rfl)); intro gb340 hg w33 hbox hb; have n0_ := Aside0.mk (below_step (by repeat (first | (with_reducible first | exact HB.out | apply bwA | apply bwN | apply bwD) | exact HB.out)) hb); have n1_ := Aside0.mk (hbox); have n2_ := Aside0.mk ((by rw [hg]; exact (below_size (by repeat (first | (with_reducible first | exact HB.out | apply bwA | apply bwN | apply bwD) | exact HB.out))) : w.heap.size ≤ gb340)); have n3_ := Aside0.mk ((by rw [hg]; exact (below_size (by repeat (first | (with_reducible first | exact HB.out | apply bwA | apply bwN | apply bwD) | exact HB.out))) : w.heap.size ≤ gb340)); clear HB; have HB := n0_; have BK340 := n1_; have GW340 := n2_; have GE340 := n3_; clear n0_ n1_ n2_ n3_; clear hb hbox hg) | ((with_reducible refine gate_dst (N := 5) rfl ?_); refine box_event ?hg (N := 5) ?hd (cs := #[.int .i64 a2_0, .int .i64 a2_1]) (t := 94) ?hr ?_; (case hd => rfl); (case hg => rfl); (case hr => first | (go_simp; done) | (go_simp; rfl)); intro gb341 hg w34 hbox hb; have n0_ := Aside0.mk (blk_below (g := gb340) (o := .cells #[.int .i64 a1_0, .int .i64 a1_1] 94 (0, 0)) (by (with_reducible repeat (first | refine blk_drewN ?_ _ | refine blk_drew ?_ | refine blk_alloc ?_ _)); exact BK340.out) hb); have n1_ := Aside0.mk (below_step (by repeat (first | (with_reducible first | exact HB.out | apply bwA | apply bwN | apply bwD | refine below_set ?_ GE340.out) | exact HB.out)) hb); have n2_ := Aside0.mk (hbox); have n3_ := Aside0.mk ((by rw [hg]; exact (below_size (by repeat (first | (with_reducible first | exact HB.out | apply bwA | apply bwN | apply bwD | refine below_set ?_ GE340.out) | exact HB.out))) : w.heap.size ≤ gb341)); have n4_ := Aside0.mk ((by rw [hg]; exact (below_size (by repeat (first | (with_reducible first | exact HB.out | apply bwA | apply bwN | apply bwD | refine below_set ?_ GE340.out) | exact HB.out))) : w.heap.size ≤ gb341)); have n5_ := Aside0.mk ((by rw [hg]; exact Nat.ne_of_lt (blk_lt (g := gb340) (o := .cells #[.int .i64 a1_0, .int .i64 a1_1] 94 (0, 0)) (by (with_reducible repeat (first | refine blk_drewN ?_ _ | refine blk_drew ?_ | refine blk_alloc ?_ _)); exact BK340.out)) : gb340 ≠ gb341)); have n6_ := Aside0.mk ((by rw [hg]; exact Nat.ne_of_gt (blk_lt (g := gb340) (o := .cells #[.int .i64 a1_0, .int .i64 a1_1] 94 (0, 0)) (by (with_reducible repeat (first | refine blk_drewN ?_ _ | refine blk_drew ?_ | refine blk_alloc ?_ _)); exact BK340.out)) : gb341 ≠ gb340)); clear BK340; clear HB; have BK340 := n0_; have HB := n1_; have BK341 := n2_; have GW341 := n3_; have GE341 := n4_; have NB340_341 := n5_; have NB341_340 := n6_; clear n0_ n1_ n2_ n3_ n4_ n5_ n6_; clear hb hbox hg) | ((with_reducible refine gate_dst (N := 6) rfl ?_); refine box_event ?hg (N := 6) ?hd (cs := #[.int .i64 0, .int .i64 0]) (t := 94) ?hr ?_; (case hd => rfl); (case hg => rfl); (case hr => first | (go_simp; done) | (go_simp; rfl)); intro gb342 hg w35 hbox hb; have n0_ := Aside0.mk (blk_below (g := gb340) (o := .cells #[.int .i64 a1_0, .int .i64 a1_1] 94 (0, 0)) (by (with_reducible repeat (first | refine blk_drewN ?_ _ | refine blk_drew ?_ | refine blk_alloc ?_ _)); exact BK340.out) hb); have n1_ := Aside0.mk (blk_below (g := gb341) (o := .cells #[.int .i64 a2_0, .int .i64 a2_1] 94 (0, 0)) (by (with_reducible repeat (first | refine blk_drewN ?_ _ | refine blk_drew ?_ | refine blk_alloc ?_ _)); exact BK341.out) hb); have n2_ := Aside0.mk (below_step (by repeat (first | (with_reducible first | exact HB.out | apply bwA | apply bwN | apply bwD | refine below_set ?_ GE340.out | refine below_set ?_ GE341.out) | exact HB.out)) hb); have n3_ := Aside0.mk (hbox); have n4_ := Aside0.mk ((by rw [hg]; exact (below_size (by repeat (first | (with_reducible first | exact HB.out | apply bwA | apply bwN | apply bwD | refine below_set ?_ GE340.out | refine below_set ?_ GE341.out) | exact HB.out))) : w.heap.size ≤ gb342)); have n5_ := Aside0.mk ((by rw [hg]; exact (below_size (by repeat (first | (with_reducible first | exact HB.out | apply bwA | apply bwN | apply bwD | refine below_set ?_ GE340.out | refine below_set ?_ GE341.out) | exact HB.out))) : w.heap.size ≤ gb342)); have n6_ := Aside0.mk ((by rw [hg]; exact Nat.ne_of_lt (blk_lt (g := gb340) (o := .cells #[.int .i64 a1_0, .int .i64 a1_1] 94 (0, 0)) (by (with_reducible repeat (first | refine blk_drewN ?_ _ | refine blk_drew ?_ | refine blk_alloc ?_ _)); exact BK340.out)) : gb340 ≠ gb342)); have n7_ := Aside0.mk ((by rw [hg]; exact Nat.ne_of_gt (blk_lt (g := gb340) (o := .cells #[.int .i64 a1_0, .int .i64 a1_1] 94 (0, 0)) (by (with_reducible repeat (first | refine blk_drewN ?_ _ | refine blk_drew ?_ | refine blk_alloc ?_ _)); exact BK340.out)) : gb342 ≠ gb340)); have n8_ := Aside0.mk ((by rw [hg]; exact Nat.ne_of_lt (blk_lt (g := gb341) (o := .cells #[.int .i64 a2_0, .int .i64 a2_1] 94 (0, 0)) (by (with_reducible repeat (first | refine blk_drewN ?_ _ | refine blk_drew ?_ | refine blk_alloc ?_ _)); exact BK341.out)) : gb341 ≠ gb342)); have n9_ := Aside0.mk ((by rw [hg]; exact Nat.ne_of_gt (blk_lt (g := gb341) (o := .cells #[.int .i64 a2_0, .int .i64 a2_1] 94 (0, 0)) (by (with_reducible repeat (first | refine blk_drewN ?_ _ | refine blk_drew ?_ | refine blk_alloc ?_ _)); exact BK341.out)) : gb342 ≠ gb341)); clear BK340; clear BK341; clear HB; have BK340 := n0_; have BK341 := n1_; have HB := n2_; have BK342 := n3_; have GW342 := n4_; have GE342 := n5_; have NB340_342 := n6_; have NB342_340 := n7_; have NB341_342 := n8_; have NB342_341 := n9_; clear n0_ n1_ n2_ n3_ n4_ n5_ n6_ n7_ n8_ n9_; clear hb hbox hg))
    have n0_ := Aside0.mk (blk_drew BK340.out)
    have n1_ := Aside0.mk (blk_drew BK341.out)
    have n2_ := Aside0.mk (blk_drew BK342.out)
    have n3_ := Aside0.mk (below_drew1 HB.out)
    clear BK340
    clear BK341
    clear BK342
    clear HB
    have BK340 := n0_
    have BK341 := n1_
    have BK342 := n2_
    have HB := n3_
    clear n0_ n1_ n2_ n3_
    refine start_ (n := 26) (S := fun w' => w'.cell? ⟨gb340, 0, none⟩ = some (.int .i64 a1_0) ∧ w'.cell? ⟨gb340, 1, none⟩ = some (.int .i64 a1_1) ∧ w'.cell? ⟨gb341, 0, none⟩ = some (.int .i64 a2_0) ∧ w'.cell? ⟨gb341, 1, none⟩ = some (.int .i64 a2_1)) (ds := []) (Pt.bm 26 0) (by kernel_rfl) rfl rfl ⟨(blk_cell BK340.out 0).trans rfl, (blk_cell BK340.out 1).trans rfl, (blk_cell BK341.out 0).trans rfl, (blk_cell BK341.out 1).trans rfl⟩ (fun hHeld => ?_); refine with_tabW impl_spanOf.tab7 impl_spanOf.bits7 (fun HT_ HW_ => ?_)
    generalize w35.drew = w36 at BK340 BK341 BK342 HB hHeld ⊢
    refine Pt.pu 0 (some 41) (Pt.bm 26 1) (any_of HT_.out (by kernel_rfl)) ?_
    refine Pt.pu 2 (some 43) (Pt.bm 26 5) (any_of HT_.out (by kernel_rfl)) ?_
    refine Pt.pu 6 (some 47) (Pt.bm 26 69) (any_of HT_.out (by kernel_rfl)) ?_
    refine Pt.pu 8 (some 49) (Pt.bm 26 325) (any_of HT_.out (by kernel_rfl)) ?_
    refine Pt.pu 12 (some 53) (Pt.bm 26 4421) (any_of HT_.out (by kernel_rfl)) ?_
    refine Pt.pu 14 (some 55) (Pt.bm 26 20805) (any_of HT_.out (by kernel_rfl)) ?_
    refine Pt.pu 18 (some 59) (Pt.bm 26 282949) (any_of HT_.out (by kernel_rfl)) ?_
    refine Pt.pu 20 (some 61) (Pt.bm 26 1331525) (any_of HT_.out (by kernel_rfl)) ?_
    refine Pt.tk 1 (some 42) (Pt.bm 26 1331527) rfl rfl (take_ofW HT_.out HW_.out (by kernel_rfl)) hHeld (Or.inl ⟨by rfl, by rintro w' ⟨s0, s1, s2, s3⟩; go_simp; with_reducible rfl⟩) ?_
    refine Pt.tk 3 (some 44) (Pt.bm 26 1331535) rfl rfl (take_ofW HT_.out HW_.out (by kernel_rfl)) hHeld (Or.inl ⟨by rfl, by rintro w' ⟨s0, s1, s2, s3⟩; go_simp; with_reducible rfl⟩) ?_
    refine Pt.pu 4 (some 45) (Pt.bm 26 1331551) (any_of HT_.out (by kernel_rfl)) ?_
    refine Pt.tk 7 (some 48) (Pt.bm 26 1331679) rfl rfl (take_ofW HT_.out HW_.out (by kernel_rfl)) hHeld (Or.inl ⟨by rfl, by rintro w' ⟨s0, s1, s2, s3⟩; go_simp; with_reducible rfl⟩) ?_
    refine Pt.tk 9 (some 50) (Pt.bm 26 1332191) rfl rfl (take_ofW HT_.out HW_.out (by kernel_rfl)) hHeld (Or.inl ⟨by rfl, by rintro w' ⟨s0, s1, s2, s3⟩; go_simp; with_reducible rfl⟩) ?_
    refine Pt.pu 10 (some 51) (Pt.bm 26 1333215) (any_of HT_.out (by kernel_rfl)) ?_
    refine Pt.tk 13 (some 54) (Pt.bm 26 1341407) rfl rfl (take_ofW HT_.out HW_.out (by kernel_rfl)) hHeld (Or.inl ⟨by rfl, by rintro w' ⟨s0, s1, s2, s3⟩; go_simp; with_reducible rfl⟩) ?_
    refine Pt.tk 15 (some 56) (Pt.bm 26 1374175) rfl rfl (take_ofW HT_.out HW_.out (by kernel_rfl)) hHeld (Or.inl ⟨by rfl, by rintro w' ⟨s0, s1, s2, s3⟩; go_simp; with_reducible rfl⟩) ?_
    refine Pt.pu 16 (some 57) (Pt.bm 26 1439711) (any_of HT_.out (by kernel_rfl)) ?_
    refine Pt.tk 19 (some 60) (Pt.bm 26 1963999) rfl rfl (take_ofW HT_.out HW_.out (by kernel_rfl)) hHeld (Or.inl ⟨by rfl, by rintro w' ⟨s0, s1, s2, s3⟩; go_simp; with_reducible rfl⟩) ?_
    refine Pt.tk 21 (some 62) (Pt.bm 26 4061151) rfl rfl (take_ofW HT_.out HW_.out (by kernel_rfl)) hHeld (Or.inl ⟨by rfl, by rintro w' ⟨s0, s1, s2, s3⟩; go_simp; with_reducible rfl⟩) ?_
    refine Pt.pu 22 (some 63) (Pt.bm 26 8255455) (any_of HT_.out (by kernel_rfl)) ?_
    refine one_ (i := 5) (N := some 46) (Pt.bm 26 8255487) rfl rfl (one_of HT_.out (by kernel_rfl)) (by decide) (fun K hK => ?_)
    refine goes_ Try.func114 (by kernel_rfl) rfl #[.int .i64 (wrap64 (a1_0 * a2_0))] (by rfl) rfl rfl (by (try simp only [List.map_toArray, List.map_cons, List.map_nil]); first | done | rfl | (simp only [List.length_drop, List.length_take]; rfl)) ?_
    with_reducible refine (impl_held.calls (wrap64 (a1_0 * a2_0)) t347 _ A27.out).mono ?_
    rintro e w37 ⟨rfl, hb⟩
    refine ⟨_, rfl, ?_⟩
    have n0_ := Aside0.mk (blk_below (g := gb340) (o := .cells #[.int .i64 a1_0, .int .i64 a1_1] 94 (0, 0)) (by (with_reducible repeat (first | refine blk_drewN ?_ _ | refine blk_drew ?_ | refine blk_alloc ?_ _)); exact BK340.out) hb)
    have n1_ := Aside0.mk (blk_below (g := gb341) (o := .cells #[.int .i64 a2_0, .int .i64 a2_1] 94 (0, 0)) (by (with_reducible repeat (first | refine blk_drewN ?_ _ | refine blk_drew ?_ | refine blk_alloc ?_ _)); exact BK341.out) hb)
    have n2_ := Aside0.mk (blk_below (g := gb342) (o := .cells #[.int .i64 0, .int .i64 0] 94 (0, 0)) (by (with_reducible repeat (first | refine blk_drewN ?_ _ | refine blk_drew ?_ | refine blk_alloc ?_ _)); exact BK342.out) hb)
    have n3_ := Aside0.mk (below_step (by repeat (first | (with_reducible first | exact HB.out | apply bwA | apply bwN | apply bwD | refine below_set ?_ GE340.out | refine below_set ?_ GE341.out | refine below_set ?_ GE342.out) | exact HB.out)) hb)
    clear BK340
    clear BK341
    clear BK342
    clear HB
    have BK340 := n0_
    have BK341 := n1_
    have BK342 := n2_
    have HB := n3_
    clear n0_ n1_ n2_ n3_
    (try clear hb)
    (try clear hb2)
    (try clear hk)
    (try clear hi)
    refine hK.out _ _ ⟨(blk_cell BK340.out 0).trans rfl, (blk_cell BK340.out 1).trans rfl, (blk_cell BK341.out 0).trans rfl, (blk_cell BK341.out 1).trans rfl⟩ (fun hHeld => ?_)
    clear hK K
    refine norm_ (a' := ?_) ?_ ?_
    rotate_left
    ·show Act.put _ (some 46) _ = _
     simp only [Act.put, List.setIfInBounds_toArray, List.set_cons_zero, List.set_cons_succ, i64_w, i32_w]
     rfl
    refine one_ (i := 11) (N := some 52) (Pt.bm 26 8257535) rfl rfl (one_of HT_.out (by kernel_rfl)) (by decide) (fun K hK => ?_)
    refine goes_ Try.func114 (by kernel_rfl) rfl #[.int .i64 (wrap64 (a1_0 * a2_1))] (by rfl) rfl rfl (by (try simp only [List.map_toArray, List.map_cons, List.map_nil]); first | done | rfl | (simp only [List.length_drop, List.length_take]; rfl)) ?_
    with_reducible refine (impl_held.calls (wrap64 (a1_0 * a2_1)) t348 _ A28.out).mono ?_
    rintro e w38 ⟨rfl, hb⟩
    refine ⟨_, rfl, ?_⟩
    have n0_ := Aside0.mk (blk_below (g := gb340) (o := .cells #[.int .i64 a1_0, .int .i64 a1_1] 94 (0, 0)) (by (with_reducible repeat (first | refine blk_drewN ?_ _ | refine blk_drew ?_ | refine blk_alloc ?_ _)); exact BK340.out) hb)
    have n1_ := Aside0.mk (blk_below (g := gb341) (o := .cells #[.int .i64 a2_0, .int .i64 a2_1] 94 (0, 0)) (by (with_reducible repeat (first | refine blk_drewN ?_ _ | refine blk_drew ?_ | refine blk_alloc ?_ _)); exact BK341.out) hb)
    have n2_ := Aside0.mk (blk_below (g := gb342) (o := .cells #[.int .i64 0, .int .i64 0] 94 (0, 0)) (by (with_reducible repeat (first | refine blk_drewN ?_ _ | refine blk_drew ?_ | refine blk_alloc ?_ _)); exact BK342.out) hb)
    have n3_ := Aside0.mk (below_step (by repeat (first | (with_reducible first | exact HB.out | apply bwA | apply bwN | apply bwD | refine below_set ?_ GE340.out | refine below_set ?_ GE341.out | refine below_set ?_ GE342.out) | exact HB.out)) hb)
    clear BK340
    clear BK341
    clear BK342
    clear HB
    have BK340 := n0_
    have BK341 := n1_
    have BK342 := n2_
    have HB := n3_
    clear n0_ n1_ n2_ n3_
    (try clear hb)
    (try clear hb2)
    (try clear hk)
    (try clear hi)
    refine hK.out _ _ ⟨(blk_cell BK340.out 0).trans rfl, (blk_cell BK340.out 1).trans rfl, (blk_cell BK341.out 0).trans rfl, (blk_cell BK341.out 1).trans rfl⟩ (fun hHeld => ?_)
    clear hK K
    refine norm_ (a' := ?_) ?_ ?_
    rotate_left
    ·show Act.put _ (some 52) _ = _
     simp only [Act.put, List.setIfInBounds_toArray, List.set_cons_zero, List.set_cons_succ, i64_w, i32_w]
     rfl
    refine one_ (i := 17) (N := some 58) (Pt.bm 26 8388607) rfl rfl (one_of HT_.out (by kernel_rfl)) (by decide) (fun K hK => ?_)
    refine goes_ Try.func114 (by kernel_rfl) rfl #[.int .i64 (wrap64 (a1_1 * a2_0))] (by rfl) rfl rfl (by (try simp only [List.map_toArray, List.map_cons, List.map_nil]); first | done | rfl | (simp only [List.length_drop, List.length_take]; rfl)) ?_
    with_reducible refine (impl_held.calls (wrap64 (a1_1 * a2_0)) t349 _ A29.out).mono ?_
    rintro e w39 ⟨rfl, hb⟩
    refine ⟨_, rfl, ?_⟩
    have n0_ := Aside0.mk (blk_below (g := gb340) (o := .cells #[.int .i64 a1_0, .int .i64 a1_1] 94 (0, 0)) (by (with_reducible repeat (first | refine blk_drewN ?_ _ | refine blk_drew ?_ | refine blk_alloc ?_ _)); exact BK340.out) hb)
    have n1_ := Aside0.mk (blk_below (g := gb341) (o := .cells #[.int .i64 a2_0, .int .i64 a2_1] 94 (0, 0)) (by (with_reducible repeat (first | refine blk_drewN ?_ _ | refine blk_drew ?_ | refine blk_alloc ?_ _)); exact BK341.out) hb)
    have n2_ := Aside0.mk (blk_below (g := gb342) (o := .cells #[.int .i64 0, .int .i64 0] 94 (0, 0)) (by (with_reducible repeat (first | refine blk_drewN ?_ _ | refine blk_drew ?_ | refine blk_alloc ?_ _)); exact BK342.out) hb)
    have n3_ := Aside0.mk (below_step (by repeat (first | (with_reducible first | exact HB.out | apply bwA | apply bwN | apply bwD | refine below_set ?_ GE340.out | refine below_set ?_ GE341.out | refine below_set ?_ GE342.out) | exact HB.out)) hb)
    clear BK340
    clear BK341
    clear BK342
    clear HB
    have BK340 := n0_
    have BK341 := n1_
    have BK342 := n2_
    have HB := n3_
    clear n0_ n1_ n2_ n3_
    (try clear hb)
    (try clear hb2)
    (try clear hk)
    (try clear hi)
    refine hK.out _ _ ⟨(blk_cell BK340.out 0).trans rfl, (blk_cell BK340.out 1).trans rfl, (blk_cell BK341.out 0).trans rfl, (blk_cell BK341.out 1).trans rfl⟩ (fun hHeld => ?_)
    clear hK K
    refine norm_ (a' := ?_) ?_ ?_
    rotate_left
    ·show Act.put _ (some 58) _ = _
     simp only [Act.put, List.setIfInBounds_toArray, List.set_cons_zero, List.set_cons_succ, i64_w, i32_w]
     rfl
    refine one_ (i := 23) (N := some 64) (Pt.bm 26 16777215) rfl rfl (one_of HT_.out (by kernel_rfl)) (by decide) (fun K hK => ?_)
    refine goes_ Try.func114 (by kernel_rfl) rfl #[.int .i64 (wrap64 (a1_1 * a2_1))] (by rfl) rfl rfl (by (try simp only [List.map_toArray, List.map_cons, List.map_nil]); first | done | rfl | (simp only [List.length_drop, List.length_take]; rfl)) ?_
    with_reducible refine (impl_held.calls (wrap64 (a1_1 * a2_1)) t350 _ A30.out).mono ?_
    rintro e w40 ⟨rfl, hb⟩
    refine ⟨_, rfl, ?_⟩
    have n0_ := Aside0.mk (blk_below (g := gb340) (o := .cells #[.int .i64 a1_0, .int .i64 a1_1] 94 (0, 0)) (by (with_reducible repeat (first | refine blk_drewN ?_ _ | refine blk_drew ?_ | refine blk_alloc ?_ _)); exact BK340.out) hb)
    have n1_ := Aside0.mk (blk_below (g := gb341) (o := .cells #[.int .i64 a2_0, .int .i64 a2_1] 94 (0, 0)) (by (with_reducible repeat (first | refine blk_drewN ?_ _ | refine blk_drew ?_ | refine blk_alloc ?_ _)); exact BK341.out) hb)
    have n2_ := Aside0.mk (blk_below (g := gb342) (o := .cells #[.int .i64 0, .int .i64 0] 94 (0, 0)) (by (with_reducible repeat (first | refine blk_drewN ?_ _ | refine blk_drew ?_ | refine blk_alloc ?_ _)); exact BK342.out) hb)
    have n3_ := Aside0.mk (below_step (by repeat (first | (with_reducible first | exact HB.out | apply bwA | apply bwN | apply bwD | refine below_set ?_ GE340.out | refine below_set ?_ GE341.out | refine below_set ?_ GE342.out) | exact HB.out)) hb)
    clear BK340
    clear BK341
    clear BK342
    clear HB
    have BK340 := n0_
    have BK341 := n1_
    have BK342 := n2_
    have HB := n3_
    clear n0_ n1_ n2_ n3_
    (try clear hb)
    (try clear hb2)
    (try clear hk)
    (try clear hi)
    refine hK.out _ _ ⟨(blk_cell BK340.out 0).trans rfl, (blk_cell BK340.out 1).trans rfl, (blk_cell BK341.out 0).trans rfl, (blk_cell BK341.out 1).trans rfl⟩ (fun hHeld => ?_)
    clear hK K
    refine norm_ (a' := ?_) ?_ ?_
    rotate_left
    ·show Act.put _ (some 64) _ = _
     simp only [Act.put, List.setIfInBounds_toArray, List.set_cons_zero, List.set_cons_succ, i64_w, i32_w]
     rfl
    refine one_ (i := 24) (N := some 65) (Pt.bm 26 33554431) rfl rfl (one_of HT_.out (by kernel_rfl)) (by decide) (fun K hK => ?_)
    refine Kd.R_lit_step (Kd.int .i64) _ 3 ?hg (N := 65) ?hd (xs := ([t347, t348, t349, t350] : List Int)) (inner := [.int .i64 t347, .int .i64 t348, .int .i64 t349, .int .i64 t350]) (ok := fun _ => True) (okp := fun _ => True) ?hr ?hp (fun _ hk => hk) trivial (Below.refl _ _) (Nat.le_refl _) (by simp) ?_; (case hd => rfl); (case hg => rfl); (case hr => first | (go_simp; done) | (go_simp; rfl)); (case hp => exact (Reps.one (show Kd.M (Kd.int .i64) _ _ _ t347 [.int .i64 t347] from rfl) (Reps.one (show Kd.M (Kd.int .i64) _ _ _ t348 [.int .i64 t348] from rfl) (Reps.one (show Kd.M (Kd.int .i64) _ _ _ t349 [.int .i64 t349] from rfl) (Reps.one (show Kd.M (Kd.int .i64) _ _ _ t350 [.int .i64 t350] from rfl) (Reps.none _ _))))))
    intro v352 w41 ho42 hb hg_ hnew_
    clear hg_ hnew_
    (first | rw [← Ny351.out] at ho42 | (simp only [Int.reduceToNat] at ho42; rw [← Ny351.out] at ho42))
    have n0_ := Aside0.mk (Kd.R_lower ho42 (below_size (by repeat (first | (with_reducible first | exact HB.out | apply bwA | apply bwN | apply bwD | refine below_set ?_ GE340.out | refine below_set ?_ GE341.out | refine below_set ?_ GE342.out) | exact HB.out))))
    have n1_ := Aside0.mk (blk_below (g := gb340) (o := .cells #[.int .i64 a1_0, .int .i64 a1_1] 94 (0, 0)) (by (with_reducible repeat (first | refine blk_drewN ?_ _ | refine blk_drew ?_ | refine blk_alloc ?_ _)); exact BK340.out) hb)
    have n2_ := Aside0.mk (blk_below (g := gb341) (o := .cells #[.int .i64 a2_0, .int .i64 a2_1] 94 (0, 0)) (by (with_reducible repeat (first | refine blk_drewN ?_ _ | refine blk_drew ?_ | refine blk_alloc ?_ _)); exact BK341.out) hb)
    have n3_ := Aside0.mk (blk_below (g := gb342) (o := .cells #[.int .i64 0, .int .i64 0] 94 (0, 0)) (by (with_reducible repeat (first | refine blk_drewN ?_ _ | refine blk_drew ?_ | refine blk_alloc ?_ _)); exact BK342.out) hb)
    have n4_ := Aside0.mk (below_step (by repeat (first | (with_reducible first | exact HB.out | apply bwA | apply bwN | apply bwD | refine below_set ?_ GE340.out | refine below_set ?_ GE341.out | refine below_set ?_ GE342.out) | exact HB.out)) hb)
    clear BK340
    clear BK341
    clear BK342
    clear HB
    have HO353 := n0_
    have BK340 := n1_
    have BK341 := n2_
    have BK342 := n3_
    have HB := n4_
    clear n0_ n1_ n2_ n3_ n4_
    clear hb ho42
    refine hK.out _ _ ⟨(blk_cell BK340.out 0).trans rfl, (blk_cell BK340.out 1).trans rfl, (blk_cell BK341.out 0).trans rfl, (blk_cell BK341.out 1).trans rfl⟩ (fun hHeld => ?_)
    clear hK K
    refine norm_ (a' := ?_) ?_ ?_
    rotate_left
    ·show Act.put _ (some 65) _ = _
     simp only [Act.put, List.setIfInBounds_toArray, List.set_cons_zero, List.set_cons_succ, i64_w, i32_w]
     rfl
    refine Pt.pu 25 (some 7) (Pt.bm 26 67108863) (any_of HT_.out (by kernel_rfl)) ?_
    refine done_ (done_of HT_.out (by kernel_rfl)) ?_
    obtain ⟨Ao43, co43, eo43⟩ := Kd.R_slice HO353.out
    subst eo43
    try go_wp2_with (first | ((with_reducible refine gate_callee (f := 115) rfl ?_); refine goesL_ (some 67) rfl rfl Try.func115 (by kernel_rfl) rfl #[.slice Ao43 y351.length co43] rfl (by (try simp only [List.map_toArray, List.map_cons, List.map_nil]); first | done | rfl | (simp only [List.length_drop, List.length_take]; rfl)) ?_; (with_reducible refine (slices_Min_int_int.calls k _ _ y351 t354 _ ?side1 ?side2 A31.out).mono ?_); (case side1 => repeat (first | exact (Kd.R_reads' HO353.out).2.2 | (with_reducible refine Kd.C_alloc ?_ _) | (with_reducible refine Kd.C_drewN ?_ _) | (with_reducible refine Kd.C_drew ?_))); (case side2 => exact (Kd.R_reads' HO353.out).2.1); rintro e w44 ⟨rfl, hb⟩; refine ⟨_, rfl, ?_⟩; have n0_ := Aside0.mk (Kd.R_below (by (with_reducible repeat (first | apply Kd.R_alloc | apply Kd.R_drewN | apply Kd.R_drew)); exact HO353.out) hb); have n1_ := Aside0.mk (blk_below (g := gb340) (o := .cells #[.int .i64 a1_0, .int .i64 a1_1] 94 (0, 0)) (by (with_reducible repeat (first | refine blk_drewN ?_ _ | refine blk_drew ?_ | refine blk_alloc ?_ _)); exact BK340.out) hb); have n2_ := Aside0.mk (blk_below (g := gb341) (o := .cells #[.int .i64 a2_0, .int .i64 a2_1] 94 (0, 0)) (by (with_reducible repeat (first | refine blk_drewN ?_ _ | refine blk_drew ?_ | refine blk_alloc ?_ _)); exact BK341.out) hb); have n3_ := Aside0.mk (blk_below (g := gb342) (o := .cells #[.int .i64 0, .int .i64 0] 94 (0, 0)) (by (with_reducible repeat (first | refine blk_drewN ?_ _ | refine blk_drew ?_ | refine blk_alloc ?_ _)); exact BK342.out) hb); have n4_ := Aside0.mk (below_step (by repeat (first | (with_reducible first | exact HB.out | apply bwA | apply bwN | apply bwD | refine below_set ?_ GE340.out | refine below_set ?_ GE341.out | refine below_set ?_ GE342.out) | exact HB.out)) hb); clear HO353; clear BK340; clear BK341; clear BK342; clear HB; have HO353 := n0_; have BK340 := n1_; have BK341 := n2_; have BK342 := n3_; have HB := n4_; clear n0_ n1_ n2_ n3_ n4_; (try clear hb); (try clear hb2); (try clear hk); (try clear hi)) | ((with_reducible refine gate_callee (f := 116) rfl ?_); refine goesL_ (some 69) rfl rfl Try.func116 (by kernel_rfl) rfl #[.slice Ao43 y351.length co43] rfl (by (try simp only [List.map_toArray, List.map_cons, List.map_nil]); first | done | rfl | (simp only [List.length_drop, List.length_take]; rfl)) ?_; (with_reducible refine (slices_Max_int_int.calls k _ _ y351 t355 _ ?side1 ?side2 A32.out).mono ?_); (case side1 => repeat (first | exact (Kd.R_reads' HO353.out).2.2 | (with_reducible refine Kd.C_alloc ?_ _) | (with_reducible refine Kd.C_drewN ?_ _) | (with_reducible refine Kd.C_drew ?_))); (case side2 => exact (Kd.R_reads' HO353.out).2.1); rintro e w45 ⟨rfl, hb⟩; refine ⟨_, rfl, ?_⟩; have n0_ := Aside0.mk (Kd.R_below (by (with_reducible repeat (first | apply Kd.R_alloc | apply Kd.R_drewN | apply Kd.R_drew)); exact HO353.out) hb); have n1_ := Aside0.mk (blk_below (g := gb340) (o := .cells #[.int .i64 a1_0, .int .i64 a1_1] 94 (0, 0)) (by (with_reducible repeat (first | refine blk_drewN ?_ _ | refine blk_drew ?_ | refine blk_alloc ?_ _)); exact BK340.out) hb); have n2_ := Aside0.mk (blk_below (g := gb341) (o := .cells #[.int .i64 a2_0, .int .i64 a2_1] 94 (0, 0)) (by (with_reducible repeat (first | refine blk_drewN ?_ _ | refine blk_drew ?_ | refine blk_alloc ?_ _)); exact BK341.out) hb); have n3_ := Aside0.mk (blk_below (g := gb342) (o := .cells #[.int .i64 0, .int .i64 0] 94 (0, 0)) (by (with_reducible repeat (first | refine blk_drewN ?_ _ | refine blk_drew ?_ | refine blk_alloc ?_ _)); exact BK342.out) hb); have n4_ := Aside0.mk (below_step (by repeat (first | (with_reducible first | exact HB.out | apply bwA | apply bwN | apply bwD | refine below_set ?_ GE340.out | refine below_set ?_ GE341.out | refine below_set ?_ GE342.out) | exact HB.out)) hb); clear HO353; clear BK340; clear BK341; clear BK342; clear HB; have HO353 := n0_; have BK340 := n1_; have BK341 := n2_; have BK342 := n3_; have HB := n4_; clear n0_ n1_ n2_ n3_ n4_; (try clear hb); (try clear hb2); (try clear hk); (try clear hi); have hnb46 := NB342_340.out; have hnc46 := NB340_342.out; have hnb47 := NB342_341.out; have hnc47 := NB341_342.out; have hcz48_0 : w45.cell? ⟨gb342, 0, none⟩ = some (.int .i64 0) := (blk_cell BK342.out 0).trans rfl; have hcz48_1 : w45.cell? ⟨gb342, 1, none⟩ = some (.int .i64 0) := (blk_cell BK342.out 1).trans rfl; have hfz48_0 := blk_frozen BK342.out 0; have hfz48_1 := blk_frozen BK342.out 1))
    refine bodyPost_ret (results_cell_row rfl _ _ gb342 94 #[.int .i64 t354, .int .i64 t355] (0, 0) _ rfl (by (with_reducible repeat (first | refine blk_drewN ?_ _ | refine blk_drew ?_ | refine blk_alloc ?_ _)); refine blk_put (cs := #[.int .i64 t354, .int .i64 0]) ?_ 1 _ rfl; (with_reducible repeat (first | refine blk_drewN ?_ _ | refine blk_drew ?_ | refine blk_alloc ?_ _)); refine blk_put (cs := #[.int .i64 0, .int .i64 0]) ?_ 0 _ rfl; (with_reducible repeat (first | refine blk_drewN ?_ _ | refine blk_drew ?_ | refine blk_alloc ?_ _)); exact BK342.out) Try.underlying94 rfl (by kernel_rfl)) rfl ?_
    exact ⟨by first | rfl | (simp [errW_none, errW_some] <;> rfl) | (simp [*, errW_none, errW_some] <;> rfl), by repeat (first | (with_reducible first | exact HB.out | apply bwA | apply bwN | apply bwD | refine below_set ?_ GE340.out | refine below_set ?_ GE341.out | refine below_set ?_ GE342.out) | exact HB.out)⟩
   ·rw [if_neg c26] at H
    have c26b0 : (a0 == 4) = false := beq_eq_false_iff_ne.mpr c26
    have c26b1 : (a0 != 4) = true := bne_iff_ne.mpr c26
    by_cases c49 : a0 = 5
    ·rw [if_pos c49] at H
     have c49b0 : (a0 == 5) = true := beq_iff_eq.mpr c49
     have c49b1 : (a0 != 5) = false := bne_eq_false_iff_eq.mpr c49
     clear c49
     replace H := Option.bind_eq_some_iff.mp H
     obtain ⟨t356, A500, H⟩ := H
     replace H : ((impl_bit.f (decide (a1_0 < a2_1))).bind fun t357 => (some (t356, t357))) = some (r1, r2) := H
     have A50 := Aside0.mk A500
     clear A500
     replace H := Option.bind_eq_some_iff.mp H
     obtain ⟨t357, A510, H⟩ := H
     replace H : (some (t356, t357)) = some (r1, r2) := H
     have A51 := Aside0.mk A510
     clear A510
     simp only [Option.some.injEq, Prod.mk.injEq] at H
     obtain ⟨rfl, rfl⟩ := H
     go_enter Try.func75, Try.ntmps75
     try go_wp2_with (first | ((with_reducible refine gate_dst (N := 4) rfl ?_); refine box_event ?hg (N := 4) ?hd (cs := #[.int .i64 a1_0, .int .i64 a1_1]) (t := 94) ?hr ?_; (case hd => rfl); (case hg => rfl); (case hr => first | (go_simp; done) | (go_simp; rfl)); intro gb340 hg w52 hbox hb; have n0_ := Aside0.mk (below_step (by repeat (first | (with_reducible first | exact HB.out | apply bwA | apply bwN | apply bwD) | exact HB.out)) hb); have n1_ := Aside0.mk (hbox); have n2_ := Aside0.mk ((by rw [hg]; exact (below_size (by repeat (first | (with_reducible first | exact HB.out | apply bwA | apply bwN | apply bwD) | exact HB.out))) : w.heap.size ≤ gb340)); have n3_ := Aside0.mk ((by rw [hg]; exact (below_size (by repeat (first | (with_reducible first | exact HB.out | apply bwA | apply bwN | apply bwD) | exact HB.out))) : w.heap.size ≤ gb340)); clear HB; have HB := n0_; have BK340 := n1_; have GW340 := n2_; have GE340 := n3_; clear n0_ n1_ n2_ n3_; clear hb hbox hg) | ((with_reducible refine gate_dst (N := 5) rfl ?_); refine box_event ?hg (N := 5) ?hd (cs := #[.int .i64 a2_0, .int .i64 a2_1]) (t := 94) ?hr ?_; (case hd => rfl); (case hg => rfl); (case hr => first | (go_simp; done) | (go_simp; rfl)); intro gb341 hg w53 hbox hb; have n0_ := Aside0.mk (blk_below (g := gb340) (o := .cells #[.int .i64 a1_0, .int .i64 a1_1] 94 (0, 0)) (by (with_reducible repeat (first | refine blk_drewN ?_ _ | refine blk_drew ?_ | refine blk_alloc ?_ _)); exact BK340.out) hb); have n1_ := Aside0.mk (below_step (by repeat (first | (with_reducible first | exact HB.out | apply bwA | apply bwN | apply bwD | refine below_set ?_ GE340.out) | exact HB.out)) hb); have n2_ := Aside0.mk (hbox); have n3_ := Aside0.mk ((by rw [hg]; exact (below_size (by repeat (first | (with_reducible first | exact HB.out | apply bwA | apply bwN | apply bwD | refine below_set ?_ GE340.out) | exact HB.out))) : w.heap.size ≤ gb341)); have n4_ := Aside0.mk ((by rw [hg]; exact (below_size (by repeat (first | (with_reducible first | exact HB.out | apply bwA | apply bwN | apply bwD | refine below_set ?_ GE340.out) | exact HB.out))) : w.heap.size ≤ gb341)); have n5_ := Aside0.mk ((by rw [hg]; exact Nat.ne_of_lt (blk_lt (g := gb340) (o := .cells #[.int .i64 a1_0, .int .i64 a1_1] 94 (0, 0)) (by (with_reducible repeat (first | refine blk_drewN ?_ _ | refine blk_drew ?_ | refine blk_alloc ?_ _)); exact BK340.out)) : gb340 ≠ gb341)); have n6_ := Aside0.mk ((by rw [hg]; exact Nat.ne_of_gt (blk_lt (g := gb340) (o := .cells #[.int .i64 a1_0, .int .i64 a1_1] 94 (0, 0)) (by (with_reducible repeat (first | refine blk_drewN ?_ _ | refine blk_drew ?_ | refine blk_alloc ?_ _)); exact BK340.out)) : gb341 ≠ gb340)); clear BK340; clear HB; have BK340 := n0_; have HB := n1_; have BK341 := n2_; have GW341 := n3_; have GE341 := n4_; have NB340_341 := n5_; have NB341_340 := n6_; clear n0_ n1_ n2_ n3_ n4_ n5_ n6_; clear hb hbox hg) | ((with_reducible refine gate_dst (N := 6) rfl ?_); refine box_event ?hg (N := 6) ?hd (cs := #[.int .i64 0, .int .i64 0]) (t := 94) ?hr ?_; (case hd => rfl); (case hg => rfl); (case hr => first | (go_simp; done) | (go_simp; rfl)); intro gb342 hg w54 hbox hb; have n0_ := Aside0.mk (blk_below (g := gb340) (o := .cells #[.int .i64 a1_0, .int .i64 a1_1] 94 (0, 0)) (by (with_reducible repeat (first | refine blk_drewN ?_ _ | refine blk_drew ?_ | refine blk_alloc ?_ _)); exact BK340.out) hb); have n1_ := Aside0.mk (blk_below (g := gb341) (o := .cells #[.int .i64 a2_0, .int .i64 a2_1] 94 (0, 0)) (by (with_reducible repeat (first | refine blk_drewN ?_ _ | refine blk_drew ?_ | refine blk_alloc ?_ _)); exact BK341.out) hb); have n2_ := Aside0.mk (below_step (by repeat (first | (with_reducible first | exact HB.out | apply bwA | apply bwN | apply bwD | refine below_set ?_ GE340.out | refine below_set ?_ GE341.out) | exact HB.out)) hb); have n3_ := Aside0.mk (hbox); have n4_ := Aside0.mk ((by rw [hg]; exact (below_size (by repeat (first | (with_reducible first | exact HB.out | apply bwA | apply bwN | apply bwD | refine below_set ?_ GE340.out | refine below_set ?_ GE341.out) | exact HB.out))) : w.heap.size ≤ gb342)); have n5_ := Aside0.mk ((by rw [hg]; exact (below_size (by repeat (first | (with_reducible first | exact HB.out | apply bwA | apply bwN | apply bwD | refine below_set ?_ GE340.out | refine below_set ?_ GE341.out) | exact HB.out))) : w.heap.size ≤ gb342)); have n6_ := Aside0.mk ((by rw [hg]; exact Nat.ne_of_lt (blk_lt (g := gb340) (o := .cells #[.int .i64 a1_0, .int .i64 a1_1] 94 (0, 0)) (by (with_reducible repeat (first | refine blk_drewN ?_ _ | refine blk_drew ?_ | refine blk_alloc ?_ _)); exact BK340.out)) : gb340 ≠ gb342)); have n7_ := Aside0.mk ((by rw [hg]; exact Nat.ne_of_gt (blk_lt (g := gb340) (o := .cells #[.int .i64 a1_0, .int .i64 a1_1] 94 (0, 0)) (by (with_reducible repeat (first | refine blk_drewN ?_ _ | refine blk_drew ?_ | refine blk_alloc ?_ _)); exact BK340.out)) : gb342 ≠ gb340)); have n8_ := Aside0.mk ((by rw [hg]; exact Nat.ne_of_lt (blk_lt (g := gb341) (o := .cells #[.int .i64 a2_0, .int .i64 a2_1] 94 (0, 0)) (by (with_reducible repeat (first | refine blk_drewN ?_ _ | refine blk_drew ?_ | refine blk_alloc ?_ _)); exact BK341.out)) : gb341 ≠ gb342)); have n9_ := Aside0.mk ((by rw [hg]; exact Nat.ne_of_gt (blk_lt (g := gb341) (o := .cells #[.int .i64 a2_0, .int .i64 a2_1] 94 (0, 0)) (by (with_reducible repeat (first | refine blk_drewN ?_ _ | refine blk_drew ?_ | refine blk_alloc ?_ _)); exact BK341.out)) : gb342 ≠ gb341)); clear BK340; clear BK341; clear HB; have BK340 := n0_; have BK341 := n1_; have HB := n2_; have BK342 := n3_; have GW342 := n4_; have GE342 := n5_; have NB340_342 := n6_; have NB342_340 := n7_; have NB341_342 := n8_; have NB342_341 := n9_; clear n0_ n1_ n2_ n3_ n4_ n5_ n6_ n7_ n8_ n9_; clear hb hbox hg))
     have n0_ := Aside0.mk (blk_drew BK340.out)
     have n1_ := Aside0.mk (blk_drew BK341.out)
     have n2_ := Aside0.mk (blk_drew BK342.out)
     have n3_ := Aside0.mk (below_drew1 HB.out)
     clear BK340
     clear BK341
     clear BK342
     clear HB
     have BK340 := n0_
     have BK341 := n1_
     have BK342 := n2_
     have HB := n3_
     clear n0_ n1_ n2_ n3_
     refine start_ (n := 14) (S := fun w' => w'.cell? ⟨gb340, 0, none⟩ = some (.int .i64 a1_0) ∧ w'.cell? ⟨gb340, 1, none⟩ = some (.int .i64 a1_1) ∧ w'.cell? ⟨gb341, 0, none⟩ = some (.int .i64 a2_0) ∧ w'.cell? ⟨gb341, 1, none⟩ = some (.int .i64 a2_1)) (ds := []) (Pt.bm 14 0) (by kernel_rfl) rfl rfl ⟨(blk_cell BK340.out 0).trans rfl, (blk_cell BK340.out 1).trans rfl, (blk_cell BK341.out 0).trans rfl, (blk_cell BK341.out 1).trans rfl⟩ (fun hHeld => ?_); refine with_tabW impl_spanOf.tab10 impl_spanOf.bits10 (fun HT_ HW_ => ?_)
     generalize w54.drew = w55 at BK340 BK341 BK342 HB hHeld ⊢
     refine Pt.pu 0 (some 73) (Pt.bm 14 1) (any_of HT_.out (by kernel_rfl)) ?_
     refine Pt.pu 2 (some 75) (Pt.bm 14 5) (any_of HT_.out (by kernel_rfl)) ?_
     refine Pt.pu 6 (some 79) (Pt.bm 14 69) (any_of HT_.out (by kernel_rfl)) ?_
     refine Pt.pu 8 (some 81) (Pt.bm 14 325) (any_of HT_.out (by kernel_rfl)) ?_
     refine Pt.tk 1 (some 74) (Pt.bm 14 327) rfl rfl (take_ofW HT_.out HW_.out (by kernel_rfl)) hHeld (Or.inl ⟨by rfl, by rintro w' ⟨s0, s1, s2, s3⟩; go_simp; with_reducible rfl⟩) ?_
     refine Pt.tk 3 (some 76) (Pt.bm 14 335) rfl rfl (take_ofW HT_.out HW_.out (by kernel_rfl)) hHeld (Or.inl ⟨by rfl, by rintro w' ⟨s0, s1, s2, s3⟩; go_simp; with_reducible rfl⟩) ?_
     refine Pt.pu 4 (some 77) (Pt.bm 14 351) (any_of HT_.out (by kernel_rfl)) ?_
     refine Pt.tk 7 (some 80) (Pt.bm 14 479) rfl rfl (take_ofW HT_.out HW_.out (by kernel_rfl)) hHeld (Or.inl ⟨by rfl, by rintro w' ⟨s0, s1, s2, s3⟩; go_simp; with_reducible rfl⟩) ?_
     refine Pt.tk 9 (some 82) (Pt.bm 14 991) rfl rfl (take_ofW HT_.out HW_.out (by kernel_rfl)) hHeld (Or.inl ⟨by rfl, by rintro w' ⟨s0, s1, s2, s3⟩; go_simp; with_reducible rfl⟩) ?_
     refine Pt.pu 10 (some 83) (Pt.bm 14 2015) (any_of HT_.out (by kernel_rfl)) ?_
     refine one_ (i := 5) (N := some 78) (Pt.bm 14 2047) rfl rfl (one_of HT_.out (by kernel_rfl)) (by decide) (fun K hK => ?_)
     refine goes_ Try.func117 (by kernel_rfl) rfl #[.bool (decide (a1_1 < a2_0))] (by rfl) rfl rfl (by (try simp only [List.map_toArray, List.map_cons, List.map_nil]); first | done | rfl | (simp only [List.length_drop, List.length_take]; rfl)) ?_
     with_reducible refine (impl_bit.calls (decide (a1_1 < a2_0)) t356 _ A50.out).mono ?_
     rintro e w' ⟨rfl, ⟨nd, rfl⟩⟩
     refine ⟨_, rfl, ?_⟩
     refine hK.out _ _ ⟨(blk_cell BK340.out 0).trans rfl, (blk_cell BK340.out 1).trans rfl, (blk_cell BK341.out 0).trans rfl, (blk_cell BK341.out 1).trans rfl⟩ (fun hHeld => ?_)
     clear hK K
     refine norm_ (a' := ?_) ?_ ?_
     rotate_left
     ·show Act.put _ (some 78) _ = _
      simp only [Act.put, List.setIfInBounds_toArray, List.set_cons_zero, List.set_cons_succ, i64_w, i32_w]
      rfl
     refine one_ (i := 11) (N := some 84) (Pt.bm 14 4095) rfl rfl (one_of HT_.out (by kernel_rfl)) (by decide) (fun K hK => ?_)
     refine goes_ Try.func117 (by kernel_rfl) rfl #[.bool (decide (a1_0 < a2_1))] (by rfl) rfl rfl (by (try simp only [List.map_toArray, List.map_cons, List.map_nil]); first | done | rfl | (simp only [List.length_drop, List.length_take]; rfl)) ?_
     with_reducible refine (impl_bit.calls (decide (a1_0 < a2_1)) t357 _ A51.out).mono ?_
     rintro e w' ⟨rfl, ⟨nd, rfl⟩⟩
     refine ⟨_, rfl, ?_⟩
     refine hK.out _ _ ⟨(blk_cell BK340.out 0).trans rfl, (blk_cell BK340.out 1).trans rfl, (blk_cell BK341.out 0).trans rfl, (blk_cell BK341.out 1).trans rfl⟩ (fun hHeld => ?_)
     clear hK K
     refine norm_ (a' := ?_) ?_ ?_
     rotate_left
     ·show Act.put _ (some 84) _ = _
      simp only [Act.put, List.setIfInBounds_toArray, List.set_cons_zero, List.set_cons_succ, i64_w, i32_w]
      rfl
     refine Pt.pu 12 (some 85) (Pt.bm 14 8191) (any_of HT_.out (by kernel_rfl)) ?_
     refine one_ (i := 13) (N := none) (Pt.bm 14 16383) rfl rfl (one_of HT_.out (by kernel_rfl)) (by decide) (fun K hK => ?_)
     have hs56 : w55.cell? ⟨gb342, 0, none⟩ = some (.int .i64 0) := (blk_cell BK342.out 0).trans rfl
     have hfs56 := blk_frozen BK342.out 0
     have hns56_0 := NB340_342.out
     have hns56_1 := NB341_342.out
     have hms56_0 := NB342_340.out
     have hms56_1 := NB342_341.out
     have hs57 : w55.cell? ⟨gb342, 1, none⟩ = some (.int .i64 0) := (blk_cell BK342.out 1).trans rfl
     have hfs57 := blk_frozen BK342.out 1
     have hns57_0 := NB340_342.out
     have hns57_1 := NB341_342.out
     have hms57_0 := NB342_340.out
     have hms57_1 := NB342_341.out
     refine skip_ (w1 := ?_) (by rfl) rfl ?_ ?_
     rotate_left
     ·go_simp
      rfl
     refine hK.out _ _ ⟨((cell_far (p := ⟨gb342, _, none⟩) NB340_342.out _).trans (((cell_far (p := ⟨gb342, _, none⟩) NB340_342.out _).trans (hHeld.1)))), ((cell_far (p := ⟨gb342, _, none⟩) NB340_342.out _).trans (((cell_far (p := ⟨gb342, _, none⟩) NB340_342.out _).trans (hHeld.2.1)))), ((cell_far (p := ⟨gb342, _, none⟩) NB341_342.out _).trans (((cell_far (p := ⟨gb342, _, none⟩) NB341_342.out _).trans (hHeld.2.2.1)))), ((cell_far (p := ⟨gb342, _, none⟩) NB341_342.out _).trans (((cell_far (p := ⟨gb342, _, none⟩) NB341_342.out _).trans (hHeld.2.2.2))))⟩ (fun hHeld => ?_)
     clear hK K
     refine done_ (done_of HT_.out (by kernel_rfl)) ?_
     try go_wp2
     refine bodyPost_ret (results_cell_row rfl _ _ gb342 94 #[.int .i64 t356, .int .i64 t357] (0, 0) _ rfl (by (with_reducible repeat (first | refine blk_drewN ?_ _ | refine blk_drew ?_ | refine blk_alloc ?_ _)); refine blk_put (cs := #[.int .i64 t356, .int .i64 0]) ?_ 1 _ rfl; (with_reducible repeat (first | refine blk_drewN ?_ _ | refine blk_drew ?_ | refine blk_alloc ?_ _)); refine blk_put (cs := #[.int .i64 0, .int .i64 0]) ?_ 0 _ rfl; (with_reducible repeat (first | refine blk_drewN ?_ _ | refine blk_drew ?_ | refine blk_alloc ?_ _)); exact BK342.out) Try.underlying94 rfl (by kernel_rfl)) rfl ?_
     exact ⟨by first | rfl | (simp [errW_none, errW_some] <;> rfl) | (simp [*, errW_none, errW_some] <;> rfl), by repeat (first | (with_reducible first | exact HB.out | apply bwA | apply bwN | apply bwD | refine below_set ?_ GE340.out | refine below_set ?_ GE341.out | refine below_set ?_ GE342.out) | exact HB.out)⟩
    ·rw [if_neg c49] at H
     have c49b0 : (a0 == 5) = false := beq_eq_false_iff_ne.mpr c49
     have c49b1 : (a0 != 5) = true := bne_iff_ne.mpr c49
     by_cases c58 : a0 = 6
     ·rw [if_pos c58] at H
      have c58b0 : (a0 == 6) = true := beq_iff_eq.mpr c58
      have c58b1 : (a0 != 6) = false := bne_eq_false_iff_eq.mpr c58
      clear c58
      by_cases c59 : a1_0 = a1_1
      ·rw [if_pos c59] at H
       have c59b0 : (a1_0 == a1_1) = true := beq_iff_eq.mpr c59
       have c59b1 : (a1_0 != a1_1) = false := bne_eq_false_iff_eq.mpr c59
       clear c59
       replace H := Option.bind_eq_some_iff.mp H
       obtain ⟨t358, A600, H⟩ := H
       replace H : (if a1_0 ≤ a2_1 then ((impl_bit.f (decide (a2_0 ≤ a1_1))).bind fun t359 => (some (t358, t359))) else ((impl_bit.f false).bind fun t360 => (some (t358, t360)))) = some (r1, r2) := H
       have A60 := Aside0.mk A600
       clear A600
       by_cases c61 : a1_0 ≤ a2_1
       ·rw [if_pos c61] at H
        have c61b0 : decide (a1_0 ≤ a2_1) = true := decide_eq_true c61
        clear c61
        replace H := Option.bind_eq_some_iff.mp H
        obtain ⟨t359, A620, H⟩ := H
        replace H : (some (t358, t359)) = some (r1, r2) := H
        have A62 := Aside0.mk A620
        clear A620
        simp only [Option.some.injEq, Prod.mk.injEq] at H
        obtain ⟨rfl, rfl⟩ := H
        go_enter Try.func75, Try.ntmps75
        try go_wp2_with (first | ((with_reducible refine gate_dst (N := 4) rfl ?_); refine box_event ?hg (N := 4) ?hd (cs := #[.int .i64 a1_0, .int .i64 a1_1]) (t := 94) ?hr ?_; (case hd => rfl); (case hg => rfl); (case hr => first | (go_simp; done) | (go_simp; rfl)); intro gb340 hg w63 hbox hb; have n0_ := Aside0.mk (below_step (by repeat (first | (with_reducible first | exact HB.out | apply bwA | apply bwN | apply bwD) | exact HB.out)) hb); have n1_ := Aside0.mk (hbox); have n2_ := Aside0.mk ((by rw [hg]; exact (below_size (by repeat (first | (with_reducible first | exact HB.out | apply bwA | apply bwN | apply bwD) | exact HB.out))) : w.heap.size ≤ gb340)); have n3_ := Aside0.mk ((by rw [hg]; exact (below_size (by repeat (first | (with_reducible first | exact HB.out | apply bwA | apply bwN | apply bwD) | exact HB.out))) : w.heap.size ≤ gb340)); clear HB; have HB := n0_; have BK340 := n1_; have GW340 := n2_; have GE340 := n3_; clear n0_ n1_ n2_ n3_; clear hb hbox hg) | ((with_reducible refine gate_dst (N := 5) rfl ?_); refine box_event ?hg (N := 5) ?hd (cs := #[.int .i64 a2_0, .int .i64 a2_1]) (t := 94) ?hr ?_; (case hd => rfl); (case hg => rfl); (case hr => first | (go_simp; done) | (go_simp; rfl)); intro gb341 hg w64 hbox hb; have n0_ := Aside0.mk (blk_below (g := gb340) (o := .cells #[.int .i64 a1_0, .int .i64 a1_1] 94 (0, 0)) (by (with_reducible repeat (first | refine blk_drewN ?_ _ | refine blk_drew ?_ | refine blk_alloc ?_ _)); exact BK340.out) hb); have n1_ := Aside0.mk (below_step (by repeat (first | (with_reducible first | exact HB.out | apply bwA | apply bwN | apply bwD | refine below_set ?_ GE340.out) | exact HB.out)) hb); have n2_ := Aside0.mk (hbox); have n3_ := Aside0.mk ((by rw [hg]; exact (below_size (by repeat (first | (with_reducible first | exact HB.out | apply bwA | apply bwN | apply bwD | refine below_set ?_ GE340.out) | exact HB.out))) : w.heap.size ≤ gb341)); have n4_ := Aside0.mk ((by rw [hg]; exact (below_size (by repeat (first | (with_reducible first | exact HB.out | apply bwA | apply bwN | apply bwD | refine below_set ?_ GE340.out) | exact HB.out))) : w.heap.size ≤ gb341)); have n5_ := Aside0.mk ((by rw [hg]; exact Nat.ne_of_lt (blk_lt (g := gb340) (o := .cells #[.int .i64 a1_0, .int .i64 a1_1] 94 (0, 0)) (by (with_reducible repeat (first | refine blk_drewN ?_ _ | refine blk_drew ?_ | refine blk_alloc ?_ _)); exact BK340.out)) : gb340 ≠ gb341)); have n6_ := Aside0.mk ((by rw [hg]; exact Nat.ne_of_gt (blk_lt (g := gb340) (o := .cells #[.int .i64 a1_0, .int .i64 a1_1] 94 (0, 0)) (by (with_reducible repeat (first | refine blk_drewN ?_ _ | refine blk_drew ?_ | refine blk_alloc ?_ _)); exact BK340.out)) : gb341 ≠ gb340)); clear BK340; clear HB; have BK340 := n0_; have HB := n1_; have BK341 := n2_; have GW341 := n3_; have GE341 := n4_; have NB340_341 := n5_; have NB341_340 := n6_; clear n0_ n1_ n2_ n3_ n4_ n5_ n6_; clear hb hbox hg) | ((with_reducible refine gate_dst (N := 6) rfl ?_); refine box_event ?hg (N := 6) ?hd (cs := #[.int .i64 0, .int .i64 0]) (t := 94) ?hr ?_; (case hd => rfl); (case hg => rfl); (case hr => first | (go_simp; done) | (go_simp; rfl)); intro gb342 hg w65 hbox hb; have n0_ := Aside0.mk (blk_below (g := gb340) (o := .cells #[.int .i64 a1_0, .int .i64 a1_1] 94 (0, 0)) (by (with_reducible repeat (first | refine blk_drewN ?_ _ | refine blk_drew ?_ | refine blk_alloc ?_ _)); exact BK340.out) hb); have n1_ := Aside0.mk (blk_below (g := gb341) (o := .cells #[.int .i64 a2_0, .int .i64 a2_1] 94 (0, 0)) (by (with_reducible repeat (first | refine blk_drewN ?_ _ | refine blk_drew ?_ | refine blk_alloc ?_ _)); exact BK341.out) hb); have n2_ := Aside0.mk (below_step (by repeat (first | (with_reducible first | exact HB.out | apply bwA | apply bwN | apply bwD | refine below_set ?_ GE340.out | refine below_set ?_ GE341.out) | exact HB.out)) hb); have n3_ := Aside0.mk (hbox); have n4_ := Aside0.mk ((by rw [hg]; exact (below_size (by repeat (first | (with_reducible first | exact HB.out | apply bwA | apply bwN | apply bwD | refine below_set ?_ GE340.out | refine below_set ?_ GE341.out) | exact HB.out))) : w.heap.size ≤ gb342)); have n5_ := Aside0.mk ((by rw [hg]; exact (below_size (by repeat (first | (with_reducible first | exact HB.out | apply bwA | apply bwN | apply bwD | refine below_set ?_ GE340.out | refine below_set ?_ GE341.out) | exact HB.out))) : w.heap.size ≤ gb342)); have n6_ := Aside0.mk ((by rw [hg]; exact Nat.ne_of_lt (blk_lt (g := gb340) (o := .cells #[.int .i64 a1_0, .int .i64 a1_1] 94 (0, 0)) (by (with_reducible repeat (first | refine blk_drewN ?_ _ | refine blk_drew ?_ | refine blk_alloc ?_ _)); exact BK340.out)) : gb340 ≠ gb342)); have n7_ := Aside0.mk ((by rw [hg]; exact Nat.ne_of_gt (blk_lt (g := gb340) (o := .cells #[.int .i64 a1_0, .int .i64 a1_1] 94 (0, 0)) (by (with_reducible repeat (first | refine blk_drewN ?_ _ | refine blk_drew ?_ | refine blk_alloc ?_ _)); exact BK340.out)) : gb342 ≠ gb340)); have n8_ := Aside0.mk ((by rw [hg]; exact Nat.ne_of_lt (blk_lt (g := gb341) (o := .cells #[.int .i64 a2_0, .int .i64 a2_1] 94 (0, 0)) (by (with_reducible repeat (first | refine blk_drewN ?_ _ | refine blk_drew ?_ | refine blk_alloc ?_ _)); exact BK341.out)) : gb341 ≠ gb342)); have n9_ := Aside0.mk ((by rw [hg]; exact Nat.ne_of_gt (blk_lt (g := gb341) (o := .cells #[.int .i64 a2_0, .int .i64 a2_1] 94 (0, 0)) (by (with_reducible repeat (first | refine blk_drewN ?_ _ | refine blk_drew ?_ | refine blk_alloc ?_ _)); exact BK341.out)) : gb342 ≠ gb341)); clear BK340; clear BK341; clear HB; have BK340 := n0_; have BK341 := n1_; have HB := n2_; have BK342 := n3_; have GW342 := n4_; have GE342 := n5_; have NB340_342 := n6_; have NB342_340 := n7_; have NB341_342 := n8_; have NB342_341 := n9_; clear n0_ n1_ n2_ n3_ n4_ n5_ n6_ n7_ n8_ n9_; clear hb hbox hg))
        have n0_ := Aside0.mk (blk_drew BK340.out)
        have n1_ := Aside0.mk (blk_drew BK341.out)
        have n2_ := Aside0.mk (blk_drew BK342.out)
        have n3_ := Aside0.mk (below_drew1 HB.out)
        clear BK340
        clear BK341
        clear BK342
        clear HB
        have BK340 := n0_
        have BK341 := n1_
        have BK342 := n2_
        have HB := n3_
        clear n0_ n1_ n2_ n3_
        refine start_ (n := 26) (S := fun w' => w'.cell? ⟨gb340, 0, none⟩ = some (.int .i64 a1_0) ∧ w'.cell? ⟨gb340, 1, none⟩ = some (.int .i64 a1_1) ∧ w'.cell? ⟨gb341, 0, none⟩ = some (.int .i64 a2_0) ∧ w'.cell? ⟨gb341, 1, none⟩ = some (.int .i64 a2_1)) (ds := []) (Pt.bm 26 0) (by kernel_rfl) rfl rfl ⟨(blk_cell BK340.out 0).trans rfl, (blk_cell BK340.out 1).trans rfl, (blk_cell BK341.out 0).trans rfl, (blk_cell BK341.out 1).trans rfl⟩ (fun hHeld => ?_); refine with_tabW impl_spanOf.tab12 impl_spanOf.bits12 (fun HT_ HW_ => ?_)
        generalize w65.drew = w66 at BK340 BK341 BK342 HB hHeld ⊢
        refine Pt.pu 0 (some 88) (Pt.bm 26 1) (any_of HT_.out (by kernel_rfl)) ?_
        refine Pt.pu 2 (some 90) (Pt.bm 26 5) (any_of HT_.out (by kernel_rfl)) ?_
        refine Pt.pu 11 (some 99) (Pt.bm 26 2053) (any_of HT_.out (by kernel_rfl)) ?_
        refine Pt.pu 13 (some 101) (Pt.bm 26 10245) (any_of HT_.out (by kernel_rfl)) ?_
        refine Pt.tk 1 (some 89) (Pt.bm 26 10247) rfl rfl (take_ofW HT_.out HW_.out (by kernel_rfl)) hHeld (Or.inl ⟨by rfl, by rintro w' ⟨s0, s1, s2, s3⟩; go_simp; with_reducible rfl⟩) ?_
        refine Pt.tk 3 (some 91) (Pt.bm 26 10255) rfl rfl (take_ofW HT_.out HW_.out (by kernel_rfl)) hHeld (Or.inl ⟨by rfl, by rintro w' ⟨s0, s1, s2, s3⟩; go_simp; with_reducible rfl⟩) ?_
        refine Pt.pu 4 (some 92) (Pt.bm 26 10271) (any_of HT_.out (by kernel_rfl)) ?_
        refine Pt.pu 5 (some 93) (Pt.bm 26 10303) (any_of HT_.out (by kernel_rfl)) ?_
        refine Pt.tk 6 (some 94) (Pt.bm 26 10367) rfl rfl (take_ofW HT_.out HW_.out (by kernel_rfl)) hHeld (Or.inl ⟨by rfl, by rintro w' ⟨s0, s1, s2, s3⟩; go_simp; with_reducible rfl⟩) ?_
        refine Pt.tk 7 (some 95) (Pt.bm 26 10495) rfl rfl (take_ofW HT_.out HW_.out (by kernel_rfl)) hHeld (Or.inl ⟨by rfl, by rintro w' ⟨s0, s1, s2, s3⟩; go_simp; with_reducible rfl⟩) ?_
        refine Pt.pu 8 (some 96) (Pt.bm 26 10751) (any_of HT_.out (by kernel_rfl)) ?_
        refine Pt.pu 9 (some 97) (Pt.bm 26 11263) (any_of HT_.out (by kernel_rfl)) ?_
        refine Pt.tk 12 (some 100) (Pt.bm 26 15359) rfl rfl (take_ofW HT_.out HW_.out (by kernel_rfl)) hHeld (Or.inl ⟨by rfl, by rintro w' ⟨s0, s1, s2, s3⟩; go_simp; with_reducible rfl⟩) ?_
        refine Pt.tk 14 (some 102) (Pt.bm 26 31743) rfl rfl (take_ofW HT_.out HW_.out (by kernel_rfl)) hHeld (Or.inl ⟨by rfl, by rintro w' ⟨s0, s1, s2, s3⟩; go_simp; with_reducible rfl⟩) ?_
        refine Pt.pu 15 (some 103) (Pt.bm 26 64511) (any_of HT_.out (by kernel_rfl)) ?_
        refine one_ (i := 10) (N := some 98) (Pt.bm 26 65535) rfl rfl (one_of HT_.out (by kernel_rfl)) (by decide) (fun K hK => ?_)
        refine goes_ Try.func117 (by kernel_rfl) rfl #[.bool (a1_0 == a2_0 && (a1_1 == a2_1))] (by rfl) rfl rfl (by (try simp only [List.map_toArray, List.map_cons, List.map_nil]); first | done | rfl | (simp only [List.length_drop, List.length_take]; rfl)) ?_
        with_reducible refine (impl_bit.calls (a1_0 == a2_0 && (a1_1 == a2_1)) t358 _ A60.out).mono ?_
        rintro e w' ⟨rfl, ⟨nd, rfl⟩⟩
        refine ⟨_, rfl, ?_⟩
        refine hK.out _ _ ⟨(blk_cell BK340.out 0).trans rfl, (blk_cell BK340.out 1).trans rfl, (blk_cell BK341.out 0).trans rfl, (blk_cell BK341.out 1).trans rfl⟩ (fun hHeld => ?_)
        clear hK K
        refine norm_ (a' := ?_) ?_ ?_
        rotate_left
        ·show Act.put _ (some 98) _ = _
         simp only [Act.put, List.setIfInBounds_toArray, List.set_cons_zero, List.set_cons_succ, i64_w, i32_w]
         rfl
        refine Pt.pu 16 (some 104) (Pt.bm 26 131071) (any_of HT_.out (by kernel_rfl)) ?_
        refine Pt.pu 17 (some 105) (Pt.bm 26 262143) (any_of HT_.out (by kernel_rfl)) ?_
        refine Pt.pu 19 (some 107) (Pt.bm 26 786431) (any_of HT_.out (by kernel_rfl)) ?_
        refine Pt.tk 18 (some 106) (Pt.bm 26 1048575) rfl rfl (take_ofW HT_.out HW_.out (by kernel_rfl)) hHeld (Or.inl ⟨by rfl, by rintro w' ⟨s0, s1, s2, s3⟩; go_simp; with_reducible rfl⟩) ?_
        refine Pt.tk 20 (some 108) (Pt.bm 26 2097151) rfl rfl (take_ofW HT_.out HW_.out (by kernel_rfl)) hHeld (Or.inl ⟨by rfl, by rintro w' ⟨s0, s1, s2, s3⟩; go_simp; with_reducible rfl⟩) ?_
        refine Pt.pu 21 (some 109) (Pt.bm 26 4194303) (any_of HT_.out (by kernel_rfl)) ?_
        refine Pt.pu 22 (some 110) (Pt.bm 26 8388607) (any_of HT_.out (by kernel_rfl)) ?_
        refine one_ (i := 23) (N := some 111) (Pt.bm 26 16777215) rfl rfl (one_of HT_.out (by kernel_rfl)) (by decide) (fun K hK => ?_)
        refine goes_ Try.func117 (by kernel_rfl) rfl #[.bool (decide (a2_0 ≤ a1_1))] (by rfl) rfl rfl (by (try simp only [List.map_toArray, List.map_cons, List.map_nil]); first | done | rfl | (simp only [List.length_drop, List.length_take]; rfl)) ?_
        with_reducible refine (impl_bit.calls (decide (a2_0 ≤ a1_1)) t359 _ A62.out).mono ?_
        rintro e w' ⟨rfl, ⟨nd, rfl⟩⟩
        refine ⟨_, rfl, ?_⟩
        refine hK.out _ _ ⟨(blk_cell BK340.out 0).trans rfl, (blk_cell BK340.out 1).trans rfl, (blk_cell BK341.out 0).trans rfl, (blk_cell BK341.out 1).trans rfl⟩ (fun hHeld => ?_)
        clear hK K
        refine norm_ (a' := ?_) ?_ ?_
        rotate_left
        ·show Act.put _ (some 111) _ = _
         simp only [Act.put, List.setIfInBounds_toArray, List.set_cons_zero, List.set_cons_succ, i64_w, i32_w]
         rfl
        refine Pt.pu 24 (some 112) (Pt.bm 26 33554431) (any_of HT_.out (by kernel_rfl)) ?_
        refine one_ (i := 25) (N := none) (Pt.bm 26 67108863) rfl rfl (one_of HT_.out (by kernel_rfl)) (by decide) (fun K hK => ?_)
        have hs67 : w66.cell? ⟨gb342, 0, none⟩ = some (.int .i64 0) := (blk_cell BK342.out 0).trans rfl
        have hfs67 := blk_frozen BK342.out 0
        have hns67_0 := NB340_342.out
        have hns67_1 := NB341_342.out
        have hms67_0 := NB342_340.out
        have hms67_1 := NB342_341.out
        have hs68 : w66.cell? ⟨gb342, 1, none⟩ = some (.int .i64 0) := (blk_cell BK342.out 1).trans rfl
        have hfs68 := blk_frozen BK342.out 1
        have hns68_0 := NB340_342.out
        have hns68_1 := NB341_342.out
        have hms68_0 := NB342_340.out
        have hms68_1 := NB342_341.out
        refine skip_ (w1 := ?_) (by rfl) rfl ?_ ?_
        rotate_left
        ·go_simp
         rfl
        refine hK.out _ _ ⟨((cell_far (p := ⟨gb342, _, none⟩) NB340_342.out _).trans (((cell_far (p := ⟨gb342, _, none⟩) NB340_342.out _).trans (hHeld.1)))), ((cell_far (p := ⟨gb342, _, none⟩) NB340_342.out _).trans (((cell_far (p := ⟨gb342, _, none⟩) NB340_342.out _).trans (hHeld.2.1)))), ((cell_far (p := ⟨gb342, _, none⟩) NB341_342.out _).trans (((cell_far (p := ⟨gb342, _, none⟩) NB341_342.out _).trans (hHeld.2.2.1)))), ((cell_far (p := ⟨gb342, _, none⟩) NB341_342.out _).trans (((cell_far (p := ⟨gb342, _, none⟩) NB341_342.out _).trans (hHeld.2.2.2))))⟩ (fun hHeld => ?_)
        clear hK K
        refine done_ (done_of HT_.out (by kernel_rfl)) ?_
        try go_wp2
        refine bodyPost_ret (results_cell_row rfl _ _ gb342 94 #[.int .i64 t358, .int .i64 t359] (0, 0) _ rfl (by (with_reducible repeat (first | refine blk_drewN ?_ _ | refine blk_drew ?_ | refine blk_alloc ?_ _)); refine blk_put (cs := #[.int .i64 t358, .int .i64 0]) ?_ 1 _ rfl; (with_reducible repeat (first | refine blk_drewN ?_ _ | refine blk_drew ?_ | refine blk_alloc ?_ _)); refine blk_put (cs := #[.int .i64 0, .int .i64 0]) ?_ 0 _ rfl; (with_reducible repeat (first | refine blk_drewN ?_ _ | refine blk_drew ?_ | refine blk_alloc ?_ _)); exact BK342.out) Try.underlying94 rfl (by kernel_rfl)) rfl ?_
        exact ⟨by first | rfl | (simp [errW_none, errW_some] <;> rfl) | (simp [*, errW_none, errW_some] <;> rfl), by repeat (first | (with_reducible first | exact HB.out | apply bwA | apply bwN | apply bwD | refine below_set ?_ GE340.out | refine below_set ?_ GE341.out | refine below_set ?_ GE342.out) | exact HB.out)⟩
       ·rw [if_neg c61] at H
        have c61b0 : decide (a1_0 ≤ a2_1) = false := decide_eq_false c61
        clear c61
        replace H := Option.bind_eq_some_iff.mp H
        obtain ⟨t360, A690, H⟩ := H
        replace H : (some (t358, t360)) = some (r1, r2) := H
        have A69 := Aside0.mk A690
        clear A690
        simp only [Option.some.injEq, Prod.mk.injEq] at H
        obtain ⟨rfl, rfl⟩ := H
        go_enter Try.func75, Try.ntmps75
        try go_wp2_with (first | ((with_reducible refine gate_dst (N := 4) rfl ?_); refine box_event ?hg (N := 4) ?hd (cs := #[.int .i64 a1_0, .int .i64 a1_1]) (t := 94) ?hr ?_; (case hd => rfl); (case hg => rfl); (case hr => first | (go_simp; done) | (go_simp; rfl)); intro gb340 hg w70 hbox hb; have n0_ := Aside0.mk (below_step (by repeat (first | (with_reducible first | exact HB.out | apply bwA | apply bwN | apply bwD) | exact HB.out)) hb); have n1_ := Aside0.mk (hbox); have n2_ := Aside0.mk ((by rw [hg]; exact (below_size (by repeat (first | (with_reducible first | exact HB.out | apply bwA | apply bwN | apply bwD) | exact HB.out))) : w.heap.size ≤ gb340)); have n3_ := Aside0.mk ((by rw [hg]; exact (below_size (by repeat (first | (with_reducible first | exact HB.out | apply bwA | apply bwN | apply bwD) | exact HB.out))) : w.heap.size ≤ gb340)); clear HB; have HB := n0_; have BK340 := n1_; have GW340 := n2_; have GE340 := n3_; clear n0_ n1_ n2_ n3_; clear hb hbox hg) | ((with_reducible refine gate_dst (N := 5) rfl ?_); refine box_event ?hg (N := 5) ?hd (cs := #[.int .i64 a2_0, .int .i64 a2_1]) (t := 94) ?hr ?_; (case hd => rfl); (case hg => rfl); (case hr => first | (go_simp; done) | (go_simp; rfl)); intro gb341 hg w71 hbox hb; have n0_ := Aside0.mk (blk_below (g := gb340) (o := .cells #[.int .i64 a1_0, .int .i64 a1_1] 94 (0, 0)) (by (with_reducible repeat (first | refine blk_drewN ?_ _ | refine blk_drew ?_ | refine blk_alloc ?_ _)); exact BK340.out) hb); have n1_ := Aside0.mk (below_step (by repeat (first | (with_reducible first | exact HB.out | apply bwA | apply bwN | apply bwD | refine below_set ?_ GE340.out) | exact HB.out)) hb); have n2_ := Aside0.mk (hbox); have n3_ := Aside0.mk ((by rw [hg]; exact (below_size (by repeat (first | (with_reducible first | exact HB.out | apply bwA | apply bwN | apply bwD | refine below_set ?_ GE340.out) | exact HB.out))) : w.heap.size ≤ gb341)); have n4_ := Aside0.mk ((by rw [hg]; exact (below_size (by repeat (first | (with_reducible first | exact HB.out | apply bwA | apply bwN | apply bwD | refine below_set ?_ GE340.out) | exact HB.out))) : w.heap.size ≤ gb341)); have n5_ := Aside0.mk ((by rw [hg]; exact Nat.ne_of_lt (blk_lt (g := gb340) (o := .cells #[.int .i64 a1_0, .int .i64 a1_1] 94 (0, 0)) (by (with_reducible repeat (first | refine blk_drewN ?_ _ | refine blk_drew ?_ | refine blk_alloc ?_ _)); exact BK340.out)) : gb340 ≠ gb341)); have n6_ := Aside0.mk ((by rw [hg]; exact Nat.ne_of_gt (blk_lt (g := gb340) (o := .cells #[.int .i64 a1_0, .int .i64 a1_1] 94 (0, 0)) (by (with_reducible repeat (first | refine blk_drewN ?_ _ | refine blk_drew ?_ | refine blk_alloc ?_ _)); exact BK340.out)) : gb341 ≠ gb340)); clear BK340; clear HB; have BK340 := n0_; have HB := n1_; have BK341 := n2_; have GW341 := n3_; have GE341 := n4_; have NB340_341 := n5_; have NB341_340 := n6_; clear n0_ n1_ n2_ n3_ n4_ n5_ n6_; clear hb hbox hg) | ((with_reducible refine gate_dst (N := 6) rfl ?_); refine box_event ?hg (N := 6) ?hd (cs := #[.int .i64 0, .int .i64 0]) (t := 94) ?hr ?_; (case hd => rfl); (case hg => rfl); (case hr => first | (go_simp; done) | (go_simp; rfl)); intro gb342 hg w72 hbox hb; have n0_ := Aside0.mk (blk_below (g := gb340) (o := .cells #[.int .i64 a1_0, .int .i64 a1_1] 94 (0, 0)) (by (with_reducible repeat (first | refine blk_drewN ?_ _ | refine blk_drew ?_ | refine blk_alloc ?_ _)); exact BK340.out) hb); have n1_ := Aside0.mk (blk_below (g := gb341) (o := .cells #[.int .i64 a2_0, .int .i64 a2_1] 94 (0, 0)) (by (with_reducible repeat (first | refine blk_drewN ?_ _ | refine blk_drew ?_ | refine blk_alloc ?_ _)); exact BK341.out) hb); have n2_ := Aside0.mk (below_step (by repeat (first | (with_reducible first | exact HB.out | apply bwA | apply bwN | apply bwD | refine below_set ?_ GE340.out | refine below_set ?_ GE341.out) | exact HB.out)) hb); have n3_ := Aside0.mk (hbox); have n4_ := Aside0.mk ((by rw [hg]; exact (below_size (by repeat (first | (with_reducible first | exact HB.out | apply bwA | apply bwN | apply bwD | refine below_set ?_ GE340.out | refine below_set ?_ GE341.out) | exact HB.out))) : w.heap.size ≤ gb342)); have n5_ := Aside0.mk ((by rw [hg]; exact (below_size (by repeat (first | (with_reducible first | exact HB.out | apply bwA | apply bwN | apply bwD | refine below_set ?_ GE340.out | refine below_set ?_ GE341.out) | exact HB.out))) : w.heap.size ≤ gb342)); have n6_ := Aside0.mk ((by rw [hg]; exact Nat.ne_of_lt (blk_lt (g := gb340) (o := .cells #[.int .i64 a1_0, .int .i64 a1_1] 94 (0, 0)) (by (with_reducible repeat (first | refine blk_drewN ?_ _ | refine blk_drew ?_ | refine blk_alloc ?_ _)); exact BK340.out)) : gb340 ≠ gb342)); have n7_ := Aside0.mk ((by rw [hg]; exact Nat.ne_of_gt (blk_lt (g := gb340) (o := .cells #[.int .i64 a1_0, .int .i64 a1_1] 94 (0, 0)) (by (with_reducible repeat (first | refine blk_drewN ?_ _ | refine blk_drew ?_ | refine blk_alloc ?_ _)); exact BK340.out)) : gb342 ≠ gb340)); have n8_ := Aside0.mk ((by rw [hg]; exact Nat.ne_of_lt (blk_lt (g := gb341) (o := .cells #[.int .i64 a2_0, .int .i64 a2_1] 94 (0, 0)) (by (with_reducible repeat (first | refine blk_drewN ?_ _ | refine blk_drew ?_ | refine blk_alloc ?_ _)); exact BK341.out)) : gb341 ≠ gb342)); have n9_ := Aside0.mk ((by rw [hg]; exact Nat.ne_of_gt (blk_lt (g := gb341) (o := .cells #[.int .i64 a2_0, .int .i64 a2_1] 94 (0, 0)) (by (with_reducible repeat (first | refine blk_drewN ?_ _ | refine blk_drew ?_ | refine blk_alloc ?_ _)); exact BK341.out)) : gb342 ≠ gb341)); clear BK340; clear BK341; clear HB; have BK340 := n0_; have BK341 := n1_; have HB := n2_; have BK342 := n3_; have GW342 := n4_; have GE342 := n5_; have NB340_342 := n6_; have NB342_340 := n7_; have NB341_342 := n8_; have NB342_341 := n9_; clear n0_ n1_ n2_ n3_ n4_ n5_ n6_ n7_ n8_ n9_; clear hb hbox hg))
        have n0_ := Aside0.mk (blk_drew BK340.out)
        have n1_ := Aside0.mk (blk_drew BK341.out)
        have n2_ := Aside0.mk (blk_drew BK342.out)
        have n3_ := Aside0.mk (below_drew1 HB.out)
        clear BK340
        clear BK341
        clear BK342
        clear HB
        have BK340 := n0_
        have BK341 := n1_
        have BK342 := n2_
        have HB := n3_
        clear n0_ n1_ n2_ n3_
        refine start_ (n := 26) (S := fun w' => w'.cell? ⟨gb340, 0, none⟩ = some (.int .i64 a1_0) ∧ w'.cell? ⟨gb340, 1, none⟩ = some (.int .i64 a1_1) ∧ w'.cell? ⟨gb341, 0, none⟩ = some (.int .i64 a2_0) ∧ w'.cell? ⟨gb341, 1, none⟩ = some (.int .i64 a2_1)) (ds := []) (Pt.bm 26 0) (by kernel_rfl) rfl rfl ⟨(blk_cell BK340.out 0).trans rfl, (blk_cell BK340.out 1).trans rfl, (blk_cell BK341.out 0).trans rfl, (blk_cell BK341.out 1).trans rfl⟩ (fun hHeld => ?_); refine with_tabW impl_spanOf.tab12 impl_spanOf.bits12 (fun HT_ HW_ => ?_)
        generalize w72.drew = w73 at BK340 BK341 BK342 HB hHeld ⊢
        refine Pt.pu 0 (some 88) (Pt.bm 26 1) (any_of HT_.out (by kernel_rfl)) ?_
        refine Pt.pu 2 (some 90) (Pt.bm 26 5) (any_of HT_.out (by kernel_rfl)) ?_
        refine Pt.pu 11 (some 99) (Pt.bm 26 2053) (any_of HT_.out (by kernel_rfl)) ?_
        refine Pt.pu 13 (some 101) (Pt.bm 26 10245) (any_of HT_.out (by kernel_rfl)) ?_
        refine Pt.tk 1 (some 89) (Pt.bm 26 10247) rfl rfl (take_ofW HT_.out HW_.out (by kernel_rfl)) hHeld (Or.inl ⟨by rfl, by rintro w' ⟨s0, s1, s2, s3⟩; go_simp; with_reducible rfl⟩) ?_
        refine Pt.tk 3 (some 91) (Pt.bm 26 10255) rfl rfl (take_ofW HT_.out HW_.out (by kernel_rfl)) hHeld (Or.inl ⟨by rfl, by rintro w' ⟨s0, s1, s2, s3⟩; go_simp; with_reducible rfl⟩) ?_
        refine Pt.pu 4 (some 92) (Pt.bm 26 10271) (any_of HT_.out (by kernel_rfl)) ?_
        refine Pt.pu 5 (some 93) (Pt.bm 26 10303) (any_of HT_.out (by kernel_rfl)) ?_
        refine Pt.tk 6 (some 94) (Pt.bm 26 10367) rfl rfl (take_ofW HT_.out HW_.out (by kernel_rfl)) hHeld (Or.inl ⟨by rfl, by rintro w' ⟨s0, s1, s2, s3⟩; go_simp; with_reducible rfl⟩) ?_
        refine Pt.tk 7 (some 95) (Pt.bm 26 10495) rfl rfl (take_ofW HT_.out HW_.out (by kernel_rfl)) hHeld (Or.inl ⟨by rfl, by rintro w' ⟨s0, s1, s2, s3⟩; go_simp; with_reducible rfl⟩) ?_
        refine Pt.pu 8 (some 96) (Pt.bm 26 10751) (any_of HT_.out (by kernel_rfl)) ?_
        refine Pt.pu 9 (some 97) (Pt.bm 26 11263) (any_of HT_.out (by kernel_rfl)) ?_
        refine Pt.tk 12 (some 100) (Pt.bm 26 15359) rfl rfl (take_ofW HT_.out HW_.out (by kernel_rfl)) hHeld (Or.inl ⟨by rfl, by rintro w' ⟨s0, s1, s2, s3⟩; go_simp; with_reducible rfl⟩) ?_
        refine Pt.tk 14 (some 102) (Pt.bm 26 31743) rfl rfl (take_ofW HT_.out HW_.out (by kernel_rfl)) hHeld (Or.inl ⟨by rfl, by rintro w' ⟨s0, s1, s2, s3⟩; go_simp; with_reducible rfl⟩) ?_
        refine Pt.pu 15 (some 103) (Pt.bm 26 64511) (any_of HT_.out (by kernel_rfl)) ?_
        refine one_ (i := 10) (N := some 98) (Pt.bm 26 65535) rfl rfl (one_of HT_.out (by kernel_rfl)) (by decide) (fun K hK => ?_)
        refine goes_ Try.func117 (by kernel_rfl) rfl #[.bool (a1_0 == a2_0 && (a1_1 == a2_1))] (by rfl) rfl rfl (by (try simp only [List.map_toArray, List.map_cons, List.map_nil]); first | done | rfl | (simp only [List.length_drop, List.length_take]; rfl)) ?_
        with_reducible refine (impl_bit.calls (a1_0 == a2_0 && (a1_1 == a2_1)) t358 _ A60.out).mono ?_
        rintro e w' ⟨rfl, ⟨nd, rfl⟩⟩
        refine ⟨_, rfl, ?_⟩
        refine hK.out _ _ ⟨(blk_cell BK340.out 0).trans rfl, (blk_cell BK340.out 1).trans rfl, (blk_cell BK341.out 0).trans rfl, (blk_cell BK341.out 1).trans rfl⟩ (fun hHeld => ?_)
        clear hK K
        refine norm_ (a' := ?_) ?_ ?_
        rotate_left
        ·show Act.put _ (some 98) _ = _
         simp only [Act.put, List.setIfInBounds_toArray, List.set_cons_zero, List.set_cons_succ, i64_w, i32_w]
         rfl
        refine Pt.pu 16 (some 104) (Pt.bm 26 131071) (any_of HT_.out (by kernel_rfl)) ?_
        refine Pt.pn 17 (some 105) (Pt.bm 26 262143) (any_of HT_.out (by kernel_rfl)) ?_
        refine Pt.pn 18 (some 106) (Pt.bm 26 524287) (any_of HT_.out (by kernel_rfl)) ?_
        refine Pt.pn 19 (some 107) (Pt.bm 26 1048575) (any_of HT_.out (by kernel_rfl)) ?_
        refine Pt.pn 20 (some 108) (Pt.bm 26 2097151) (any_of HT_.out (by kernel_rfl)) ?_
        refine Pt.pn 21 (some 109) (Pt.bm 26 4194303) (any_of HT_.out (by kernel_rfl)) ?_
        refine Pt.pu 22 (some 110) (Pt.bm 26 8388607) (any_of HT_.out (by kernel_rfl)) ?_
        refine one_ (i := 23) (N := some 111) (Pt.bm 26 16777215) rfl rfl (one_of HT_.out (by kernel_rfl)) (by decide) (fun K hK => ?_)
        refine goes_ Try.func117 (by kernel_rfl) rfl #[.bool false] (by rfl) rfl rfl (by (try simp only [List.map_toArray, List.map_cons, List.map_nil]); first | done | rfl | (simp only [List.length_drop, List.length_take]; rfl)) ?_
        with_reducible refine (impl_bit.calls false t360 _ A69.out).mono ?_
        rintro e w' ⟨rfl, ⟨nd, rfl⟩⟩
        refine ⟨_, rfl, ?_⟩
        refine hK.out _ _ ⟨(blk_cell BK340.out 0).trans rfl, (blk_cell BK340.out 1).trans rfl, (blk_cell BK341.out 0).trans rfl, (blk_cell BK341.out 1).trans rfl⟩ (fun hHeld => ?_)
        clear hK K
        refine norm_ (a' := ?_) ?_ ?_
        rotate_left
        ·show Act.put _ (some 111) _ = _
         simp only [Act.put, List.setIfInBounds_toArray, List.set_cons_zero, List.set_cons_succ, i64_w, i32_w]
         rfl
        refine Pt.pu 24 (some 112) (Pt.bm 26 33554431) (any_of HT_.out (by kernel_rfl)) ?_
        refine one_ (i := 25) (N := none) (Pt.bm 26 67108863) rfl rfl (one_of HT_.out (by kernel_rfl)) (by decide) (fun K hK => ?_)
        have hs74 : w73.cell? ⟨gb342, 0, none⟩ = some (.int .i64 0) := (blk_cell BK342.out 0).trans rfl
        have hfs74 := blk_frozen BK342.out 0
        have hns74_0 := NB340_342.out
        have hns74_1 := NB341_342.out
        have hms74_0 := NB342_340.out
        have hms74_1 := NB342_341.out
        have hs75 : w73.cell? ⟨gb342, 1, none⟩ = some (.int .i64 0) := (blk_cell BK342.out 1).trans rfl
        have hfs75 := blk_frozen BK342.out 1
        have hns75_0 := NB340_342.out
        have hns75_1 := NB341_342.out
        have hms75_0 := NB342_340.out
        have hms75_1 := NB342_341.out
        refine skip_ (w1 := ?_) (by rfl) rfl ?_ ?_
        rotate_left
        ·go_simp
         rfl
        refine hK.out _ _ ⟨((cell_far (p := ⟨gb342, _, none⟩) NB340_342.out _).trans (((cell_far (p := ⟨gb342, _, none⟩) NB340_342.out _).trans (hHeld.1)))), ((cell_far (p := ⟨gb342, _, none⟩) NB340_342.out _).trans (((cell_far (p := ⟨gb342, _, none⟩) NB340_342.out _).trans (hHeld.2.1)))), ((cell_far (p := ⟨gb342, _, none⟩) NB341_342.out _).trans (((cell_far (p := ⟨gb342, _, none⟩) NB341_342.out _).trans (hHeld.2.2.1)))), ((cell_far (p := ⟨gb342, _, none⟩) NB341_342.out _).trans (((cell_far (p := ⟨gb342, _, none⟩) NB341_342.out _).trans (hHeld.2.2.2))))⟩ (fun hHeld => ?_)
        clear hK K
        refine done_ (done_of HT_.out (by kernel_rfl)) ?_
        try go_wp2
        refine bodyPost_ret (results_cell_row rfl _ _ gb342 94 #[.int .i64 t358, .int .i64 t360] (0, 0) _ rfl (by (with_reducible repeat (first | refine blk_drewN ?_ _ | refine blk_drew ?_ | refine blk_alloc ?_ _)); refine blk_put (cs := #[.int .i64 t358, .int .i64 0]) ?_ 1 _ rfl; (with_reducible repeat (first | refine blk_drewN ?_ _ | refine blk_drew ?_ | refine blk_alloc ?_ _)); refine blk_put (cs := #[.int .i64 0, .int .i64 0]) ?_ 0 _ rfl; (with_reducible repeat (first | refine blk_drewN ?_ _ | refine blk_drew ?_ | refine blk_alloc ?_ _)); exact BK342.out) Try.underlying94 rfl (by kernel_rfl)) rfl ?_
        exact ⟨by first | rfl | (simp [errW_none, errW_some] <;> rfl) | (simp [*, errW_none, errW_some] <;> rfl), by repeat (first | (with_reducible first | exact HB.out | apply bwA | apply bwN | apply bwD | refine below_set ?_ GE340.out | refine below_set ?_ GE341.out | refine below_set ?_ GE342.out) | exact HB.out)⟩
      ·rw [if_neg c59] at H
       have c59b0 : (a1_0 == a1_1) = false := beq_eq_false_iff_ne.mpr c59
       have c59b1 : (a1_0 != a1_1) = true := bne_iff_ne.mpr c59
       replace H := Option.bind_eq_some_iff.mp H
       obtain ⟨t361, A760, H⟩ := H
       replace H : (if a1_0 ≤ a2_1 then ((impl_bit.f (decide (a2_0 ≤ a1_1))).bind fun t362 => (some (t361, t362))) else ((impl_bit.f false).bind fun t363 => (some (t361, t363)))) = some (r1, r2) := H
       have A76 := Aside0.mk A760
       clear A760
       by_cases c77 : a1_0 ≤ a2_1
       ·rw [if_pos c77] at H
        have c77b0 : decide (a1_0 ≤ a2_1) = true := decide_eq_true c77
        clear c77
        replace H := Option.bind_eq_some_iff.mp H
        obtain ⟨t362, A780, H⟩ := H
        replace H : (some (t361, t362)) = some (r1, r2) := H
        have A78 := Aside0.mk A780
        clear A780
        simp only [Option.some.injEq, Prod.mk.injEq] at H
        obtain ⟨rfl, rfl⟩ := H
        go_enter Try.func75, Try.ntmps75
        try go_wp2_with (first | ((with_reducible refine gate_dst (N := 4) rfl ?_); refine box_event ?hg (N := 4) ?hd (cs := #[.int .i64 a1_0, .int .i64 a1_1]) (t := 94) ?hr ?_; (case hd => rfl); (case hg => rfl); (case hr => first | (go_simp; done) | (go_simp; rfl)); intro gb340 hg w79 hbox hb; have n0_ := Aside0.mk (below_step (by repeat (first | (with_reducible first | exact HB.out | apply bwA | apply bwN | apply bwD) | exact HB.out)) hb); have n1_ := Aside0.mk (hbox); have n2_ := Aside0.mk ((by rw [hg]; exact (below_size (by repeat (first | (with_reducible first | exact HB.out | apply bwA | apply bwN | apply bwD) | exact HB.out))) : w.heap.size ≤ gb340)); have n3_ := Aside0.mk ((by rw [hg]; exact (below_size (by repeat (first | (with_reducible first | exact HB.out | apply bwA | apply bwN | apply bwD) | exact HB.out))) : w.heap.size ≤ gb340)); clear HB; have HB := n0_; have BK340 := n1_; have GW340 := n2_; have GE340 := n3_; clear n0_ n1_ n2_ n3_; clear hb hbox hg) | ((with_reducible refine gate_dst (N := 5) rfl ?_); refine box_event ?hg (N := 5) ?hd (cs := #[.int .i64 a2_0, .int .i64 a2_1]) (t := 94) ?hr ?_; (case hd => rfl); (case hg => rfl); (case hr => first | (go_simp; done) | (go_simp; rfl)); intro gb341 hg w80 hbox hb; have n0_ := Aside0.mk (blk_below (g := gb340) (o := .cells #[.int .i64 a1_0, .int .i64 a1_1] 94 (0, 0)) (by (with_reducible repeat (first | refine blk_drewN ?_ _ | refine blk_drew ?_ | refine blk_alloc ?_ _)); exact BK340.out) hb); have n1_ := Aside0.mk (below_step (by repeat (first | (with_reducible first | exact HB.out | apply bwA | apply bwN | apply bwD | refine below_set ?_ GE340.out) | exact HB.out)) hb); have n2_ := Aside0.mk (hbox); have n3_ := Aside0.mk ((by rw [hg]; exact (below_size (by repeat (first | (with_reducible first | exact HB.out | apply bwA | apply bwN | apply bwD | refine below_set ?_ GE340.out) | exact HB.out))) : w.heap.size ≤ gb341)); have n4_ := Aside0.mk ((by rw [hg]; exact (below_size (by repeat (first | (with_reducible first | exact HB.out | apply bwA | apply bwN | apply bwD | refine below_set ?_ GE340.out) | exact HB.out))) : w.heap.size ≤ gb341)); have n5_ := Aside0.mk ((by rw [hg]; exact Nat.ne_of_lt (blk_lt (g := gb340) (o := .cells #[.int .i64 a1_0, .int .i64 a1_1] 94 (0, 0)) (by (with_reducible repeat (first | refine blk_drewN ?_ _ | refine blk_drew ?_ | refine blk_alloc ?_ _)); exact BK340.out)) : gb340 ≠ gb341)); have n6_ := Aside0.mk ((by rw [hg]; exact Nat.ne_of_gt (blk_lt (g := gb340) (o := .cells #[.int .i64 a1_0, .int .i64 a1_1] 94 (0, 0)) (by (with_reducible repeat (first | refine blk_drewN ?_ _ | refine blk_drew ?_ | refine blk_alloc ?_ _)); exact BK340.out)) : gb341 ≠ gb340)); clear BK340; clear HB; have BK340 := n0_; have HB := n1_; have BK341 := n2_; have GW341 := n3_; have GE341 := n4_; have NB340_341 := n5_; have NB341_340 := n6_; clear n0_ n1_ n2_ n3_ n4_ n5_ n6_; clear hb hbox hg) | ((with_reducible refine gate_dst (N := 6) rfl ?_); refine box_event ?hg (N := 6) ?hd (cs := #[.int .i64 0, .int .i64 0]) (t := 94) ?hr ?_; (case hd => rfl); (case hg => rfl); (case hr => first | (go_simp; done) | (go_simp; rfl)); intro gb342 hg w81 hbox hb; have n0_ := Aside0.mk (blk_below (g := gb340) (o := .cells #[.int .i64 a1_0, .int .i64 a1_1] 94 (0, 0)) (by (with_reducible repeat (first | refine blk_drewN ?_ _ | refine blk_drew ?_ | refine blk_alloc ?_ _)); exact BK340.out) hb); have n1_ := Aside0.mk (blk_below (g := gb341) (o := .cells #[.int .i64 a2_0, .int .i64 a2_1] 94 (0, 0)) (by (with_reducible repeat (first | refine blk_drewN ?_ _ | refine blk_drew ?_ | refine blk_alloc ?_ _)); exact BK341.out) hb); have n2_ := Aside0.mk (below_step (by repeat (first | (with_reducible first | exact HB.out | apply bwA | apply bwN | apply bwD | refine below_set ?_ GE340.out | refine below_set ?_ GE341.out) | exact HB.out)) hb); have n3_ := Aside0.mk (hbox); have n4_ := Aside0.mk ((by rw [hg]; exact (below_size (by repeat (first | (with_reducible first | exact HB.out | apply bwA | apply bwN | apply bwD | refine below_set ?_ GE340.out | refine below_set ?_ GE341.out) | exact HB.out))) : w.heap.size ≤ gb342)); have n5_ := Aside0.mk ((by rw [hg]; exact (below_size (by repeat (first | (with_reducible first | exact HB.out | apply bwA | apply bwN | apply bwD | refine below_set ?_ GE340.out | refine below_set ?_ GE341.out) | exact HB.out))) : w.heap.size ≤ gb342)); have n6_ := Aside0.mk ((by rw [hg]; exact Nat.ne_of_lt (blk_lt (g := gb340) (o := .cells #[.int .i64 a1_0, .int .i64 a1_1] 94 (0, 0)) (by (with_reducible repeat (first | refine blk_drewN ?_ _ | refine blk_drew ?_ | refine blk_alloc ?_ _)); exact BK340.out)) : gb340 ≠ gb342)); have n7_ := Aside0.mk ((by rw [hg]; exact Nat.ne_of_gt (blk_lt (g := gb340) (o := .cells #[.int .i64 a1_0, .int .i64 a1_1] 94 (0, 0)) (by (with_reducible repeat (first | refine blk_drewN ?_ _ | refine blk_drew ?_ | refine blk_alloc ?_ _)); exact BK340.out)) : gb342 ≠ gb340)); have n8_ := Aside0.mk ((by rw [hg]; exact Nat.ne_of_lt (blk_lt (g := gb341) (o := .cells #[.int .i64 a2_0, .int .i64 a2_1] 94 (0, 0)) (by (with_reducible repeat (first | refine blk_drewN ?_ _ | refine blk_drew ?_ | refine blk_alloc ?_ _)); exact BK341.out)) : gb341 ≠ gb342)); have n9_ := Aside0.mk ((by rw [hg]; exact Nat.ne_of_gt (blk_lt (g := gb341) (o := .cells #[.int .i64 a2_0, .int .i64 a2_1] 94 (0, 0)) (by (with_reducible repeat (first | refine blk_drewN ?_ _ | refine blk_drew ?_ | refine blk_alloc ?_ _)); exact BK341.out)) : gb342 ≠ gb341)); clear BK340; clear BK341; clear HB; have BK340 := n0_; have BK341 := n1_; have HB := n2_; have BK342 := n3_; have GW342 := n4_; have GE342 := n5_; have NB340_342 := n6_; have NB342_340 := n7_; have NB341_342 := n8_; have NB342_341 := n9_; clear n0_ n1_ n2_ n3_ n4_ n5_ n6_ n7_ n8_ n9_; clear hb hbox hg))
        have n0_ := Aside0.mk (blk_drew BK340.out)
        have n1_ := Aside0.mk (blk_drew BK341.out)
        have n2_ := Aside0.mk (blk_drew BK342.out)
        have n3_ := Aside0.mk (below_drew1 HB.out)
        clear BK340
        clear BK341
        clear BK342
        clear HB
        have BK340 := n0_
        have BK341 := n1_
        have BK342 := n2_
        have HB := n3_
        clear n0_ n1_ n2_ n3_
        refine start_ (n := 26) (S := fun w' => w'.cell? ⟨gb340, 0, none⟩ = some (.int .i64 a1_0) ∧ w'.cell? ⟨gb340, 1, none⟩ = some (.int .i64 a1_1) ∧ w'.cell? ⟨gb341, 0, none⟩ = some (.int .i64 a2_0) ∧ w'.cell? ⟨gb341, 1, none⟩ = some (.int .i64 a2_1)) (ds := []) (Pt.bm 26 0) (by kernel_rfl) rfl rfl ⟨(blk_cell BK340.out 0).trans rfl, (blk_cell BK340.out 1).trans rfl, (blk_cell BK341.out 0).trans rfl, (blk_cell BK341.out 1).trans rfl⟩ (fun hHeld => ?_); refine with_tabW impl_spanOf.tab12 impl_spanOf.bits12 (fun HT_ HW_ => ?_)
        generalize w81.drew = w82 at BK340 BK341 BK342 HB hHeld ⊢
        refine Pt.pu 0 (some 88) (Pt.bm 26 1) (any_of HT_.out (by kernel_rfl)) ?_
        refine Pt.pu 2 (some 90) (Pt.bm 26 5) (any_of HT_.out (by kernel_rfl)) ?_
        refine Pt.pu 11 (some 99) (Pt.bm 26 2053) (any_of HT_.out (by kernel_rfl)) ?_
        refine Pt.pu 13 (some 101) (Pt.bm 26 10245) (any_of HT_.out (by kernel_rfl)) ?_
        refine Pt.tk 1 (some 89) (Pt.bm 26 10247) rfl rfl (take_ofW HT_.out HW_.out (by kernel_rfl)) hHeld (Or.inl ⟨by rfl, by rintro w' ⟨s0, s1, s2, s3⟩; go_simp; with_reducible rfl⟩) ?_
        refine Pt.tk 3 (some 91) (Pt.bm 26 10255) rfl rfl (take_ofW HT_.out HW_.out (by kernel_rfl)) hHeld (Or.inl ⟨by rfl, by rintro w' ⟨s0, s1, s2, s3⟩; go_simp; with_reducible rfl⟩) ?_
        refine Pt.pu 4 (some 92) (Pt.bm 26 10271) (any_of HT_.out (by kernel_rfl)) ?_
        refine Pt.pu 5 (some 93) (Pt.bm 26 10303) (any_of HT_.out (by kernel_rfl)) ?_
        refine Pt.pn 6 (some 94) (Pt.bm 26 10367) (any_of HT_.out (by kernel_rfl)) ?_
        refine Pt.pn 7 (some 95) (Pt.bm 26 10495) (any_of HT_.out (by kernel_rfl)) ?_
        refine Pt.pn 8 (some 96) (Pt.bm 26 10751) (any_of HT_.out (by kernel_rfl)) ?_
        refine Pt.pu 9 (some 97) (Pt.bm 26 11263) (any_of HT_.out (by kernel_rfl)) ?_
        refine Pt.tk 12 (some 100) (Pt.bm 26 15359) rfl rfl (take_ofW HT_.out HW_.out (by kernel_rfl)) hHeld (Or.inl ⟨by rfl, by rintro w' ⟨s0, s1, s2, s3⟩; go_simp; with_reducible rfl⟩) ?_
        refine Pt.tk 14 (some 102) (Pt.bm 26 31743) rfl rfl (take_ofW HT_.out HW_.out (by kernel_rfl)) hHeld (Or.inl ⟨by rfl, by rintro w' ⟨s0, s1, s2, s3⟩; go_simp; with_reducible rfl⟩) ?_
        refine Pt.pu 15 (some 103) (Pt.bm 26 64511) (any_of HT_.out (by kernel_rfl)) ?_
        refine one_ (i := 10) (N := some 98) (Pt.bm 26 65535) rfl rfl (one_of HT_.out (by kernel_rfl)) (by decide) (fun K hK => ?_)
        refine goes_ Try.func117 (by kernel_rfl) rfl #[.bool false] (by rfl) rfl rfl (by (try simp only [List.map_toArray, List.map_cons, List.map_nil]); first | done | rfl | (simp only [List.length_drop, List.length_take]; rfl)) ?_
        with_reducible refine (impl_bit.calls false t361 _ A76.out).mono ?_
        rintro e w' ⟨rfl, ⟨nd, rfl⟩⟩
        refine ⟨_, rfl, ?_⟩
        refine hK.out _ _ ⟨(blk_cell BK340.out 0).trans rfl, (blk_cell BK340.out 1).trans rfl, (blk_cell BK341.out 0).trans rfl, (blk_cell BK341.out 1).trans rfl⟩ (fun hHeld => ?_)
        clear hK K
        refine norm_ (a' := ?_) ?_ ?_
        rotate_left
        ·show Act.put _ (some 98) _ = _
         simp only [Act.put, List.setIfInBounds_toArray, List.set_cons_zero, List.set_cons_succ, i64_w, i32_w]
         rfl
        refine Pt.pu 16 (some 104) (Pt.bm 26 131071) (any_of HT_.out (by kernel_rfl)) ?_
        refine Pt.pu 17 (some 105) (Pt.bm 26 262143) (any_of HT_.out (by kernel_rfl)) ?_
        refine Pt.pu 19 (some 107) (Pt.bm 26 786431) (any_of HT_.out (by kernel_rfl)) ?_
        refine Pt.tk 18 (some 106) (Pt.bm 26 1048575) rfl rfl (take_ofW HT_.out HW_.out (by kernel_rfl)) hHeld (Or.inl ⟨by rfl, by rintro w' ⟨s0, s1, s2, s3⟩; go_simp; with_reducible rfl⟩) ?_
        refine Pt.tk 20 (some 108) (Pt.bm 26 2097151) rfl rfl (take_ofW HT_.out HW_.out (by kernel_rfl)) hHeld (Or.inl ⟨by rfl, by rintro w' ⟨s0, s1, s2, s3⟩; go_simp; with_reducible rfl⟩) ?_
        refine Pt.pu 21 (some 109) (Pt.bm 26 4194303) (any_of HT_.out (by kernel_rfl)) ?_
        refine Pt.pu 22 (some 110) (Pt.bm 26 8388607) (any_of HT_.out (by kernel_rfl)) ?_
        refine one_ (i := 23) (N := some 111) (Pt.bm 26 16777215) rfl rfl (one_of HT_.out (by kernel_rfl)) (by decide) (fun K hK => ?_)
        refine goes_ Try.func117 (by kernel_rfl) rfl #[.bool (decide (a2_0 ≤ a1_1))] (by rfl) rfl rfl (by (try simp only [List.map_toArray, List.map_cons, List.map_nil]); first | done | rfl | (simp only [List.length_drop, List.length_take]; rfl)) ?_
        with_reducible refine (impl_bit.calls (decide (a2_0 ≤ a1_1)) t362 _ A78.out).mono ?_
        rintro e w' ⟨rfl, ⟨nd, rfl⟩⟩
        refine ⟨_, rfl, ?_⟩
        refine hK.out _ _ ⟨(blk_cell BK340.out 0).trans rfl, (blk_cell BK340.out 1).trans rfl, (blk_cell BK341.out 0).trans rfl, (blk_cell BK341.out 1).trans rfl⟩ (fun hHeld => ?_)
        clear hK K
        refine norm_ (a' := ?_) ?_ ?_
        rotate_left
        ·show Act.put _ (some 111) _ = _
         simp only [Act.put, List.setIfInBounds_toArray, List.set_cons_zero, List.set_cons_succ, i64_w, i32_w]
         rfl
        refine Pt.pu 24 (some 112) (Pt.bm 26 33554431) (any_of HT_.out (by kernel_rfl)) ?_
        refine one_ (i := 25) (N := none) (Pt.bm 26 67108863) rfl rfl (one_of HT_.out (by kernel_rfl)) (by decide) (fun K hK => ?_)
        have hs83 : w82.cell? ⟨gb342, 0, none⟩ = some (.int .i64 0) := (blk_cell BK342.out 0).trans rfl
        have hfs83 := blk_frozen BK342.out 0
        have hns83_0 := NB340_342.out
        have hns83_1 := NB341_342.out
        have hms83_0 := NB342_340.out
        have hms83_1 := NB342_341.out
        have hs84 : w82.cell? ⟨gb342, 1, none⟩ = some (.int .i64 0) := (blk_cell BK342.out 1).trans rfl
        have hfs84 := blk_frozen BK342.out 1
        have hns84_0 := NB340_342.out
        have hns84_1 := NB341_342.out
        have hms84_0 := NB342_340.out
        have hms84_1 := NB342_341.out
        refine skip_ (w1 := ?_) (by rfl) rfl ?_ ?_
        rotate_left
        ·go_simp
         rfl
        refine hK.out _ _ ⟨((cell_far (p := ⟨gb342, _, none⟩) NB340_342.out _).trans (((cell_far (p := ⟨gb342, _, none⟩) NB340_342.out _).trans (hHeld.1)))), ((cell_far (p := ⟨gb342, _, none⟩) NB340_342.out _).trans (((cell_far (p := ⟨gb342, _, none⟩) NB340_342.out _).trans (hHeld.2.1)))), ((cell_far (p := ⟨gb342, _, none⟩) NB341_342.out _).trans (((cell_far (p := ⟨gb342, _, none⟩) NB341_342.out _).trans (hHeld.2.2.1)))), ((cell_far (p := ⟨gb342, _, none⟩) NB341_342.out _).trans (((cell_far (p := ⟨gb342, _, none⟩) NB341_342.out _).trans (hHeld.2.2.2))))⟩ (fun hHeld => ?_)
        clear hK K
        refine done_ (done_of HT_.out (by kernel_rfl)) ?_
        try go_wp2
        refine bodyPost_ret (results_cell_row rfl _ _ gb342 94 #[.int .i64 t361, .int .i64 t362] (0, 0) _ rfl (by (with_reducible repeat (first | refine blk_drewN ?_ _ | refine blk_drew ?_ | refine blk_alloc ?_ _)); refine blk_put (cs := #[.int .i64 t361, .int .i64 0]) ?_ 1 _ rfl; (with_reducible repeat (first | refine blk_drewN ?_ _ | refine blk_drew ?_ | refine blk_alloc ?_ _)); refine blk_put (cs := #[.int .i64 0, .int .i64 0]) ?_ 0 _ rfl; (with_reducible repeat (first | refine blk_drewN ?_ _ | refine blk_drew ?_ | refine blk_alloc ?_ _)); exact BK342.out) Try.underlying94 rfl (by kernel_rfl)) rfl ?_
        exact ⟨by first | rfl | (simp [errW_none, errW_some] <;> rfl) | (simp [*, errW_none, errW_some] <;> rfl), by repeat (first | (with_reducible first | exact HB.out | apply bwA | apply bwN | apply bwD | refine below_set ?_ GE340.out | refine below_set ?_ GE341.out | refine below_set ?_ GE342.out) | exact HB.out)⟩
       ·rw [if_neg c77] at H
        have c77b0 : decide (a1_0 ≤ a2_1) = false := decide_eq_false c77
        clear c77
        replace H := Option.bind_eq_some_iff.mp H
        obtain ⟨t363, A850, H⟩ := H
        replace H : (some (t361, t363)) = some (r1, r2) := H
        have A85 := Aside0.mk A850
        clear A850
        simp only [Option.some.injEq, Prod.mk.injEq] at H
        obtain ⟨rfl, rfl⟩ := H
        go_enter Try.func75, Try.ntmps75
        try go_wp2_with (first | ((with_reducible refine gate_dst (N := 4) rfl ?_); refine box_event ?hg (N := 4) ?hd (cs := #[.int .i64 a1_0, .int .i64 a1_1]) (t := 94) ?hr ?_; (case hd => rfl); (case hg => rfl); (case hr => first | (go_simp; done) | (go_simp; rfl)); intro gb340 hg w86 hbox hb; have n0_ := Aside0.mk (below_step (by repeat (first | (with_reducible first | exact HB.out | apply bwA | apply bwN | apply bwD) | exact HB.out)) hb); have n1_ := Aside0.mk (hbox); have n2_ := Aside0.mk ((by rw [hg]; exact (below_size (by repeat (first | (with_reducible first | exact HB.out | apply bwA | apply bwN | apply bwD) | exact HB.out))) : w.heap.size ≤ gb340)); have n3_ := Aside0.mk ((by rw [hg]; exact (below_size (by repeat (first | (with_reducible first | exact HB.out | apply bwA | apply bwN | apply bwD) | exact HB.out))) : w.heap.size ≤ gb340)); clear HB; have HB := n0_; have BK340 := n1_; have GW340 := n2_; have GE340 := n3_; clear n0_ n1_ n2_ n3_; clear hb hbox hg) | ((with_reducible refine gate_dst (N := 5) rfl ?_); refine box_event ?hg (N := 5) ?hd (cs := #[.int .i64 a2_0, .int .i64 a2_1]) (t := 94) ?hr ?_; (case hd => rfl); (case hg => rfl); (case hr => first | (go_simp; done) | (go_simp; rfl)); intro gb341 hg w87 hbox hb; have n0_ := Aside0.mk (blk_below (g := gb340) (o := .cells #[.int .i64 a1_0, .int .i64 a1_1] 94 (0, 0)) (by (with_reducible repeat (first | refine blk_drewN ?_ _ | refine blk_drew ?_ | refine blk_alloc ?_ _)); exact BK340.out) hb); have n1_ := Aside0.mk (below_step (by repeat (first | (with_reducible first | exact HB.out | apply bwA | apply bwN | apply bwD | refine below_set ?_ GE340.out) | exact HB.out)) hb); have n2_ := Aside0.mk (hbox); have n3_ := Aside0.mk ((by rw [hg]; exact (below_size (by repeat (first | (with_reducible first | exact HB.out | apply bwA | apply bwN | apply bwD | refine below_set ?_ GE340.out) | exact HB.out))) : w.heap.size ≤ gb341)); have n4_ := Aside0.mk ((by rw [hg]; exact (below_size (by repeat (first | (with_reducible first | exact HB.out | apply bwA | apply bwN | apply bwD | refine below_set ?_ GE340.out) | exact HB.out))) : w.heap.size ≤ gb341)); have n5_ := Aside0.mk ((by rw [hg]; exact Nat.ne_of_lt (blk_lt (g := gb340) (o := .cells #[.int .i64 a1_0, .int .i64 a1_1] 94 (0, 0)) (by (with_reducible repeat (first | refine blk_drewN ?_ _ | refine blk_drew ?_ | refine blk_alloc ?_ _)); exact BK340.out)) : gb340 ≠ gb341)); have n6_ := Aside0.mk ((by rw [hg]; exact Nat.ne_of_gt (blk_lt (g := gb340) (o := .cells #[.int .i64 a1_0, .int .i64 a1_1] 94 (0, 0)) (by (with_reducible repeat (first | refine blk_drewN ?_ _ | refine blk_drew ?_ | refine blk_alloc ?_ _)); exact BK340.out)) : gb341 ≠ gb340)); clear BK340; clear HB; have BK340 := n0_; have HB := n1_; have BK341 := n2_; have GW341 := n3_; have GE341 := n4_; have NB340_341 := n5_; have NB341_340 := n6_; clear n0_ n1_ n2_ n3_ n4_ n5_ n6_; clear hb hbox hg) | ((with_reducible refine gate_dst (N := 6) rfl ?_); refine box_event ?hg (N := 6) ?hd (cs := #[.int .i64 0, .int .i64 0]) (t := 94) ?hr ?_; (case hd => rfl); (case hg => rfl); (case hr => first | (go_simp; done) | (go_simp; rfl)); intro gb342 hg w88 hbox hb; have n0_ := Aside0.mk (blk_below (g := gb340) (o := .cells #[.int .i64 a1_0, .int .i64 a1_1] 94 (0, 0)) (by (with_reducible repeat (first | refine blk_drewN ?_ _ | refine blk_drew ?_ | refine blk_alloc ?_ _)); exact BK340.out) hb); have n1_ := Aside0.mk (blk_below (g := gb341) (o := .cells #[.int .i64 a2_0, .int .i64 a2_1] 94 (0, 0)) (by (with_reducible repeat (first | refine blk_drewN ?_ _ | refine blk_drew ?_ | refine blk_alloc ?_ _)); exact BK341.out) hb); have n2_ := Aside0.mk (below_step (by repeat (first | (with_reducible first | exact HB.out | apply bwA | apply bwN | apply bwD | refine below_set ?_ GE340.out | refine below_set ?_ GE341.out) | exact HB.out)) hb); have n3_ := Aside0.mk (hbox); have n4_ := Aside0.mk ((by rw [hg]; exact (below_size (by repeat (first | (with_reducible first | exact HB.out | apply bwA | apply bwN | apply bwD | refine below_set ?_ GE340.out | refine below_set ?_ GE341.out) | exact HB.out))) : w.heap.size ≤ gb342)); have n5_ := Aside0.mk ((by rw [hg]; exact (below_size (by repeat (first | (with_reducible first | exact HB.out | apply bwA | apply bwN | apply bwD | refine below_set ?_ GE340.out | refine below_set ?_ GE341.out) | exact HB.out))) : w.heap.size ≤ gb342)); have n6_ := Aside0.mk ((by rw [hg]; exact Nat.ne_of_lt (blk_lt (g := gb340) (o := .cells #[.int .i64 a1_0, .int .i64 a1_1] 94 (0, 0)) (by (with_reducible repeat (first | refine blk_drewN ?_ _ | refine blk_drew ?_ | refine blk_alloc ?_ _)); exact BK340.out)) : gb340 ≠ gb342)); have n7_ := Aside0.mk ((by rw [hg]; exact Nat.ne_of_gt (blk_lt (g := gb340) (o := .cells #[.int .i64 a1_0, .int .i64 a1_1] 94 (0, 0)) (by (with_reducible repeat (first | refine blk_drewN ?_ _ | refine blk_drew ?_ | refine blk_alloc ?_ _)); exact BK340.out)) : gb342 ≠ gb340)); have n8_ := Aside0.mk ((by rw [hg]; exact Nat.ne_of_lt (blk_lt (g := gb341) (o := .cells #[.int .i64 a2_0, .int .i64 a2_1] 94 (0, 0)) (by (with_reducible repeat (first | refine blk_drewN ?_ _ | refine blk_drew ?_ | refine blk_alloc ?_ _)); exact BK341.out)) : gb341 ≠ gb342)); have n9_ := Aside0.mk ((by rw [hg]; exact Nat.ne_of_gt (blk_lt (g := gb341) (o := .cells #[.int .i64 a2_0, .int .i64 a2_1] 94 (0, 0)) (by (with_reducible repeat (first | refine blk_drewN ?_ _ | refine blk_drew ?_ | refine blk_alloc ?_ _)); exact BK341.out)) : gb342 ≠ gb341)); clear BK340; clear BK341; clear HB; have BK340 := n0_; have BK341 := n1_; have HB := n2_; have BK342 := n3_; have GW342 := n4_; have GE342 := n5_; have NB340_342 := n6_; have NB342_340 := n7_; have NB341_342 := n8_; have NB342_341 := n9_; clear n0_ n1_ n2_ n3_ n4_ n5_ n6_ n7_ n8_ n9_; clear hb hbox hg))
        have n0_ := Aside0.mk (blk_drew BK340.out)
        have n1_ := Aside0.mk (blk_drew BK341.out)
        have n2_ := Aside0.mk (blk_drew BK342.out)
        have n3_ := Aside0.mk (below_drew1 HB.out)
        clear BK340
        clear BK341
        clear BK342
        clear HB
        have BK340 := n0_
        have BK341 := n1_
        have BK342 := n2_
        have HB := n3_
        clear n0_ n1_ n2_ n3_
        refine start_ (n := 26) (S := fun w' => w'.cell? ⟨gb340, 0, none⟩ = some (.int .i64 a1_0) ∧ w'.cell? ⟨gb340, 1, none⟩ = some (.int .i64 a1_1) ∧ w'.cell? ⟨gb341, 0, none⟩ = some (.int .i64 a2_0) ∧ w'.cell? ⟨gb341, 1, none⟩ = some (.int .i64 a2_1)) (ds := []) (Pt.bm 26 0) (by kernel_rfl) rfl rfl ⟨(blk_cell BK340.out 0).trans rfl, (blk_cell BK340.out 1).trans rfl, (blk_cell BK341.out 0).trans rfl, (blk_cell BK341.out 1).trans rfl⟩ (fun hHeld => ?_); refine with_tabW impl_spanOf.tab12 impl_spanOf.bits12 (fun HT_ HW_ => ?_)
        generalize w88.drew = w89 at BK340 BK341 BK342 HB hHeld ⊢
        refine Pt.pu 0 (some 88) (Pt.bm 26 1) (any_of HT_.out (by kernel_rfl)) ?_
        refine Pt.pu 2 (some 90) (Pt.bm 26 5) (any_of HT_.out (by kernel_rfl)) ?_
        refine Pt.pu 11 (some 99) (Pt.bm 26 2053) (any_of HT_.out (by kernel_rfl)) ?_
        refine Pt.pu 13 (some 101) (Pt.bm 26 10245) (any_of HT_.out (by kernel_rfl)) ?_
        refine Pt.tk 1 (some 89) (Pt.bm 26 10247) rfl rfl (take_ofW HT_.out HW_.out (by kernel_rfl)) hHeld (Or.inl ⟨by rfl, by rintro w' ⟨s0, s1, s2, s3⟩; go_simp; with_reducible rfl⟩) ?_
        refine Pt.tk 3 (some 91) (Pt.bm 26 10255) rfl rfl (take_ofW HT_.out HW_.out (by kernel_rfl)) hHeld (Or.inl ⟨by rfl, by rintro w' ⟨s0, s1, s2, s3⟩; go_simp; with_reducible rfl⟩) ?_
        refine Pt.pu 4 (some 92) (Pt.bm 26 10271) (any_of HT_.out (by kernel_rfl)) ?_
        refine Pt.pu 5 (some 93) (Pt.bm 26 10303) (any_of HT_.out (by kernel_rfl)) ?_
        refine Pt.pn 6 (some 94) (Pt.bm 26 10367) (any_of HT_.out (by kernel_rfl)) ?_
        refine Pt.pn 7 (some 95) (Pt.bm 26 10495) (any_of HT_.out (by kernel_rfl)) ?_
        refine Pt.pn 8 (some 96) (Pt.bm 26 10751) (any_of HT_.out (by kernel_rfl)) ?_
        refine Pt.pu 9 (some 97) (Pt.bm 26 11263) (any_of HT_.out (by kernel_rfl)) ?_
        refine Pt.tk 12 (some 100) (Pt.bm 26 15359) rfl rfl (take_ofW HT_.out HW_.out (by kernel_rfl)) hHeld (Or.inl ⟨by rfl, by rintro w' ⟨s0, s1, s2, s3⟩; go_simp; with_reducible rfl⟩) ?_
        refine Pt.tk 14 (some 102) (Pt.bm 26 31743) rfl rfl (take_ofW HT_.out HW_.out (by kernel_rfl)) hHeld (Or.inl ⟨by rfl, by rintro w' ⟨s0, s1, s2, s3⟩; go_simp; with_reducible rfl⟩) ?_
        refine Pt.pu 15 (some 103) (Pt.bm 26 64511) (any_of HT_.out (by kernel_rfl)) ?_
        refine one_ (i := 10) (N := some 98) (Pt.bm 26 65535) rfl rfl (one_of HT_.out (by kernel_rfl)) (by decide) (fun K hK => ?_)
        refine goes_ Try.func117 (by kernel_rfl) rfl #[.bool false] (by rfl) rfl rfl (by (try simp only [List.map_toArray, List.map_cons, List.map_nil]); first | done | rfl | (simp only [List.length_drop, List.length_take]; rfl)) ?_
        with_reducible refine (impl_bit.calls false t361 _ A76.out).mono ?_
        rintro e w' ⟨rfl, ⟨nd, rfl⟩⟩
        refine ⟨_, rfl, ?_⟩
        refine hK.out _ _ ⟨(blk_cell BK340.out 0).trans rfl, (blk_cell BK340.out 1).trans rfl, (blk_cell BK341.out 0).trans rfl, (blk_cell BK341.out 1).trans rfl⟩ (fun hHeld => ?_)
        clear hK K
        refine norm_ (a' := ?_) ?_ ?_
        rotate_left
        ·show Act.put _ (some 98) _ = _
         simp only [Act.put, List.setIfInBounds_toArray, List.set_cons_zero, List.set_cons_succ, i64_w, i32_w]
         rfl
        refine Pt.pu 16 (some 104) (Pt.bm 26 131071) (any_of HT_.out (by kernel_rfl)) ?_
        refine Pt.pn 17 (some 105) (Pt.bm 26 262143) (any_of HT_.out (by kernel_rfl)) ?_
        refine Pt.pn 18 (some 106) (Pt.bm 26 524287) (any_of HT_.out (by kernel_rfl)) ?_
        refine Pt.pn 19 (some 107) (Pt.bm 26 1048575) (any_of HT_.out (by kernel_rfl)) ?_
        refine Pt.pn 20 (some 108) (Pt.bm 26 2097151) (any_of HT_.out (by kernel_rfl)) ?_
        refine Pt.pn 21 (some 109) (Pt.bm 26 4194303) (any_of HT_.out (by kernel_rfl)) ?_
        refine Pt.pu 22 (some 110) (Pt.bm 26 8388607) (any_of HT_.out (by kernel_rfl)) ?_
        refine one_ (i := 23) (N := some 111) (Pt.bm 26 16777215) rfl rfl (one_of HT_.out (by kernel_rfl)) (by decide) (fun K hK => ?_)
        refine goes_ Try.func117 (by kernel_rfl) rfl #[.bool false] (by rfl) rfl rfl (by (try simp only [List.map_toArray, List.map_cons, List.map_nil]); first | done | rfl | (simp only [List.length_drop, List.length_take]; rfl)) ?_
        with_reducible refine (impl_bit.calls false t363 _ A85.out).mono ?_
        rintro e w' ⟨rfl, ⟨nd, rfl⟩⟩
        refine ⟨_, rfl, ?_⟩
        refine hK.out _ _ ⟨(blk_cell BK340.out 0).trans rfl, (blk_cell BK340.out 1).trans rfl, (blk_cell BK341.out 0).trans rfl, (blk_cell BK341.out 1).trans rfl⟩ (fun hHeld => ?_)
        clear hK K
        refine norm_ (a' := ?_) ?_ ?_
        rotate_left
        ·show Act.put _ (some 111) _ = _
         simp only [Act.put, List.setIfInBounds_toArray, List.set_cons_zero, List.set_cons_succ, i64_w, i32_w]
         rfl
        refine Pt.pu 24 (some 112) (Pt.bm 26 33554431) (any_of HT_.out (by kernel_rfl)) ?_
        refine one_ (i := 25) (N := none) (Pt.bm 26 67108863) rfl rfl (one_of HT_.out (by kernel_rfl)) (by decide) (fun K hK => ?_)
        have hs90 : w89.cell? ⟨gb342, 0, none⟩ = some (.int .i64 0) := (blk_cell BK342.out 0).trans rfl
        have hfs90 := blk_frozen BK342.out 0
        have hns90_0 := NB340_342.out
        have hns90_1 := NB341_342.out
        have hms90_0 := NB342_340.out
        have hms90_1 := NB342_341.out
        have hs91 : w89.cell? ⟨gb342, 1, none⟩ = some (.int .i64 0) := (blk_cell BK342.out 1).trans rfl
        have hfs91 := blk_frozen BK342.out 1
        have hns91_0 := NB340_342.out
        have hns91_1 := NB341_342.out
        have hms91_0 := NB342_340.out
        have hms91_1 := NB342_341.out
        refine skip_ (w1 := ?_) (by rfl) rfl ?_ ?_
        rotate_left
        ·go_simp
         rfl
        refine hK.out _ _ ⟨((cell_far (p := ⟨gb342, _, none⟩) NB340_342.out _).trans (((cell_far (p := ⟨gb342, _, none⟩) NB340_342.out _).trans (hHeld.1)))), ((cell_far (p := ⟨gb342, _, none⟩) NB340_342.out _).trans (((cell_far (p := ⟨gb342, _, none⟩) NB340_342.out _).trans (hHeld.2.1)))), ((cell_far (p := ⟨gb342, _, none⟩) NB341_342.out _).trans (((cell_far (p := ⟨gb342, _, none⟩) NB341_342.out _).trans (hHeld.2.2.1)))), ((cell_far (p := ⟨gb342, _, none⟩) NB341_342.out _).trans (((cell_far (p := ⟨gb342, _, none⟩) NB341_342.out _).trans (hHeld.2.2.2))))⟩ (fun hHeld => ?_)
        clear hK K
        refine done_ (done_of HT_.out (by kernel_rfl)) ?_
        try go_wp2
        refine bodyPost_ret (results_cell_row rfl _ _ gb342 94 #[.int .i64 t361, .int .i64 t363] (0, 0) _ rfl (by (with_reducible repeat (first | refine blk_drewN ?_ _ | refine blk_drew ?_ | refine blk_alloc ?_ _)); refine blk_put (cs := #[.int .i64 t361, .int .i64 0]) ?_ 1 _ rfl; (with_reducible repeat (first | refine blk_drewN ?_ _ | refine blk_drew ?_ | refine blk_alloc ?_ _)); refine blk_put (cs := #[.int .i64 0, .int .i64 0]) ?_ 0 _ rfl; (with_reducible repeat (first | refine blk_drewN ?_ _ | refine blk_drew ?_ | refine blk_alloc ?_ _)); exact BK342.out) Try.underlying94 rfl (by kernel_rfl)) rfl ?_
        exact ⟨by first | rfl | (simp [errW_none, errW_some] <;> rfl) | (simp [*, errW_none, errW_some] <;> rfl), by repeat (first | (with_reducible first | exact HB.out | apply bwA | apply bwN | apply bwD | refine below_set ?_ GE340.out | refine below_set ?_ GE341.out | refine below_set ?_ GE342.out) | exact HB.out)⟩
     ·rw [if_neg c58] at H
      have c58b0 : (a0 == 6) = false := beq_eq_false_iff_ne.mpr c58
      have c58b1 : (a0 != 6) = true := bne_iff_ne.mpr c58
      by_cases c92 : a0 = 7
      ·rw [if_pos c92] at H
       have c92b0 : (a0 == 7) = true := beq_iff_eq.mpr c92
       have c92b1 : (a0 != 7) = false := bne_eq_false_iff_eq.mpr c92
       clear c92
       simp only [Option.some.injEq, Prod.mk.injEq] at H
       obtain ⟨rfl, rfl⟩ := H
       go_enter Try.func75, Try.ntmps75
       go_wp2_with (first | ((with_reducible refine gate_dst (N := 4) rfl ?_); refine box_event ?hg (N := 4) ?hd (cs := #[.int .i64 a1_0, .int .i64 a1_1]) (t := 94) ?hr ?_; (case hd => rfl); (case hg => rfl); (case hr => first | (go_simp; done) | (go_simp; rfl)); intro gb340 hg w93 hbox hb; have n0_ := Aside0.mk (below_step (by repeat (first | (with_reducible first | exact HB.out | apply bwA | apply bwN | apply bwD) | exact HB.out)) hb); have n1_ := Aside0.mk (hbox); have n2_ := Aside0.mk ((by rw [hg]; exact (below_size (by repeat (first | (with_reducible first | exact HB.out | apply bwA | apply bwN | apply bwD) | exact HB.out))) : w.heap.size ≤ gb340)); have n3_ := Aside0.mk ((by rw [hg]; exact (below_size (by repeat (first | (with_reducible first | exact HB.out | apply bwA | apply bwN | apply bwD) | exact HB.out))) : w.heap.size ≤ gb340)); clear HB; have HB := n0_; have BK340 := n1_; have GW340 := n2_; have GE340 := n3_; clear n0_ n1_ n2_ n3_; clear hb hbox hg) | ((with_reducible refine gate_dst (N := 5) rfl ?_); refine box_event ?hg (N := 5) ?hd (cs := #[.int .i64 a2_0, .int .i64 a2_1]) (t := 94) ?hr ?_; (case hd => rfl); (case hg => rfl); (case hr => first | (go_simp; done) | (go_simp; rfl)); intro gb341 hg w94 hbox hb; have n0_ := Aside0.mk (blk_below (g := gb340) (o := .cells #[.int .i64 a1_0, .int .i64 a1_1] 94 (0, 0)) (by (with_reducible repeat (first | refine blk_drewN ?_ _ | refine blk_drew ?_ | refine blk_alloc ?_ _)); exact BK340.out) hb); have n1_ := Aside0.mk (below_step (by repeat (first | (with_reducible first | exact HB.out | apply bwA | apply bwN | apply bwD | refine below_set ?_ GE340.out) | exact HB.out)) hb); have n2_ := Aside0.mk (hbox); have n3_ := Aside0.mk ((by rw [hg]; exact (below_size (by repeat (first | (with_reducible first | exact HB.out | apply bwA | apply bwN | apply bwD | refine below_set ?_ GE340.out) | exact HB.out))) : w.heap.size ≤ gb341)); have n4_ := Aside0.mk ((by rw [hg]; exact (below_size (by repeat (first | (with_reducible first | exact HB.out | apply bwA | apply bwN | apply bwD | refine below_set ?_ GE340.out) | exact HB.out))) : w.heap.size ≤ gb341)); have n5_ := Aside0.mk ((by rw [hg]; exact Nat.ne_of_lt (blk_lt (g := gb340) (o := .cells #[.int .i64 a1_0, .int .i64 a1_1] 94 (0, 0)) (by (with_reducible repeat (first | refine blk_drewN ?_ _ | refine blk_drew ?_ | refine blk_alloc ?_ _)); exact BK340.out)) : gb340 ≠ gb341)); have n6_ := Aside0.mk ((by rw [hg]; exact Nat.ne_of_gt (blk_lt (g := gb340) (o := .cells #[.int .i64 a1_0, .int .i64 a1_1] 94 (0, 0)) (by (with_reducible repeat (first | refine blk_drewN ?_ _ | refine blk_drew ?_ | refine blk_alloc ?_ _)); exact BK340.out)) : gb341 ≠ gb340)); clear BK340; clear HB; have BK340 := n0_; have HB := n1_; have BK341 := n2_; have GW341 := n3_; have GE341 := n4_; have NB340_341 := n5_; have NB341_340 := n6_; clear n0_ n1_ n2_ n3_ n4_ n5_ n6_; clear hb hbox hg) | ((with_reducible refine gate_dst (N := 6) rfl ?_); refine box_event ?hg (N := 6) ?hd (cs := #[.int .i64 0, .int .i64 0]) (t := 94) ?hr ?_; (case hd => rfl); (case hg => rfl); (case hr => first | (go_simp; done) | (go_simp; rfl)); intro gb342 hg w95 hbox hb; have n0_ := Aside0.mk (blk_below (g := gb340) (o := .cells #[.int .i64 a1_0, .int .i64 a1_1] 94 (0, 0)) (by (with_reducible repeat (first | refine blk_drewN ?_ _ | refine blk_drew ?_ | refine blk_alloc ?_ _)); exact BK340.out) hb); have n1_ := Aside0.mk (blk_below (g := gb341) (o := .cells #[.int .i64 a2_0, .int .i64 a2_1] 94 (0, 0)) (by (with_reducible repeat (first | refine blk_drewN ?_ _ | refine blk_drew ?_ | refine blk_alloc ?_ _)); exact BK341.out) hb); have n2_ := Aside0.mk (below_step (by repeat (first | (with_reducible first | exact HB.out | apply bwA | apply bwN | apply bwD | refine below_set ?_ GE340.out | refine below_set ?_ GE341.out) | exact HB.out)) hb); have n3_ := Aside0.mk (hbox); have n4_ := Aside0.mk ((by rw [hg]; exact (below_size (by repeat (first | (with_reducible first | exact HB.out | apply bwA | apply bwN | apply bwD | refine below_set ?_ GE340.out | refine below_set ?_ GE341.out) | exact HB.out))) : w.heap.size ≤ gb342)); have n5_ := Aside0.mk ((by rw [hg]; exact (below_size (by repeat (first | (with_reducible first | exact HB.out | apply bwA | apply bwN | apply bwD | refine below_set ?_ GE340.out | refine below_set ?_ GE341.out) | exact HB.out))) : w.heap.size ≤ gb342)); have n6_ := Aside0.mk ((by rw [hg]; exact Nat.ne_of_lt (blk_lt (g := gb340) (o := .cells #[.int .i64 a1_0, .int .i64 a1_1] 94 (0, 0)) (by (with_reducible repeat (first | refine blk_drewN ?_ _ | refine blk_drew ?_ | refine blk_alloc ?_ _)); exact BK340.out)) : gb340 ≠ gb342)); have n7_ := Aside0.mk ((by rw [hg]; exact Nat.ne_of_gt (blk_lt (g := gb340) (o := .cells #[.int .i64 a1_0, .int .i64 a1_1] 94 (0, 0)) (by (with_reducible repeat (first | refine blk_drewN ?_ _ | refine blk_drew ?_ | refine blk_alloc ?_ _)); exact BK340.out)) : gb342 ≠ gb340)); have n8_ := Aside0.mk ((by rw [hg]; exact Nat.ne_of_lt (blk_lt (g := gb341) (o := .cells #[.int .i64 a2_0, .int .i64 a2_1] 94 (0, 0)) (by (with_reducible repeat (first | refine blk_drewN ?_ _ | refine blk_drew ?_ | refine blk_alloc ?_ _)); exact BK341.out)) : gb341 ≠ gb342)); have n9_ := Aside0.mk ((by rw [hg]; exact Nat.ne_of_gt (blk_lt (g := gb341) (o := .cells #[.int .i64 a2_0, .int .i64 a2_1] 94 (0, 0)) (by (with_reducible repeat (first | refine blk_drewN ?_ _ | refine blk_drew ?_ | refine blk_alloc ?_ _)); exact BK341.out)) : gb342 ≠ gb341)); clear BK340; clear BK341; clear HB; have BK340 := n0_; have BK341 := n1_; have HB := n2_; have BK342 := n3_; have GW342 := n4_; have GE342 := n5_; have NB340_342 := n6_; have NB342_340 := n7_; have NB341_342 := n8_; have NB342_341 := n9_; clear n0_ n1_ n2_ n3_ n4_ n5_ n6_ n7_ n8_ n9_; clear hb hbox hg; have hnb96 := NB340_341.out; have hnc96 := NB341_340.out; have hnb97 := NB340_342.out; have hnc97 := NB342_340.out; have hcz98_0 : w95.cell? ⟨gb340, 0, none⟩ = some (.int .i64 a1_0) := (blk_cell BK340.out 0).trans rfl; have hcz98_1 : w95.cell? ⟨gb340, 1, none⟩ = some (.int .i64 a1_1) := (blk_cell BK340.out 1).trans rfl; have hfz98_0 := blk_frozen BK340.out 0; have hfz98_1 := blk_frozen BK340.out 1; have hnb99 := NB342_341.out; have hnc99 := NB341_342.out; have hcz100_0 : w95.cell? ⟨gb342, 0, none⟩ = some (.int .i64 0) := (blk_cell BK342.out 0).trans rfl; have hcz100_1 : w95.cell? ⟨gb342, 1, none⟩ = some (.int .i64 0) := (blk_cell BK342.out 1).trans rfl; have hfz100_0 := blk_frozen BK342.out 0; have hfz100_1 := blk_frozen BK342.out 1))
       refine bodyPost_ret (results_cell_row rfl _ _ gb342 94 #[.int .i64 (wrap64 (1 - a1_1)), .int .i64 (wrap64 (1 - a1_0))] (0, 0) _ rfl (by (with_reducible repeat (first | refine blk_drewN ?_ _ | refine blk_drew ?_ | refine blk_alloc ?_ _)); refine blk_put (cs := #[.int .i64 (wrap64 (1 - a1_1)), .int .i64 0]) ?_ 1 _ rfl; (with_reducible repeat (first | refine blk_drewN ?_ _ | refine blk_drew ?_ | refine blk_alloc ?_ _)); refine blk_put (cs := #[.int .i64 0, .int .i64 0]) ?_ 0 _ rfl; (with_reducible repeat (first | refine blk_drewN ?_ _ | refine blk_drew ?_ | refine blk_alloc ?_ _)); exact BK342.out) Try.underlying94 rfl (by kernel_rfl)) rfl ?_
       exact ⟨by first | rfl | (simp [errW_none, errW_some] <;> rfl) | (simp [*, errW_none, errW_some] <;> rfl), by repeat (first | (with_reducible first | exact HB.out | apply bwA | apply bwN | apply bwD | refine below_set ?_ GE340.out | refine below_set ?_ GE341.out | refine below_set ?_ GE342.out) | exact HB.out)⟩
      ·rw [if_neg c92] at H
       have c92b0 : (a0 == 7) = false := beq_eq_false_iff_ne.mpr c92
       have c92b1 : (a0 != 7) = true := bne_iff_ne.mpr c92
       replace H := Option.bind_eq_some_iff.mp H
       obtain ⟨t364, A1010, H⟩ := H
       replace H : ((impl_do.f a0 a1_1 a2_1).bind fun t365 => (some (t364, t365))) = some (r1, r2) := H
       have A101 := Aside0.mk A1010
       clear A1010
       replace H := Option.bind_eq_some_iff.mp H
       obtain ⟨t365, A1020, H⟩ := H
       replace H : (some (t364, t365)) = some (r1, r2) := H
       have A102 := Aside0.mk A1020
       clear A1020
       simp only [Option.some.injEq, Prod.mk.injEq] at H
       obtain ⟨rfl, rfl⟩ := H
       go_enter Try.func75, Try.ntmps75
       try go_wp2_with (first | ((with_reducible refine gate_dst (N := 4) rfl ?_); refine box_event ?hg (N := 4) ?hd (cs := #[.int .i64 a1_0, .int .i64 a1_1]) (t := 94) ?hr ?_; (case hd => rfl); (case hg => rfl); (case hr => first | (go_simp; done) | (go_simp; rfl)); intro gb340 hg w103 hbox hb; have n0_ := Aside0.mk (below_step (by repeat (first | (with_reducible first | exact HB.out | apply bwA | apply bwN | apply bwD) | exact HB.out)) hb); have n1_ := Aside0.mk (hbox); have n2_ := Aside0.mk ((by rw [hg]; exact (below_size (by repeat (first | (with_reducible first | exact HB.out | apply bwA | apply bwN | apply bwD) | exact HB.out))) : w.heap.size ≤ gb340)); have n3_ := Aside0.mk ((by rw [hg]; exact (below_size (by repeat (first | (with_reducible first | exact HB.out | apply bwA | apply bwN | apply bwD) | exact HB.out))) : w.heap.size ≤ gb340)); clear HB; have HB := n0_; have BK340 := n1_; have GW340 := n2_; have GE340 := n3_; clear n0_ n1_ n2_ n3_; clear hb hbox hg) | ((with_reducible refine gate_dst (N := 5) rfl ?_); refine box_event ?hg (N := 5) ?hd (cs := #[.int .i64 a2_0, .int .i64 a2_1]) (t := 94) ?hr ?_; (case hd => rfl); (case hg => rfl); (case hr => first | (go_simp; done) | (go_simp; rfl)); intro gb341 hg w104 hbox hb; have n0_ := Aside0.mk (blk_below (g := gb340) (o := .cells #[.int .i64 a1_0, .int .i64 a1_1] 94 (0, 0)) (by (with_reducible repeat (first | refine blk_drewN ?_ _ | refine blk_drew ?_ | refine blk_alloc ?_ _)); exact BK340.out) hb); have n1_ := Aside0.mk (below_step (by repeat (first | (with_reducible first | exact HB.out | apply bwA | apply bwN | apply bwD | refine below_set ?_ GE340.out) | exact HB.out)) hb); have n2_ := Aside0.mk (hbox); have n3_ := Aside0.mk ((by rw [hg]; exact (below_size (by repeat (first | (with_reducible first | exact HB.out | apply bwA | apply bwN | apply bwD | refine below_set ?_ GE340.out) | exact HB.out))) : w.heap.size ≤ gb341)); have n4_ := Aside0.mk ((by rw [hg]; exact (below_size (by repeat (first | (with_reducible first | exact HB.out | apply bwA | apply bwN | apply bwD | refine below_set ?_ GE340.out) | exact HB.out))) : w.heap.size ≤ gb341)); have n5_ := Aside0.mk ((by rw [hg]; exact Nat.ne_of_lt (blk_lt (g := gb340) (o := .cells #[.int .i64 a1_0, .int .i64 a1_1] 94 (0, 0)) (by (with_reducible repeat (first | refine blk_drewN ?_ _ | refine blk_drew ?_ | refine blk_alloc ?_ _)); exact BK340.out)) : gb340 ≠ gb341)); have n6_ := Aside0.mk ((by rw [hg]; exact Nat.ne_of_gt (blk_lt (g := gb340) (o := .cells #[.int .i64 a1_0, .int .i64 a1_1] 94 (0, 0)) (by (with_reducible repeat (first | refine blk_drewN ?_ _ | refine blk_drew ?_ | refine blk_alloc ?_ _)); exact BK340.out)) : gb341 ≠ gb340)); clear BK340; clear HB; have BK340 := n0_; have HB := n1_; have BK341 := n2_; have GW341 := n3_; have GE341 := n4_; have NB340_341 := n5_; have NB341_340 := n6_; clear n0_ n1_ n2_ n3_ n4_ n5_ n6_; clear hb hbox hg) | ((with_reducible refine gate_dst (N := 6) rfl ?_); refine box_event ?hg (N := 6) ?hd (cs := #[.int .i64 0, .int .i64 0]) (t := 94) ?hr ?_; (case hd => rfl); (case hg => rfl); (case hr => first | (go_simp; done) | (go_simp; rfl)); intro gb342 hg w105 hbox hb; have n0_ := Aside0.mk (blk_below (g := gb340) (o := .cells #[.int .i64 a1_0, .int .i64 a1_1] 94 (0, 0)) (by (with_reducible repeat (first | refine blk_drewN ?_ _ | refine blk_drew ?_ | refine blk_alloc ?_ _)); exact BK340.out) hb); have n1_ := Aside0.mk (blk_below (g := gb341) (o := .cells #[.int .i64 a2_0, .int .i64 a2_1] 94 (0, 0)) (by (with_reducible repeat (first | refine blk_drewN ?_ _ | refine blk_drew ?_ | refine blk_alloc ?_ _)); exact BK341.out) hb); have n2_ := Aside0.mk (below_step (by repeat (first | (with_reducible first | exact HB.out | apply bwA | apply bwN | apply bwD | refine below_set ?_ GE340.out | refine below_set ?_ GE341.out) | exact HB.out)) hb); have n3_ := Aside0.mk (hbox); have n4_ := Aside0.mk ((by rw [hg]; exact (below_size (by repeat (first | (with_reducible first | exact HB.out | apply bwA | apply bwN | apply bwD | refine below_set ?_ GE340.out | refine below_set ?_ GE341.out) | exact HB.out))) : w.heap.size ≤ gb342)); have n5_ := Aside0.mk ((by rw [hg]; exact (below_size (by repeat (first | (with_reducible first | exact HB.out | apply bwA | apply bwN | apply bwD | refine below_set ?_ GE340.out | refine below_set ?_ GE341.out) | exact HB.out))) : w.heap.size ≤ gb342)); have n6_ := Aside0.mk ((by rw [hg]; exact Nat.ne_of_lt (blk_lt (g := gb340) (o := .cells #[.int .i64 a1_0, .int .i64 a1_1] 94 (0, 0)) (by (with_reducible repeat (first | refine blk_drewN ?_ _ | refine blk_drew ?_ | refine blk_alloc ?_ _)); exact BK340.out)) : gb340 ≠ gb342)); have n7_ := Aside0.mk ((by rw [hg]; exact Nat.ne_of_gt (blk_lt (g := gb340) (o := .cells #[.int .i64 a1_0, .int .i64 a1_1] 94 (0, 0)) (by (with_reducible repeat (first | refine blk_drewN ?_ _ | refine blk_drew ?_ | refine blk_alloc ?_ _)); exact BK340.out)) : gb342 ≠ gb340)); have n8_ := Aside0.mk ((by rw [hg]; exact Nat.ne_of_lt (blk_lt (g := gb341) (o := .cells #[.int .i64 a2_0, .int .i64 a2_1] 94 (0, 0)) (by (with_reducible repeat (first | refine blk_drewN ?_ _ | refine blk_drew ?_ | refine blk_alloc ?_ _)); exact BK341.out)) : gb341 ≠ gb342)); have n9_ := Aside0.mk ((by rw [hg]; exact Nat.ne_of_gt (blk_lt (g := gb341) (o := .cells #[.int .i64 a2_0, .int .i64 a2_1] 94 (0, 0)) (by (with_reducible repeat (first | refine blk_drewN ?_ _ | refine blk_drew ?_ | refine blk_alloc ?_ _)); exact BK341.out)) : gb342 ≠ gb341)); clear BK340; clear BK341; clear HB; have BK340 := n0_; have BK341 := n1_; have HB := n2_; have BK342 := n3_; have GW342 := n4_; have GE342 := n5_; have NB340_342 := n6_; have NB342_340 := n7_; have NB341_342 := n8_; have NB342_341 := n9_; clear n0_ n1_ n2_ n3_ n4_ n5_ n6_ n7_ n8_ n9_; clear hb hbox hg))
       have n0_ := Aside0.mk (blk_drew BK340.out)
       have n1_ := Aside0.mk (blk_drew BK341.out)
       have n2_ := Aside0.mk (blk_drew BK342.out)
       have n3_ := Aside0.mk (below_drew1 HB.out)
       clear BK340
       clear BK341
       clear BK342
       clear HB
       have BK340 := n0_
       have BK341 := n1_
       have BK342 := n2_
       have HB := n3_
       clear n0_ n1_ n2_ n3_
       refine start_ (n := 14) (S := fun w' => w'.cell? ⟨gb340, 0, none⟩ = some (.int .i64 a1_0) ∧ w'.cell? ⟨gb340, 1, none⟩ = some (.int .i64 a1_1) ∧ w'.cell? ⟨gb341, 0, none⟩ = some (.int .i64 a2_0) ∧ w'.cell? ⟨gb341, 1, none⟩ = some (.int .i64 a2_1)) (ds := []) (Pt.bm 14 0) (by kernel_rfl) rfl rfl ⟨(blk_cell BK340.out 0).trans rfl, (blk_cell BK340.out 1).trans rfl, (blk_cell BK341.out 0).trans rfl, (blk_cell BK341.out 1).trans rfl⟩ (fun hHeld => ?_); refine with_tabW impl_spanOf.tab15 impl_spanOf.bits15 (fun HT_ HW_ => ?_)
       generalize w105.drew = w106 at BK340 BK341 BK342 HB hHeld ⊢
       refine Pt.pu 0 (some 122) (Pt.bm 14 1) (any_of HT_.out (by kernel_rfl)) ?_
       refine Pt.pu 1 (some 123) (Pt.bm 14 3) (any_of HT_.out (by kernel_rfl)) ?_
       refine Pt.pu 3 (some 125) (Pt.bm 14 11) (any_of HT_.out (by kernel_rfl)) ?_
       refine Pt.pu 6 (some 128) (Pt.bm 14 75) (any_of HT_.out (by kernel_rfl)) ?_
       refine Pt.pu 7 (some 129) (Pt.bm 14 203) (any_of HT_.out (by kernel_rfl)) ?_
       refine Pt.pu 9 (some 131) (Pt.bm 14 715) (any_of HT_.out (by kernel_rfl)) ?_
       refine Pt.tk 2 (some 124) (Pt.bm 14 719) rfl rfl (take_ofW HT_.out HW_.out (by kernel_rfl)) hHeld (Or.inl ⟨by rfl, by rintro w' ⟨s0, s1, s2, s3⟩; go_simp; with_reducible rfl⟩) ?_
       refine Pt.tk 4 (some 126) (Pt.bm 14 735) rfl rfl (take_ofW HT_.out HW_.out (by kernel_rfl)) hHeld (Or.inl ⟨by rfl, by rintro w' ⟨s0, s1, s2, s3⟩; go_simp; with_reducible rfl⟩) ?_
       refine Pt.tk 8 (some 130) (Pt.bm 14 991) rfl rfl (take_ofW HT_.out HW_.out (by kernel_rfl)) hHeld (Or.inl ⟨by rfl, by rintro w' ⟨s0, s1, s2, s3⟩; go_simp; with_reducible rfl⟩) ?_
       refine Pt.tk 10 (some 132) (Pt.bm 14 2015) rfl rfl (take_ofW HT_.out HW_.out (by kernel_rfl)) hHeld (Or.inl ⟨by rfl, by rintro w' ⟨s0, s1, s2, s3⟩; go_simp; with_reducible rfl⟩) ?_
       refine one_ (i := 5) (N := some 127) (Pt.bm 14 2047) rfl rfl (one_of HT_.out (by kernel_rfl)) (by decide) (fun K hK => ?_)
       refine goes_ Try.func104 (by kernel_rfl) rfl #[.int .i64 a0, .int .i64 a1_0, .int .i64 a2_0] (by rfl) rfl rfl (by (try simp only [List.map_toArray, List.map_cons, List.map_nil]); first | done | rfl | (simp only [List.length_drop, List.length_take]; rfl)) ?_
       with_reducible refine (impl_do.calls a0 a1_0 a2_0 t364 _ A101.out).mono ?_
       rintro e w107 ⟨rfl, hb⟩
       refine ⟨_, rfl, ?_⟩
       have n0_ := Aside0.mk (blk_below (g := gb340) (o := .cells #[.int .i64 a1_0, .int .i64 a1_1] 94 (0, 0)) (by (with_reducible repeat (first | refine blk_drewN ?_ _ | refine blk_drew ?_ | refine blk_alloc ?_ _)); exact BK340.out) hb)
       have n1_ := Aside0.mk (blk_below (g := gb341) (o := .cells #[.int .i64 a2_0, .int .i64 a2_1] 94 (0, 0)) (by (with_reducible repeat (first | refine blk_drewN ?_ _ | refine blk_drew ?_ | refine blk_alloc ?_ _)); exact BK341.out) hb)
       have n2_ := Aside0.mk (blk_below (g := gb342) (o := .cells #[.int .i64 0, .int .i64 0] 94 (0, 0)) (by (with_reducible repeat (first | refine blk_drewN ?_ _ | refine blk_drew ?_ | refine blk_alloc ?_ _)); exact BK342.out) hb)
       have n3_ := Aside0.mk (below_step (by repeat (first | (with_reducible first | exact HB.out | apply bwA | apply bwN | apply bwD | refine below_set ?_ GE340.out | refine below_set ?_ GE341.out | refine below_set ?_ GE342.out) | exact HB.out)) hb)
       clear BK340
       clear BK341
       clear BK342
       clear HB
       have BK340 := n0_
       have BK341 := n1_
       have BK342 := n2_
       have HB := n3_
       clear n0_ n1_ n2_ n3_
       (try clear hb)
       (try clear hb2)
       (try clear hk)
       (try clear hi)
       refine hK.out _ _ ⟨(blk_cell BK340.out 0).trans rfl, (blk_cell BK340.out 1).trans rfl, (blk_cell BK341.out 0).trans rfl, (blk_cell BK341.out 1).trans rfl⟩ (fun hHeld => ?_)
       clear hK K
       refine norm_ (a' := ?_) ?_ ?_
       rotate_left
       ·show Act.put _ (some 127) _ = _
        simp only [Act.put, List.setIfInBounds_toArray, List.set_cons_zero, List.set_cons_succ, i64_w, i32_w]
        rfl
       refine one_ (i := 11) (N := some 133) (Pt.bm 14 4095) rfl rfl (one_of HT_.out (by kernel_rfl)) (by decide) (fun K hK => ?_)
       refine goes_ Try.func104 (by kernel_rfl) rfl #[.int .i64 a0, .int .i64 a1_1, .int .i64 a2_1] (by rfl) rfl rfl (by (try simp only [List.map_toArray, List.map_cons, List.map_nil]); first | done | rfl | (simp only [List.length_drop, List.length_take]; rfl)) ?_
       with_reducible refine (impl_do.calls a0 a1_1 a2_1 t365 _ A102.out).mono ?_
       rintro e w108 ⟨rfl, hb⟩
       refine ⟨_, rfl, ?_⟩
       have n0_ := Aside0.mk (blk_below (g := gb340) (o := .cells #[.int .i64 a1_0, .int .i64 a1_1] 94 (0, 0)) (by (with_reducible repeat (first | refine blk_drewN ?_ _ | refine blk_drew ?_ | refine blk_alloc ?_ _)); exact BK340.out) hb)
       have n1_ := Aside0.mk (blk_below (g := gb341) (o := .cells #[.int .i64 a2_0, .int .i64 a2_1] 94 (0, 0)) (by (with_reducible repeat (first | refine blk_drewN ?_ _ | refine blk_drew ?_ | refine blk_alloc ?_ _)); exact BK341.out) hb)
       have n2_ := Aside0.mk (blk_below (g := gb342) (o := .cells #[.int .i64 0, .int .i64 0] 94 (0, 0)) (by (with_reducible repeat (first | refine blk_drewN ?_ _ | refine blk_drew ?_ | refine blk_alloc ?_ _)); exact BK342.out) hb)
       have n3_ := Aside0.mk (below_step (by repeat (first | (with_reducible first | exact HB.out | apply bwA | apply bwN | apply bwD | refine below_set ?_ GE340.out | refine below_set ?_ GE341.out | refine below_set ?_ GE342.out) | exact HB.out)) hb)
       clear BK340
       clear BK341
       clear BK342
       clear HB
       have BK340 := n0_
       have BK341 := n1_
       have BK342 := n2_
       have HB := n3_
       clear n0_ n1_ n2_ n3_
       (try clear hb)
       (try clear hb2)
       (try clear hk)
       (try clear hi)
       refine hK.out _ _ ⟨(blk_cell BK340.out 0).trans rfl, (blk_cell BK340.out 1).trans rfl, (blk_cell BK341.out 0).trans rfl, (blk_cell BK341.out 1).trans rfl⟩ (fun hHeld => ?_)
       clear hK K
       refine norm_ (a' := ?_) ?_ ?_
       rotate_left
       ·show Act.put _ (some 133) _ = _
        simp only [Act.put, List.setIfInBounds_toArray, List.set_cons_zero, List.set_cons_succ, i64_w, i32_w]
        rfl
       refine Pt.pu 12 (some 134) (Pt.bm 14 8191) (any_of HT_.out (by kernel_rfl)) ?_
       refine one_ (i := 13) (N := none) (Pt.bm 14 16383) rfl rfl (one_of HT_.out (by kernel_rfl)) (by decide) (fun K hK => ?_)
       have hs109 : w108.cell? ⟨gb342, 0, none⟩ = some (.int .i64 0) := (blk_cell BK342.out 0).trans rfl
       have hfs109 := blk_frozen BK342.out 0
       have hns109_0 := NB340_342.out
       have hns109_1 := NB341_342.out
       have hms109_0 := NB342_340.out
       have hms109_1 := NB342_341.out
       have hs110 : w108.cell? ⟨gb342, 1, none⟩ = some (.int .i64 0) := (blk_cell BK342.out 1).trans rfl
       have hfs110 := blk_frozen BK342.out 1
       have hns110_0 := NB340_342.out
       have hns110_1 := NB341_342.out
       have hms110_0 := NB342_340.out
       have hms110_1 := NB342_341.out
       refine skip_ (w1 := ?_) (by rfl) rfl ?_ ?_
       rotate_left
       ·go_simp
        rfl
       refine hK.out _ _ ⟨((cell_far (p := ⟨gb342, _, none⟩) NB340_342.out _).trans (((cell_far (p := ⟨gb342, _, none⟩) NB340_342.out _).trans (hHeld.1)))), ((cell_far (p := ⟨gb342, _, none⟩) NB340_342.out _).trans (((cell_far (p := ⟨gb342, _, none⟩) NB340_342.out _).trans (hHeld.2.1)))), ((cell_far (p := ⟨gb342, _, none⟩) NB341_342.out _).trans (((cell_far (p := ⟨gb342, _, none⟩) NB341_342.out _).trans (hHeld.2.2.1)))), ((cell_far (p := ⟨gb342, _, none⟩) NB341_342.out _).trans (((cell_far (p := ⟨gb342, _, none⟩) NB341_342.out _).trans (hHeld.2.2.2))))⟩ (fun hHeld => ?_)
       clear hK K
       refine done_ (done_of HT_.out (by kernel_rfl)) ?_
       try go_wp2
       refine bodyPost_ret (results_cell_row rfl _ _ gb342 94 #[.int .i64 t364, .int .i64 t365] (0, 0) _ rfl (by (with_reducible repeat (first | refine blk_drewN ?_ _ | refine blk_drew ?_ | refine blk_alloc ?_ _)); refine blk_put (cs := #[.int .i64 t364, .int .i64 0]) ?_ 1 _ rfl; (with_reducible repeat (first | refine blk_drewN ?_ _ | refine blk_drew ?_ | refine blk_alloc ?_ _)); refine blk_put (cs := #[.int .i64 0, .int .i64 0]) ?_ 0 _ rfl; (with_reducible repeat (first | refine blk_drewN ?_ _ | refine blk_drew ?_ | refine blk_alloc ?_ _)); exact BK342.out) Try.underlying94 rfl (by kernel_rfl)) rfl ?_
       exact ⟨by first | rfl | (simp [errW_none, errW_some] <;> rfl) | (simp [*, errW_none, errW_some] <;> rfl), by repeat (first | (with_reducible first | exact HB.out | apply bwA | apply bwN | apply bwD | refine below_set ?_ GE340.out | refine below_set ?_ GE341.out | refine below_set ?_ GE342.out) | exact HB.out)⟩

end Go.Proofs.Ytpfkgmcbogcmoaa.QFnExactRangeOf
