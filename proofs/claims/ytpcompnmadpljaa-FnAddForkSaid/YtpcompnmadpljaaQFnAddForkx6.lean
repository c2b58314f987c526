-- Written by a program of this session (mk.py). Lean checks it.
import Derived.Test.YtpcompnmadpljaaQFnAddForkx0
import Derived.Test.YtpcompnmadpljaaQFnAddForkx2
import Derived.Test.YtpcompnmadpljaaQFnAddForkx4
import Derived.Test.YtpcompnmadpljaaQFnAddForkx5
namespace Go.Proofs.Ytpcompnmadpljaa.QFnAddFork
open Go.RowKit Go.Proofs.YtpcompnmadpljaaW.PrintWords Go.Proofs.YtpcompnmadpljaaW.PrintLast Go.Proofs.YtpcompnmadpljaaW.PrintMore
attribute [local go_sem] max2_int min2_int max_two min_two max_three min_three max_four min_four   -- for this text's walks alone
set_option linter.unusedVariables false
set_option linter.unusedSimpArgs false

/-! ### spec_DrawAddFork: function 13 -/
mutual
def spec_DrawAddFork.j0 : Nat → Int → Bool → List Int → Int → Int → List (S71) → Option (Int × (List (S71)) × Int × Int × Int)
 | 0, _, _, _, _, _, _ => none
 | k + 1, x8, x26, x194000, x194001, x201000, x201001 => if x26 = true then ((spec_l40Rd_pick.f k x194000 x194001 (x201001.length : Int)).bind fun bt203 => (if 0 ≤ bt203.1 then (if bt203.1 < (x201001.length : Int) then (some (x201000, x201001, (rd_T71 x201001 bt203.1).f0, (rd_T71 x201001 bt203.1).f1, (rd_T71 x201001 bt203.1).f2)) else (none)) else (none))) else ((spec_l8Place.f x201000 x201001 x8).bind fun t207 => (if t207 = true then (spec_DrawAddFork.j1 k x8 0 (decide (x8 > 1)) x194000 x194001 x201000 x201001) else (spec_DrawAddFork.j1 k x8 0 false x194000 x194001 x201000 x201001)))
def spec_DrawAddFork.j1 : Nat → Int → Int → Bool → List Int → Int → Int → List (S71) → Option (Int × (List (S71)) × Int × Int × Int)
 | 0, _, _, _, _, _, _, _ => none
 | k + 1, x8, x10, x49, x194000, x194001, x201000, x201001 => if x49 = true then (if 0 ≤ (wrap64 (x8 - 2)) then (if (wrap64 (x8 - 2)) < (x201001.length : Int) then ((spec_l40Rd_pick.f k x194000 x194001 2).bind fun bt209 => ((spec_l40Rd_pick.f k x194000 bt209.2 (wrap64 ((x201001.length : Int) + 2))).bind fun bt211 => ((spec_l40Rd_num.f k x194000 bt211.2 (([0, 1, x8, bt211.1] : List Int))).bind fun bt216 => (some (x201000, x201001, wrap64 ((wrap64 (((rd_T71 x201001 (wrap64 (x8 - 2))).f0) - 1)) + bt209.1), x8, bt216.1))))) else (none)) else (none)) else ((spec_l40Rd_pick.f k x194000 x194001 (wrap64 ((x201001.length : Int) + 2))).bind fun bt218 => ((spec_l40Rd_num.f k x194000 bt218.2 (([0, 1, x8, bt218.1] : List Int))).bind fun bt223 => (some (x201000, x201001, x10, x8, bt223.1))))
end
def spec_DrawAddFork.f (k : Nat) (l0 : List Int) : Option (Int × (List (S71)) × Int × Int × Int) := (spec_l40Open.f l0).bind fun bt191 => ((spec_l8Any.f k bt191.1 bt191.2 5).bind fun bt194 => (if (bt194.2.1.length : Int) > 0 then ((spec_l40Rd_pick.f k bt191.1 bt194.2.2.2 3).bind fun bt201 => (spec_DrawAddFork.j0 k bt194.2.2.1 (bt201.1 == 0) bt191.1 bt201.2 bt194.1 bt194.2.1)) else (spec_DrawAddFork.j0 k bt194.2.2.1 false bt191.1 bt194.2.2.2 bt194.1 bt194.2.1)))
theorem spec_DrawAddFork.mono_l : ∀ k, (∀ y0 y1 y2 y3 y4 y5, LeO (spec_DrawAddFork.j0 k y0 y1 y2 y3 y4 y5) (spec_DrawAddFork.j0 (k + 1) y0 y1 y2 y3 y4 y5)) ∧ (∀ y0 y1 y2 y3 y4 y5 y6, LeO (spec_DrawAddFork.j1 k y0 y1 y2 y3 y4 y5 y6) (spec_DrawAddFork.j1 (k + 1) y0 y1 y2 y3 y4 y5 y6))
 | 0 => ⟨fun _ _ _ _ _ _ r h => by simp [spec_DrawAddFork.j0] at h, fun _ _ _ _ _ _ _ r h => by simp [spec_DrawAddFork.j1] at h⟩
 | k + 1 => by
  obtain ⟨ih0, ih1⟩ := spec_DrawAddFork.mono_l k
  refine ⟨?_, ?_⟩
  ·intro y0 y1 y2 y3 y4 y5
   unfold spec_DrawAddFork.j0
   repeat' first
   | (with_reducible exact ih0 _ _ _ _ _ _)
   | (with_reducible exact ih1 _ _ _ _ _ _ _)
   | (with_reducible exact spec_l40Rd_num.mono _ _ _ _)
   | (with_reducible exact spec_l40Rd_pick.mono _ _ _ _)
   | (with_reducible exact spec_l8Any.mono _ _ _ _)
   | (with_reducible exact LeO.refl _)
   | (with_reducible exact LeO.none _)
   | (with_reducible refine LeO.ite ?_ ?_)
   | (with_reducible refine LeO.bind ?_ (fun _ => ?_))
   | exact ih0 _ _ _ _ _ _
   | exact ih1 _ _ _ _ _ _ _
   | exact spec_l40Rd_num.mono _ _ _ _
   | exact spec_l40Rd_pick.mono _ _ _ _
   | exact spec_l8Any.mono _ _ _ _
   | exact LeO.none _
   | refine LeO.ite ?_ ?_
   | refine LeO.bind ?_ (fun _ => ?_)
  ·intro y0 y1 y2 y3 y4 y5 y6
   unfold spec_DrawAddFork.j1
   repeat' first
   | (with_reducible exact ih0 _ _ _ _ _ _)
   | (with_reducible exact ih1 _ _ _ _ _ _ _)
   | (with_reducible exact spec_l40Rd_num.mono _ _ _ _)
   | (with_reducible exact spec_l40Rd_pick.mono _ _ _ _)
   | (with_reducible exact spec_l8Any.mono _ _ _ _)
   | (with_reducible exact LeO.refl _)
   | (with_reducible exact LeO.none _)
   | (with_reducible refine LeO.ite ?_ ?_)
   | (with_reducible refine LeO.bind ?_ (fun _ => ?_))
   | exact ih0 _ _ _ _ _ _
   | exact ih1 _ _ _ _ _ _ _
   | exact spec_l40Rd_num.mono _ _ _ _
   | exact spec_l40Rd_pick.mono _ _ _ _
   | exact spec_l8Any.mono _ _ _ _
   | exact LeO.none _
   | refine LeO.ite ?_ ?_
   | refine LeO.bind ?_ (fun _ => ?_)
theorem spec_DrawAddFork.mono : ∀ a0 k, LeO (spec_DrawAddFork.f k a0) (spec_DrawAddFork.f (k + 1) a0) := by
 intro a0 k
 obtain ⟨ih0, ih1⟩ := spec_DrawAddFork.mono_l k
 unfold spec_DrawAddFork.f
 repeat' first
   | (with_reducible exact ih0 _ _ _ _ _ _)
   | (with_reducible exact ih1 _ _ _ _ _ _ _)
   | (with_reducible exact spec_l40Rd_num.mono _ _ _ _)
   | (with_reducible exact spec_l40Rd_pick.mono _ _ _ _)
   | (with_reducible exact spec_l8Any.mono _ _ _ _)
   | (with_reducible exact LeO.refl _)
   | (with_reducible exact LeO.none _)
   | (with_reducible refine LeO.ite ?_ ?_)
   | (with_reducible refine LeO.bind ?_ (fun _ => ?_))
   | exact ih0 _ _ _ _ _ _
   | exact ih1 _ _ _ _ _ _ _
   | exact spec_l40Rd_num.mono _ _ _ _
   | exact spec_l40Rd_pick.mono _ _ _ _
   | exact spec_l8Any.mono _ _ _ _
   | exact LeO.none _
   | refine LeO.ite ?_ ?_
   | refine LeO.bind ?_ (fun _ => ?_)
def spec_DrawAddFork.T4 : Bool × List (List Nat × List Nat) := (true, [([], []), ([0], [0]), ([], []), ([], []), ([3], [3]), ([4], [4]), ([2, 5], [2, 5]), ([1, 6], [1, 6]), ([7], [7]), ([], []), ([9, 8, 6, 0, 1, 2, 3, 4, 5, 6, 7, 8, 9], [8, 9])])
def spec_DrawAddFork.B4 : List Nat := [0, 1, 0, 0, 8, 24, 60, 127, 255, 0, 1023]
theorem spec_DrawAddFork.tab4 : rtab .any (opsOf Try.f13 4) = spec_DrawAddFork.T4 := by kernel_rfl
theorem spec_DrawAddFork.bits4 : waitsOk spec_DrawAddFork.T4.2 spec_DrawAddFork.B4 = true := by kernel_rfl
def spec_DrawAddFork.T5 : Bool × List (List Nat × List Nat) := (true, [([], []), ([], []), ([1], [1]), ([], []), ([3], [3]), ([], []), ([5], [5]), ([0, 0], [0]), ([2, 7, 0, 1, 2, 7], [2]), ([4, 8, 0, 1, 2, 3, 4, 7, 8], [4]), ([6, 9, 0, 1, 2, 3, 4, 5, 6, 7, 8, 9], [6])])
def spec_DrawAddFork.B5 : List Nat := [0, 0, 2, 0, 8, 0, 32, 1, 135, 415, 1023]
theorem spec_DrawAddFork.tab5 : rtab .any (opsOf Try.f13 5) = spec_DrawAddFork.T5 := by kernel_rfl
theorem spec_DrawAddFork.bits5 : waitsOk spec_DrawAddFork.T5.2 spec_DrawAddFork.B5 = true := by kernel_rfl
def spec_DrawAddFork.T8 : Bool × List (List Nat × List Nat) := (true, [([], []), ([0], [0]), ([], []), ([2], [2]), ([1, 3], [1, 3]), ([4], [4]), ([5], [5]), ([6], [6]), ([], []), ([8], [8]), ([7, 9], [7, 9]), ([10, 9, 0, 1, 2, 3, 4, 5, 6, 7, 8, 9, 10], [10])])
def spec_DrawAddFork.B8 : List Nat := [0, 1, 0, 4, 15, 31, 63, 127, 0, 256, 1023, 2047]
theorem spec_DrawAddFork.tab8 : rtab .any (opsOf Try.f13 8) = spec_DrawAddFork.T8 := by kernel_rfl
theorem spec_DrawAddFork.bits8 : waitsOk spec_DrawAddFork.T8.2 spec_DrawAddFork.B8 = true := by kernel_rfl
def spec_DrawAddFork.T9 : Bool × List (List Nat × List Nat) := (true, [([], []), ([], []), ([], []), ([], []), ([], []), ([], []), ([], []), ([6], [6]), ([7], [7]), ([8], [8]), ([5, 9], [5, 9]), ([4, 10], [4, 10]), ([3, 11, 10], [3, 11]), ([0, 12, 0], [0]), ([1, 13, 0, 1, 13], [1]), ([2, 14, 0, 1, 2, 13, 14], [2]), ([12, 15, 0, 1, 2, 3, 4, 5, 6, 7, 8, 9, 10, 11, 12, 13, 14, 15], [12])])
def spec_DrawAddFork.B9 : List Nat := [0, 0, 0, 0, 0, 0, 0, 64, 192, 448, 992, 2032, 4088, 8185, 16379, 32767, 65535]
theorem spec_DrawAddFork.tab9 : rtab .any (opsOf Try.f13 9) = spec_DrawAddFork.T9 := by kernel_rfl
theorem spec_DrawAddFork.bits9 : waitsOk spec_DrawAddFork.T9.2 spec_DrawAddFork.B9 = true := by kernel_rfl
set_option maxHeartbeats 8000000 in
set_option maxRecDepth 100000 in
theorem spec_DrawAddFork.calls (k : Nat) (A0 : Option Addr) (c0 : Nat) (l0 : List Int) (r1 : Int) (r2 : List (S71)) (r3 : Int) (r4 : Int) (r5 : Int) (w : World) (hr0 : Kd.C (Kd.int .u8) w A0 l0.length l0) (hc0 : l0.length ≤ c0) (h : spec_DrawAddFork.f k l0 = some (r1, r2, r3, r4, r5)) :
  Calls Try.prog 13 #[.slice A0 l0.length c0] w fun e w' => ∃ v1_ : Value, e = .returned (.tuple #[.agg #[.int .i64 r1, v1_], .int .i64 r3, .int .i64 r4, .int .i64 r5]) ∧ Kd.R k71 71 w' w.heap.size (fun _ => True) v1_ r2 ∧ Below w.heap.size w w' := by
 have hu25 := Try.underlying25
 have hu71 := Try.underlying71
 have HR0 := Aside0.mk hr0
 have HC0 := Aside0.mk hc0
 clear hr0 hc0
 have HB := Aside0.mk (Below.refl w.heap.size w)
 have H : ((spec_l40Open.f l0).bind fun bt191 => ((spec_l8Any.f k bt191.1 bt191.2 5).bind fun bt194 => (if (bt194.2.1.length : Int) > 0 then ((spec_l40Rd_pick.f k bt191.1 bt194.2.2.2 3).bind fun bt201 => (spec_DrawAddFork.j0 k bt194.2.2.1 (bt201.1 == 0) bt191.1 bt201.2 bt194.1 bt194.2.1)) else (spec_DrawAddFork.j0 k bt194.2.2.1 false bt191.1 bt194.2.2.2 bt194.1 bt194.2.1)))) = some (r1, r2, r3, r4, r5) := h
 clear h
 replace H := Option.bind_eq_some_iff.mp H
 obtain ⟨⟨t191, t192⟩, A20, H⟩ := H
 replace H : ((spec_l8Any.f k t191 t192 5).bind fun bt194 => (if (bt194.2.1.length : Int) > 0 then ((spec_l40Rd_pick.f k t191 bt194.2.2.2 3).bind fun bt201 => (spec_DrawAddFork.j0 k bt194.2.2.1 (bt201.1 == 0) t191 bt201.2 bt194.1 bt194.2.1)) else (spec_DrawAddFork.j0 k bt194.2.2.1 false t191 bt194.2.2.2 bt194.1 bt194.2.1))) = some (r1, r2, r3, r4, r5) := H
 have A2 := Aside0.mk A20
 clear A20
 replace H := Option.bind_eq_some_iff.mp H
 obtain ⟨⟨t194, t195, t198, t199⟩, A30, H⟩ := H
 replace H : (if (t195.length : Int) > 0 then ((spec_l40Rd_pick.f k t191 t199 3).bind fun bt201 => (spec_DrawAddFork.j0 k t198 (bt201.1 == 0) t191 bt201.2 t194 t195)) else (spec_DrawAddFork.j0 k t198 false t191 t199 t194 t195)) = some (r1, r2, r3, r4, r5) := H
 have A3 := Aside0.mk A30
 clear A30
 have HC4 := Aside0.mk H
 clear H
 go_enter Try.func13, Try.ntmps13
 go_upto_region 3 with (first | ((with_reducible refine gate_dst (N := 2) rfl ?_); refine box_event ?hg (N := 2) ?hd (cs := #[.int .i64 0, .slice none 0 0]) (t := 25) ?hr ?_; (case hd => rfl); (case hg => rfl); (case hr => first | (go_simp; done) | (go_simp; rfl)); intro gb190 hg w5 hbox hb; have n0_ := Aside0.mk (below_step (by repeat (first | (with_reducible first | exact HB.out | apply bwA | apply bwN | apply bwD) | exact HB.out)) hb); have n1_ := Aside0.mk (hbox); have n2_ := Aside0.mk ((by rw [hg]; exact (below_size (by repeat (first | (with_reducible first | exact HB.out | apply bwA | apply bwN | apply bwD) | exact HB.out))) : w.heap.size ≤ gb190)); have n3_ := Aside0.mk ((by rw [hg]; exact (below_size (by repeat (first | (with_reducible first | exact HB.out | apply bwA | apply bwN | apply bwD) | exact HB.out))) : w.heap.size ≤ gb190)); clear HB; have HB := n0_; have BK190 := n1_; have GW190 := n2_; have GE190 := n3_; clear n0_ n1_ n2_ n3_; clear hb hbox hg) | ((with_reducible refine gate_callee (f := 47) rfl ?_); refine goesL_ (some 12) rfl rfl Try.func47 (by kernel_rfl) rfl #[.slice A0 l0.length c0] rfl lmB ?_; (with_reducible refine (spec_l40Open.calls _ _ l0 t191 t192 w _ ?side1 ?side2 ?side3 A2.out).mono ?_); (case side1 => repeat (first | (with_reducible first | exact HB.out | apply bwA | apply bwN | apply bwD | refine below_set ?_ GE190.out) | exact HB.out)); (case side2 => exact HR0.out); (case side3 => exact HC0.out); rintro e w6 ⟨g193, rfl, hi, hb, hb2⟩; refine ⟨_, rfl, ?_⟩; have n0_ := Aside0.mk (blk_below (g := gb190) (o := .cells #[.int .i64 0, .slice none 0 0] 25 (0, 0)) (bvK BK190.out) hb2); have n1_ := Aside0.mk (hb); have n2_ := Aside0.mk (hi); have n3_ := Aside0.mk (IsS106.ne_blk hi (blk_below (g := gb190) (o := .cells #[.int .i64 0, .slice none 0 0] 25 (0, 0)) (bvK BK190.out) hb2) (by decide)); have n4_ := Aside0.mk (Ne.symm (IsS106.ne_blk hi (blk_below (g := gb190) (o := .cells #[.int .i64 0, .slice none 0 0] 25 (0, 0)) (bvK BK190.out) hb2) (by decide))); clear BK190; clear HB; have BK190 := n0_; have HB := n1_; have HI193 := n2_; have NB193_190 := n3_; have NB190_193 := n4_; clear n0_ n1_ n2_ n3_ n4_; (try clear hb); (try clear hb2); (try clear hk); (try clear hi)) | ((with_reducible refine gate_callee (f := 48) rfl ?_); refine goesL_ (some 15) rfl rfl Try.func48 (by kernel_rfl) rfl #[.pointer (some ⟨g193, 0, none⟩), .int .i64 5] rfl lmB ?_; (with_reducible refine (spec_l8Any.calls k g193 t191 t192 5 t194 t195 t198 t199 w _ ?side1 ?side2 A3.out).mono ?_); (case side1 => repeat (first | (with_reducible first | exact HI193.out | apply IsS106.alloc | apply IsS106.drewN | apply IsS106.drew | apply IsS106.set_1 | refine IsS106.far ?_ NB193_190.out _) | exact HI193.out)); (case side2 => repeat (first | (with_reducible first | exact HB.out | apply bwA | apply bwN | apply bwD | refine below_set ?_ (IsS106.ge HI193.out) | refine below_set ?_ GE190.out) | exact HB.out)); rintro e w7 ⟨v196, rfl, ho0, hi, hb, hk⟩; refine ⟨_, rfl, ?_⟩; have n0_ := Aside0.mk (KeepBut.blk hk (g' := gb190) (o := .cells #[.int .i64 0, .slice none 0 0] 25 (0, 0)) (bvK BK190.out) NB190_193.out (by simp)); have n1_ := Aside0.mk (Kd.R_lower ho0 (below_size (by repeat (first | (with_reducible first | exact HB.out | apply bwA | apply bwN | apply bwD | refine below_set ?_ (IsS106.ge HI193.out) | refine below_set ?_ GE190.out) | exact HB.out)))); have n2_ := Aside0.mk (hb); have n3_ := Aside0.mk (hi); clear BK190; clear HB; clear HI193; have BK190 := n0_; have HO197 := n1_; have HB := n2_; have HI193 := n3_; clear n0_ n1_ n2_ n3_; (try clear hb); (try clear hb2); (try clear hk); (try clear hi); (try clear ho0)) | ((with_reducible refine gate_dst (N := 7) rfl ?_); refine box_event ?hg (N := 7) ?hd (cs := #[.int .i64 0, .slice none 0 0]) (t := 25) ?hr ?_; (case hd => rfl); (case hg => rfl); (case hr => first | (go_simp; done) | (go_simp; rfl)); intro gb200 hg w8 hbox hb; have n0_ := Aside0.mk (Kd.R_below (rvR HO197.out) hb); have n1_ := Aside0.mk (blk_below (g := gb190) (o := .cells #[.int .i64 0, .slice none 0 0] 25 (0, 0)) (bvK BK190.out) hb); have n2_ := Aside0.mk (IsS106.below (by repeat (first | (with_reducible first | exact HI193.out | apply IsS106.alloc | apply IsS106.drewN | apply IsS106.drew | apply IsS106.set_1 | refine IsS106.far ?_ NB193_190.out _) | exact HI193.out)) hb); have n3_ := Aside0.mk (below_step (by repeat (first | (with_reducible first | exact HB.out | apply bwA | apply bwN | apply bwD | refine below_set ?_ (IsS106.ge HI193.out) | refine below_set ?_ GE190.out) | exact HB.out)) hb); have n4_ := Aside0.mk (hbox); have n5_ := Aside0.mk ((by rw [hg]; exact (below_size (by repeat (first | (with_reducible first | exact HB.out | apply bwA | apply bwN | apply bwD | refine below_set ?_ (IsS106.ge HI193.out) | refine below_set ?_ GE190.out) | exact HB.out))) : w.heap.size ≤ gb200)); have n6_ := Aside0.mk ((by rw [hg]; exact (below_size (by repeat (first | (with_reducible first | exact HB.out | apply bwA | apply bwN | apply bwD | refine below_set ?_ (IsS106.ge HI193.out) | refine below_set ?_ GE190.out) | exact HB.out))) : w.heap.size ≤ gb200)); have n7_ := Aside0.mk ((by rw [hg]; exact Nat.ne_of_lt (blk_lt (g := gb190) (o := .cells #[.int .i64 0, .slice none 0 0] 25 (0, 0)) (bvK BK190.out)) : gb190 ≠ gb200)); have n8_ := Aside0.mk ((by rw [hg]; exact Nat.ne_of_gt (blk_lt (g := gb190) (o := .cells #[.int .i64 0, .slice none 0 0] 25 (0, 0)) (bvK BK190.out)) : gb200 ≠ gb190)); have n9_ := Aside0.mk ((by rw [hg]; exact Nat.ne_of_lt (IsS106.lt (show IsS106 w _ g193 t191 t199 from by repeat (first | (with_reducible first | exact HI193.out | apply IsS106.alloc | apply IsS106.drewN | apply IsS106.drew | apply IsS106.set_1 | refine IsS106.far ?_ NB193_190.out _) | exact HI193.out))) : g193 ≠ gb200)); have n10_ := Aside0.mk ((by rw [hg]; exact Nat.ne_of_gt (IsS106.lt (show IsS106 w _ g193 t191 t199 from by repeat (first | (with_reducible first | exact HI193.out | apply IsS106.alloc | apply IsS106.drewN | apply IsS106.drew | apply IsS106.set_1 | refine IsS106.far ?_ NB193_190.out _) | exact HI193.out))) : gb200 ≠ g193)); clear HO197; clear BK190; clear HI193; clear HB; have HO197 := n0_; have BK190 := n1_; have HI193 := n2_; have HB := n3_; have BK200 := n4_; have GW200 := n5_; have GE200 := n6_; have NB190_200 := n7_; have NB200_190 := n8_; have NB193_200 := n9_; have NB200_193 := n10_; clear n0_ n1_ n2_ n3_ n4_ n5_ n6_ n7_ n8_ n9_ n10_; clear hb hbox hg; have hnb9 := NB200_190.out; have hnc9 := NB190_200.out; have hnb10 := NB200_193.out; have hnc10 := NB193_200.out; have hcz11_0 : w8.cell? ⟨gb200, 0, none⟩ = some (.int .i64 0) := (blk_cell BK200.out 0).trans rfl; have hcz11_1 : w8.cell? ⟨gb200, 1, none⟩ = some (.slice none 0 0) := (blk_cell BK200.out 1).trans rfl; have hfz11_0 := blk_frozen BK200.out 0; have hfz11_1 := blk_frozen BK200.out 1; obtain ⟨Ao12, co12, eo12⟩ := Kd.R_slice HO197.out; subst eo12))
 (try simp only [Act.put, List.setIfInBounds_toArray, List.set_cons_zero, List.set_cons_succ])
 go_cut [26] (fun v26 wc => ∃ (kq : Nat) (x26_3 : Bool) (x194001_3 : Int), v26 = .bool x26_3 ∧ Aside0 (spec_DrawAddFork.j0 kq t198 x26_3 t191 x194001_3 t194 t195 = some (r1, r2, r3, r4, r5)) ∧ Aside0 (kq ≤ k) ∧ Aside0 (Kd.R k71 71 wc w.heap.size (fun _ => True) (.slice Ao12 t195.length co12) t195) ∧ Aside0 (wc.heap[gb190]? = some (.cells #[.int .i64 0, (.slice none 0 0)] 25 (0, 0))) ∧ Aside0 (wc.heap[gb200]? = some (.cells #[.int .i64 t194, (.slice Ao12 t195.length co12)] 25 (0, 0))) ∧ Aside0 (IsS106 w wc g193 t191 x194001_3) ∧ Aside0 (Below w.heap.size w wc))
 case first =>
  have H := HC4.out
  clear HC4
  by_cases c13 : (t195.length : Int) > 0
  ·rw [if_pos c13] at H
   have c13b0 : decide (0 < (t195.length : Int)) = true := decide_eq_true c13
   have c13b1 : decide (0 < t195.length) = true := decide_eq_true (by omega)
   clear c13
   (first | rw [c13b0] | (simp only [i64_w, i32_w]; rw [c13b0]) | skip)
   replace H := Option.bind_eq_some_iff.mp H
   obtain ⟨⟨t201, t202⟩, A140, H⟩ := H
   replace H : (spec_DrawAddFork.j0 k t198 (t201 == 0) t191 t202 t194 t195) = some (r1, r2, r3, r4, r5) := H
   have A14 := Aside0.mk A140
   clear A140
   have H' := Aside0.mk H
   clear H
   have hnb15 := NB200_190.out
   have hnc15 := NB190_200.out
   have hnb16 := NB200_193.out
   have hnc16 := NB193_200.out
   have hcz17_0 : w8.cell? ⟨gb200, 0, none⟩ = some (.int .i64 0) := (blk_cell BK200.out 0).trans rfl
   have hcz17_1 : w8.cell? ⟨gb200, 1, none⟩ = some (.slice none 0 0) := (blk_cell BK200.out 1).trans rfl
   have hfz17_0 := blk_frozen BK200.out 0
   have hfz17_1 := blk_frozen BK200.out 1
   go_wp2_with (first | (go_at_call 49; (with_reducible refine (spec_l40Rd_pick.calls k g193 t191 t199 3 t201 t202 w _ ?side1 ?side2 A14.out).mono ?_); (case side1 => repeat (first | (with_reducible first | exact HI193.out | apply IsS106.alloc | apply IsS106.drewN | apply IsS106.drew | apply IsS106.set_1 | refine IsS106.far ?_ NB193_190.out _ | refine IsS106.far ?_ NB193_200.out _) | exact HI193.out)); (case side2 => repeat (first | (with_reducible first | exact HB.out | apply bwA | apply bwN | apply bwD | refine below_set ?_ (IsS106.ge HI193.out) | refine below_set ?_ GE190.out | refine below_set ?_ GE200.out) | exact HB.out)); rintro e w18 ⟨rfl, hi, hb, hk⟩; have n0_ := Aside0.mk (KeepBut.blk hk (g' := gb190) (o := .cells #[.int .i64 0, .slice none 0 0] 25 (0, 0)) (by (with_reducible repeat (first | refine blk_drewN ?_ _ | refine blk_drew ?_ | refine blk_alloc ?_ _)); refine blk_far ?_ NB190_200.out _; (with_reducible repeat (first | refine blk_drewN ?_ _ | refine blk_drew ?_ | refine blk_alloc ?_ _)); refine blk_far ?_ NB190_200.out _; (with_reducible repeat (first | refine blk_drewN ?_ _ | refine blk_drew ?_ | refine blk_alloc ?_ _)); exact BK190.out) NB190_193.out (by simp)); have n1_ := Aside0.mk (Kd.R_mono (Kd.R_keep (IsS106.apart (show IsS106 w _ g193 t191 t199 from by repeat (first | (with_reducible first | exact HI193.out | apply IsS106.alloc | apply IsS106.drewN | apply IsS106.drew | apply IsS106.set_1 | refine IsS106.far ?_ NB193_190.out _ | refine IsS106.far ?_ NB193_200.out _) | exact HI193.out)) (by (with_reducible repeat (first | apply Kd.R_alloc | apply Kd.R_drewN | apply Kd.R_drew)); exact (Kd.R_mono (Kd.R_far (p := ⟨gb200, 1, none⟩) (Kd.R_far (p := ⟨gb200, 0, none⟩) (Kd.R_types HO197.out BK200.out (by decide)) (fun _ hk => hk.2) (.int .i64 t194)) (fun _ hk => hk.2) (.slice Ao12 t195.length co12)) (fun _ h_ => h_.1))) (by decide)) hk (fun _ h => h.2)) (fun _ h => h.1)); have n2_ := Aside0.mk (KeepBut.blk hk (g' := gb200) (o := .cells #[.int .i64 t194, .slice Ao12 t195.length co12] 25 (0, 0)) (by (with_reducible repeat (first | refine blk_drewN ?_ _ | refine blk_drew ?_ | refine blk_alloc ?_ _)); refine blk_put (cs := #[.int .i64 t194, .slice none 0 0]) ?_ 1 _ rfl; (with_reducible repeat (first | refine blk_drewN ?_ _ | refine blk_drew ?_ | refine blk_alloc ?_ _)); refine blk_put (cs := #[.int .i64 0, .slice none 0 0]) ?_ 0 _ rfl; (with_reducible repeat (first | refine blk_drewN ?_ _ | refine blk_drew ?_ | refine blk_alloc ?_ _)); exact BK200.out) NB200_193.out (by simp)); have n3_ := Aside0.mk (hb); have n4_ := Aside0.mk (hi); clear BK190; clear HO197; clear BK200; clear HB; clear HI193; have BK190 := n0_; have HO197 := n1_; have BK200 := n2_; have HB := n3_; have HI193 := n4_; clear n0_ n1_ n2_ n3_ n4_; (try clear hb); (try clear hb2); (try clear hk); (try clear hi)))
   go_meet
   case rel => exact ⟨_, ((t201 == 0)), (t202), rsd, H', ⟨by first | omega | exact Nat.le_refl _⟩, ⟨rvR HO197.out⟩, ⟨bvK BK190.out⟩, ⟨bvK BK200.out⟩, ⟨by repeat (first | (with_reducible first | exact HI193.out | apply IsS106.alloc | apply IsS106.drewN | apply IsS106.drew | apply IsS106.set_1 | refine IsS106.far ?_ NB193_190.out _ | refine IsS106.far ?_ NB193_200.out _) | exact HI193.out)⟩, ⟨by repeat (first | (with_reducible first | exact HB.out | apply bwA | apply bwN | apply bwD | refine below_set ?_ (IsS106.ge HI193.out) | refine below_set ?_ GE190.out | refine below_set ?_ GE200.out) | exact HB.out)⟩⟩
  ·rw [if_neg c13] at H
   have c13b0 : decide (0 < (t195.length : Int)) = false := decide_eq_false c13
   have c13b1 : decide (0 < t195.length) = false := decide_eq_false (by omega)
   clear c13
   (first | rw [c13b0] | (simp only [i64_w, i32_w]; rw [c13b0]) | skip)
   have H' := Aside0.mk H
   clear H
   have hnb19 := NB200_190.out
   have hnc19 := NB190_200.out
   have hnb20 := NB200_193.out
   have hnc20 := NB193_200.out
   have hcz21_0 : w8.cell? ⟨gb200, 0, none⟩ = some (.int .i64 0) := (blk_cell BK200.out 0).trans rfl
   have hcz21_1 : w8.cell? ⟨gb200, 1, none⟩ = some (.slice none 0 0) := (blk_cell BK200.out 1).trans rfl
   have hfz21_0 := blk_frozen BK200.out 0
   have hfz21_1 := blk_frozen BK200.out 1
   go_wp2
   go_meet
   case rel => exact ⟨_, (false), (t199), rsd, H', ⟨by first | omega | exact Nat.le_refl _⟩, ⟨by (with_reducible repeat (first | apply Kd.R_alloc | apply Kd.R_drewN | apply Kd.R_drew)); exact Kd.R_mono (Kd.R_far (p := ⟨gb200, 1, none⟩) (Kd.R_far (p := ⟨gb200, 0, none⟩) (Kd.R_types HO197.out BK200.out (by decide)) (fun _ hk => hk.2) (.int .i64 t194)) (fun _ hk => hk.2) (.slice Ao12 t195.length co12)) (fun _ hk => trivial)⟩, ⟨by (with_reducible repeat (first | refine blk_drewN ?_ _ | refine blk_drew ?_ | refine blk_alloc ?_ _)); refine blk_far ?_ NB190_200.out _; (with_reducible repeat (first | refine blk_drewN ?_ _ | refine blk_drew ?_ | refine blk_alloc ?_ _)); refine blk_far ?_ NB190_200.out _; (with_reducible repeat (first | refine blk_drewN ?_ _ | refine blk_drew ?_ | refine blk_alloc ?_ _)); exact BK190.out⟩, ⟨by (with_reducible repeat (first | refine blk_drewN ?_ _ | refine blk_drew ?_ | refine blk_alloc ?_ _)); refine blk_put (cs := #[.int .i64 t194, .slice none 0 0]) ?_ 1 _ rfl; (with_reducible repeat (first | refine blk_drewN ?_ _ | refine blk_drew ?_ | refine blk_alloc ?_ _)); refine blk_put (cs := #[.int .i64 0, .slice none 0 0]) ?_ 0 _ rfl; (with_reducible repeat (first | refine blk_drewN ?_ _ | refine blk_drew ?_ | refine blk_alloc ?_ _)); exact BK200.out⟩, ⟨by repeat (first | (with_reducible first | exact HI193.out | apply IsS106.alloc | apply IsS106.drewN | apply IsS106.drew | apply IsS106.set_1 | refine IsS106.far ?_ NB193_190.out _ | refine IsS106.far ?_ NB193_200.out _) | exact HI193.out)⟩, ⟨by repeat (first | (with_reducible first | exact HB.out | apply bwA | apply bwN | apply bwD | refine below_set ?_ (IsS106.ge HI193.out) | refine below_set ?_ GE190.out | refine below_set ?_ GE200.out) | exact HB.out)⟩⟩
 case rest =>
  clear HC4
  try clear c1
  try clear c2
  try clear p2
  try clear c4
  try clear c9
  try clear c10
  try clear c13
  try clear c13b0
  try clear c13b1
  try clear c15
  try clear c16
  try clear c19
  try clear c20
  try clear hcz11_0
  try clear hcz11_1
  try clear hcz17_0
  try clear hcz17_1
  try clear hcz21_0
  try clear hcz21_1
  try clear hfz11_0
  try clear hfz11_1
  try clear hfz17_0
  try clear hfz17_1
  try clear hfz21_0
  try clear hfz21_1
  obtain ⟨kq, x26_3, x194001_3, rfl, HA, HJ3, HO_201001, BK190, BK200, HI193, HB⟩ := hcut
  cases kq with
  | zero => exact absurd HA.out (by simp [spec_DrawAddFork.j0])
  | succ kj3 =>
   have H := HA.out
   clear HA
   simp only [spec_DrawAddFork.j0] at H
   by_cases c22 : x26_3 = true
   ·subst c22
    have H1 : ((spec_l40Rd_pick.f kj3 t191 x194001_3 (t195.length : Int)).bind fun bt203 => (if 0 ≤ bt203.1 then (if bt203.1 < (t195.length : Int) then (some (t194, t195, (rd_T71 t195 bt203.1).f0, (rd_T71 t195 bt203.1).f1, (rd_T71 t195 bt203.1).f2)) else (none)) else (none))) = some (r1, r2, r3, r4, r5) := by rw [if_pos rfl] at H; exact H
    clear H
    have H := H1
    clear H1
    replace H := Option.bind_eq_some_iff.mp H
    obtain ⟨⟨t203, t204⟩, A230, H⟩ := H
    replace H : (if 0 ≤ t203 then (if t203 < (t195.length : Int) then (some (t194, t195, (rd_T71 t195 t203).f0, (rd_T71 t195 t203).f1, (rd_T71 t195 t203).f2)) else (none)) else (none)) = some (r1, r2, r3, r4, r5) := H
    have A23 := Aside0.mk A230
    clear A230
    by_cases c24 : 0 ≤ t203
    ·rw [if_pos c24] at H
     have c24b0 : decide (0 ≤ t203) = true := decide_eq_true c24
     clear c24
     by_cases c25 : t203 < (t195.length : Int)
     ·rw [if_pos c25] at H
      have c25b0 : decide (t203 < (t195.length : Int)) = true := decide_eq_true c25
      clear c25
      simp only [Option.some.injEq, Prod.mk.injEq] at H
      obtain ⟨rfl, rfl, rfl, rfl, rfl⟩ := H
      try go_wp2
      have n0_ := Aside0.mk (Kd.R_drew HO_201001.out)
      have n1_ := Aside0.mk (blk_drew BK190.out)
      have n2_ := Aside0.mk (blk_drew BK200.out)
      have n3_ := Aside0.mk (IsS106.drew HI193.out)
      have n4_ := Aside0.mk (below_drew1 HB.out)
      clear HO_201001
      clear BK190
      clear BK200
      clear HI193
      clear HB
      have HO_201001 := n0_
      have BK190 := n1_
      have BK200 := n2_
      have HI193 := n3_
      have HB := n4_
      clear n0_ n1_ n2_ n3_ n4_
      have p205 : 0 ≤ (t203 : Int) := oda
      have q205 : t203 < (t195.length : Int) := oda
      obtain ⟨ad205, e205, hx205_0, hx205_1, hx205_2⟩ := at_T71 (Kd.R_reads' HO_201001.out).2.2 t203 p205 q205
      cases e205
      replace p205 := eq_true p205
      replace q205 := eq_true q205
      refine start_ (n := 11) (S := fun w' => w'.cell? ⟨gb200, 0, none⟩ = some (.int .i64 t194) ∧ w'.cell? ⟨gb200, 1, none⟩ = some (.slice (some ad205) t195.length co12) ∧ w'.cell? (ad205.add ((t203).toNat * 3)) = some (.int .i64 ((rd_T71 t195 t203).f0)) ∧ w'.cell? ⟨(ad205.add ((t203).toNat * 3)).block, (ad205.add ((t203).toNat * 3)).off + 1, none⟩ = some (.int .i64 ((rd_T71 t195 t203).f1)) ∧ w'.cell? ⟨(ad205.add ((t203).toNat * 3)).block, (ad205.add ((t203).toNat * 3)).off + 2, none⟩ = some (.int .i64 ((rd_T71 t195 t203).f2))) (ds := []) (Pt.bm 11 0) (by kernel_rfl) rfl rfl ⟨(blk_cell BK200.out 0).trans rfl, (blk_cell BK200.out 1).trans rfl, hx205_0, hx205_1, hx205_2⟩ (fun hHeld => ?_); refine with_tabW spec_DrawAddFork.tab4 spec_DrawAddFork.bits4 (fun HT_ HW_ => ?_)
      generalize wc.drew = w26 at HO_201001 BK190 BK200 HI193 HB hx205_0 hx205_1 hx205_2 hHeld ⊢
      refine Pt.pu 0 (some 27) (Pt.bm 11 1) (any_of HT_.out (by kernel_rfl)) ?_
      refine Pt.pu 2 (some 29) (Pt.bm 11 5) (any_of HT_.out (by kernel_rfl)) ?_
      refine Pt.pu 3 (some 30) (Pt.bm 11 13) (any_of HT_.out (by kernel_rfl)) ?_
      refine Pt.tk 1 (some 28) (Pt.bm 11 15) rfl rfl (take_ofW HT_.out HW_.out (by kernel_rfl)) hHeld (Or.inl ⟨by rfl, by rintro w' ⟨s0, s1, s2, s3, s4⟩; go_simp; with_reducible rfl⟩) ?_
      refine Pt.tk 4 (some 31) (Pt.bm 11 31) rfl rfl (take_ofW HT_.out HW_.out (by kernel_rfl)) hHeld (Or.inl ⟨by rfl, by rintro w' ⟨s0, s1, s2, s3, s4⟩; go_simp; with_reducible rfl⟩) ?_
      refine Pt.pu 5 (some 32) (Pt.bm 11 63) (any_of HT_.out (by kernel_rfl)) ?_
      refine join_ (σ := Nat) 1 (Pt.bm 11 1023) (fun s_ => [(33, .int .i64 t203), (9, .pointer (some ⟨s_, 0, none⟩)), (34, .pointer (some (ad205.add ((t203).toNat * 3)))), (35, .agg #[.int .i64 ((rd_T71 t195 t203).f0), .int .i64 ((rd_T71 t195 t203).f1), .int .i64 ((rd_T71 t195 t203).f2)])]) (fun s_ w' => (w'.cell? ⟨gb200, 0, none⟩ = some (.int .i64 t194) ∧ w'.cell? ⟨gb200, 1, none⟩ = some (.slice (some ad205) t195.length co12) ∧ w'.cell? (ad205.add ((t203).toNat * 3)) = some (.int .i64 ((rd_T71 t195 t203).f0)) ∧ w'.cell? ⟨(ad205.add ((t203).toNat * 3)).block, (ad205.add ((t203).toNat * 3)).off + 1, none⟩ = some (.int .i64 ((rd_T71 t195 t203).f1)) ∧ w'.cell? ⟨(ad205.add ((t203).toNat * 3)).block, (ad205.add ((t203).toNat * 3)).off + 2, none⟩ = some (.int .i64 ((rd_T71 t195 t203).f2))) ∧ (Kd.R k71 71 w' w.heap.size (fun k_ => k_ ≠ s_) (.slice (some ad205) t195.length co12) t195) ∧ (w'.heap[gb190]? = some (.cells #[.int .i64 0, .slice none 0 0] 25 (0, 0))) ∧ (w'.heap[gb200]? = some (.cells #[.int .i64 t194, .slice (some ad205) t195.length co12] 25 (0, 0))) ∧ (w'.heap[s_]? = some (.cells #[.int .i64 0, .int .i64 0, .int .i64 0] 71 (0, 0))) ∧ (w.heap.size ≤ s_) ∧ (w.heap.size ≤ s_) ∧ (g193 ≠ s_) ∧ (s_ ≠ g193) ∧ (gb190 ≠ s_) ∧ (s_ ≠ gb190) ∧ (gb200 ≠ s_) ∧ (s_ ≠ gb200) ∧ (IsS106 w w' g193 t191 t204) ∧ (Below w.heap.size w w')) ?_ ?_
      rotate_left
      ·intro hCont
       refine two_ (i := 6) (j := 9) (Ni := some 33) (Nj := some 9) (Pt.bm 11 127) (Pt.bm 11 575) rfl rfl rfl rfl (two_of HT_.out (by kernel_rfl)) (by decide) (by decide) (fun K hK => ?_) (fun K hK => ?_)
       ·skip
        refine goes_ Try.func49 (by kernel_rfl) rfl #[.pointer (some ⟨g193, 0, none⟩), .int .i64 (t195.length : Int)] (by rfl) rfl rfl lmB ?_
        with_reducible refine (spec_l40Rd_pick.calls kj3 g193 t191 x194001_3 (t195.length : Int) t203 t204 w _ ?side1 ?side2 A23.out).mono ?_
        (case side1 => repeat (first | (with_reducible first | exact HI193.out | apply IsS106.alloc | apply IsS106.drewN | apply IsS106.drew | apply IsS106.set_1 | refine IsS106.far ?_ NB193_190.out _ | refine IsS106.far ?_ NB193_200.out _) | exact HI193.out))
        (case side2 => repeat (first | (with_reducible first | exact HB.out | apply bwA | apply bwN | apply bwD | refine below_set ?_ (IsS106.ge HI193.out) | refine below_set ?_ GE190.out | refine below_set ?_ GE200.out) | exact HB.out))
        rintro e w27 ⟨rfl, hi, hb, hk⟩
        have HS2_ := keep_cell hk (hHeld.2.2.1) (by first | (rw [add_block]; exact Kd.own_blk (IsS106.own_ne HI193.out HO_201001.out (by decide))) | (show (Addr.add _ _).block ≠ _; rw [add_block]; exact Kd.own_blk (IsS106.own_ne HI193.out HO_201001.out (by decide))) | exact Kd.own_blk (IsS106.own_ne HI193.out HO_201001.out (by decide)))
        have HS3_ := keep_cell hk (hHeld.2.2.2.1) (by first | (rw [add_block]; exact Kd.own_blk (IsS106.own_ne HI193.out HO_201001.out (by decide))) | (show (Addr.add _ _).block ≠ _; rw [add_block]; exact Kd.own_blk (IsS106.own_ne HI193.out HO_201001.out (by decide))) | exact Kd.own_blk (IsS106.own_ne HI193.out HO_201001.out (by decide)))
        have HS4_ := keep_cell hk (hHeld.2.2.2.2) (by first | (rw [add_block]; exact Kd.own_blk (IsS106.own_ne HI193.out HO_201001.out (by decide))) | (show (Addr.add _ _).block ≠ _; rw [add_block]; exact Kd.own_blk (IsS106.own_ne HI193.out HO_201001.out (by decide))) | exact Kd.own_blk (IsS106.own_ne HI193.out HO_201001.out (by decide)))
        refine ⟨_, rfl, ?_⟩
        have n0_ := Aside0.mk (Kd.R_mono (Kd.R_keep (IsS106.apart (show IsS106 w _ g193 t191 x194001_3 from by repeat (first | (with_reducible first | exact HI193.out | apply IsS106.alloc | apply IsS106.drewN | apply IsS106.drew | apply IsS106.set_1 | refine IsS106.far ?_ NB193_190.out _ | refine IsS106.far ?_ NB193_200.out _) | exact HI193.out)) (rvR HO_201001.out) (by decide)) hk (fun _ h => h.2)) (fun _ h => h.1))
        have n1_ := Aside0.mk (KeepBut.blk hk (g' := gb190) (o := .cells #[.int .i64 0, .slice none 0 0] 25 (0, 0)) (bvK BK190.out) NB190_193.out (by simp))
        have n2_ := Aside0.mk (KeepBut.blk hk (g' := gb200) (o := .cells #[.int .i64 t194, .slice (some ad205) t195.length co12] 25 (0, 0)) (bvK BK200.out) NB200_193.out (by simp))
        have n3_ := Aside0.mk (hb)
        have n4_ := Aside0.mk (hi)
        clear HO_201001
        clear BK190
        clear BK200
        clear HB
        clear HI193
        have HO_201001 := n0_
        have BK190 := n1_
        have BK200 := n2_
        have HB := n3_
        have HI193 := n4_
        clear n0_ n1_ n2_ n3_ n4_
        (try clear hb)
        (try clear hb2)
        (try clear hk)
        (try clear hi)
        refine hK.out _ _ ⟨(blk_cell BK200.out 0).trans rfl, (blk_cell BK200.out 1).trans rfl, HS2_, HS3_, HS4_⟩ (fun hHeld => ?_)
        clear hK K
        refine norm_ (a' := ?_) ?_ ?_
        rotate_left
        ·show Act.put _ (some 33) _ = _
         simp only [Act.put, List.setIfInBounds_toArray, List.set_cons_zero, List.set_cons_succ, i64_w, i32_w]
         rfl
        refine Pt.pu 7 (some 34) (Pt.bm 11 255) (any_of HT_.out (by kernel_rfl)) ?_
        refine Pt.tk 8 (some 35) (Pt.bm 11 511) rfl rfl (take_ofW HT_.out HW_.out (by kernel_rfl)) hHeld (Or.inl ⟨by rfl, by rintro w' ⟨s0, s1, s2, s3, s4⟩; go_simp; with_reducible rfl⟩) ?_
        refine one_ (i := 9) (N := some 9) (Pt.bm 11 1023) rfl rfl (one_of HT_.out (by kernel_rfl)) (by decide) (fun K hK => ?_)
        refine box_step ?hg (N := 9) ?hd (cs := #[.int .i64 0, .int .i64 0, .int .i64 0]) (t := 71) ?hr ?_; (case hd => rfl); (case hg => rfl); (case hr => first | (go_simp; done) | (go_simp; rfl))
        intro gb206 hg w28 hbox hb
        have HS2_ := (hb.cell (World.block_lt_of_cell? _ _ (hHeld.2.2.1))).trans (hHeld.2.2.1)
        have HS3_ := (hb.cell (World.block_lt_of_cell? _ _ (hHeld.2.2.2.1))).trans (hHeld.2.2.2.1)
        have HS4_ := (hb.cell (World.block_lt_of_cell? _ _ (hHeld.2.2.2.2))).trans (hHeld.2.2.2.2)
        have n0_ := Aside0.mk (Kd.R_below (Kd.R_elderB (rvR HO_201001.out) gb206 (Nat.le_of_eq hg.symm)) hb)
        have n1_ := Aside0.mk (blk_below (g := gb190) (o := .cells #[.int .i64 0, .slice none 0 0] 25 (0, 0)) (bvK BK190.out) hb)
        have n2_ := Aside0.mk (blk_below (g := gb200) (o := .cells #[.int .i64 t194, .slice (some ad205) t195.length co12] 25 (0, 0)) (bvK BK200.out) hb)
        have n3_ := Aside0.mk (IsS106.below (by repeat (first | (with_reducible first | exact HI193.out | apply IsS106.alloc | apply IsS106.drewN | apply IsS106.drew | apply IsS106.set_1 | refine IsS106.far ?_ NB193_190.out _ | refine IsS106.far ?_ NB193_200.out _) | exact HI193.out)) hb)
        have n4_ := Aside0.mk (below_step (by repeat (first | (with_reducible first | exact HB.out | apply bwA | apply bwN | apply bwD | refine below_set ?_ (IsS106.ge HI193.out) | refine below_set ?_ GE190.out | refine below_set ?_ GE200.out) | exact HB.out)) hb)
        have n5_ := Aside0.mk (hbox)
        have n6_ := Aside0.mk ((by rw [hg]; exact (below_size (by repeat (first | (with_reducible first | exact HB.out | apply bwA | apply bwN | apply bwD | refine below_set ?_ (IsS106.ge HI193.out) | refine below_set ?_ GE190.out | refine below_set ?_ GE200.out) | exact HB.out))) : w.heap.size ≤ gb206))
        have n7_ := Aside0.mk ((by rw [hg]; exact (below_size (by repeat (first | (with_reducible first | exact HB.out | apply bwA | apply bwN | apply bwD | refine below_set ?_ (IsS106.ge HI193.out) | refine below_set ?_ GE190.out | refine below_set ?_ GE200.out) | exact HB.out))) : w.heap.size ≤ gb206))
        have n8_ := Aside0.mk ((by rw [hg]; exact Nat.ne_of_lt (blk_lt (g := gb190) (o := .cells #[.int .i64 0, .slice none 0 0] 25 (0, 0)) (bvK BK190.out)) : gb190 ≠ gb206))
        have n9_ := Aside0.mk ((by rw [hg]; exact Nat.ne_of_gt (blk_lt (g := gb190) (o := .cells #[.int .i64 0, .slice none 0 0] 25 (0, 0)) (bvK BK190.out)) : gb206 ≠ gb190))
        have n10_ := Aside0.mk ((by rw [hg]; exact Nat.ne_of_lt (blk_lt (g := gb200) (o := .cells #[.int .i64 t194, .slice (some ad205) t195.length co12] 25 (0, 0)) (bvK BK200.out)) : gb200 ≠ gb206))
        have n11_ := Aside0.mk ((by rw [hg]; exact Nat.ne_of_gt (blk_lt (g := gb200) (o := .cells #[.int .i64 t194, .slice (some ad205) t195.length co12] 25 (0, 0)) (bvK BK200.out)) : gb206 ≠ gb200))
        have n12_ := Aside0.mk ((by rw [hg]; exact Nat.ne_of_lt (IsS106.lt (show IsS106 w _ g193 t191 t204 from by repeat (first | (with_reducible first | exact HI193.out | apply IsS106.alloc | apply IsS106.drewN | apply IsS106.drew | apply IsS106.set_1 | refine IsS106.far ?_ NB193_190.out _ | refine IsS106.far ?_ NB193_200.out _) | exact HI193.out))) : g193 ≠ gb206))
        have n13_ := Aside0.mk ((by rw [hg]; exact Nat.ne_of_gt (IsS106.lt (show IsS106 w _ g193 t191 t204 from by repeat (first | (with_reducible first | exact HI193.out | apply IsS106.alloc | apply IsS106.drewN | apply IsS106.drew | apply IsS106.set_1 | refine IsS106.far ?_ NB193_190.out _ | refine IsS106.far ?_ NB193_200.out _) | exact HI193.out))) : gb206 ≠ g193))
        clear HO_201001
        clear BK190
        clear BK200
        clear HI193
        clear HB
        have HO_201001 := n0_
        have BK190 := n1_
        have BK200 := n2_
        have HI193 := n3_
        have HB := n4_
        have BK206 := n5_
        have GW206 := n6_
        have GE206 := n7_
        have NB190_206 := n8_
        have NB206_190 := n9_
        have NB200_206 := n10_
        have NB206_200 := n11_
        have NB193_206 := n12_
        have NB206_193 := n13_
        clear n0_ n1_ n2_ n3_ n4_ n5_ n6_ n7_ n8_ n9_ n10_ n11_ n12_ n13_
        clear hb hbox hg
        refine hK.out _ _ ⟨(blk_cell BK200.out 0).trans rfl, (blk_cell BK200.out 1).trans rfl, HS2_, HS3_, HS4_⟩ (fun hHeld => ?_)
        clear hK K
        refine norm_ (a' := ?_) ?_ ?_
        rotate_left
        ·show Act.put _ (some 9) _ = _
         simp only [Act.put, List.setIfInBounds_toArray, List.set_cons_zero, List.set_cons_succ, i64_w, i32_w]
         rfl
        exact norm_ (by simp only [putAll, Act.put, List.setIfInBounds_toArray, List.set_cons_zero, List.set_cons_succ]) (hCont (gb206) _ ⟨hHeld, (by (with_reducible repeat (first | apply Kd.R_alloc | apply Kd.R_drewN | apply Kd.R_drew)); exact Kd.R_mono HO_201001.out (fun _ hk => hk.2)), (bvK BK190.out), (bvK BK200.out), (bvK BK206.out), GW206.out, GE206.out, NB193_206.out, NB206_193.out, NB190_206.out, NB206_190.out, NB200_206.out, NB206_200.out, (by repeat (first | (with_reducible first | exact HI193.out | apply IsS106.alloc | apply IsS106.drewN | apply IsS106.drew | apply IsS106.set_1 | refine IsS106.far ?_ NB193_190.out _ | refine IsS106.far ?_ NB193_200.out _ | refine IsS106.far ?_ NB193_206.out _) | exact HI193.out)), (by repeat (first | (with_reducible first | exact HB.out | apply bwA | apply bwN | apply bwD | refine below_set ?_ (IsS106.ge HI193.out) | refine below_set ?_ GE190.out | refine below_set ?_ GE200.out | refine below_set ?_ GE206.out) | exact HB.out))⟩)
       ·skip
        refine box_step ?hg (N := 9) ?hd (cs := #[.int .i64 0, .int .i64 0, .int .i64 0]) (t := 71) ?hr ?_; (case hd => rfl); (case hg => rfl); (case hr => first | (go_simp; done) | (go_simp; rfl))
        intro gb206 hg w27 hbox hb
        have HS2_ := (hb.cell (World.block_lt_of_cell? _ _ (hHeld.2.2.1))).trans (hHeld.2.2.1)
        have HS3_ := (hb.cell (World.block_lt_of_cell? _ _ (hHeld.2.2.2.1))).trans (hHeld.2.2.2.1)
        have HS4_ := (hb.cell (World.block_lt_of_cell? _ _ (hHeld.2.2.2.2))).trans (hHeld.2.2.2.2)
        have n0_ := Aside0.mk (Kd.R_below (Kd.R_elderB (rvR HO_201001.out) gb206 (Nat.le_of_eq hg.symm)) hb)
        have n1_ := Aside0.mk (blk_below (g := gb190) (o := .cells #[.int .i64 0, .slice none 0 0] 25 (0, 0)) (bvK BK190.out) hb)
        have n2_ := Aside0.mk (blk_below (g := gb200) (o := .cells #[.int .i64 t194, .slice (some ad205) t195.length co12] 25 (0, 0)) (bvK BK200.out) hb)
        have n3_ := Aside0.mk (IsS106.below (by repeat (first | (with_reducible first | exact HI193.out | apply IsS106.alloc | apply IsS106.drewN | apply IsS106.drew | apply IsS106.set_1 | refine IsS106.far ?_ NB193_190.out _ | refine IsS106.far ?_ NB193_200.out _) | exact HI193.out)) hb)
        have n4_ := Aside0.mk (below_step (by repeat (first | (with_reducible first | exact HB.out | apply bwA | apply bwN | apply bwD | refine below_set ?_ (IsS106.ge HI193.out) | refine below_set ?_ GE190.out | refine below_set ?_ GE200.out) | exact HB.out)) hb)
        have n5_ := Aside0.mk (hbox)
        have n6_ := Aside0.mk ((by rw [hg]; exact (below_size (by repeat (first | (with_reducible first | exact HB.out | apply bwA | apply bwN | apply bwD | refine below_set ?_ (IsS106.ge HI193.out) | refine below_set ?_ GE190.out | refine below_set ?_ GE200.out) | exact HB.out))) : w.heap.size ≤ gb206))
        have n7_ := Aside0.mk ((by rw [hg]; exact (below_size (by repeat (first | (with_reducible first | exact HB.out | apply bwA | apply bwN | apply bwD | refine below_set ?_ (IsS106.ge HI193.out) | refine below_set ?_ GE190.out | refine below_set ?_ GE200.out) | exact HB.out))) : w.heap.size ≤ gb206))
        have n8_ := Aside0.mk ((by rw [hg]; exact Nat.ne_of_lt (blk_lt (g := gb190) (o := .cells #[.int .i64 0, .slice none 0 0] 25 (0, 0)) (bvK BK190.out)) : gb190 ≠ gb206))
        have n9_ := Aside0.mk ((by rw [hg]; exact Nat.ne_of_gt (blk_lt (g := gb190) (o := .cells #[.int .i64 0, .slice none 0 0] 25 (0, 0)) (bvK BK190.out)) : gb206 ≠ gb190))
        have n10_ := Aside0.mk ((by rw [hg]; exact Nat.ne_of_lt (blk_lt (g := gb200) (o := .cells #[.int .i64 t194, .slice (some ad205) t195.length co12] 25 (0, 0)) (bvK BK200.out)) : gb200 ≠ gb206))
        have n11_ := Aside0.mk ((by rw [hg]; exact Nat.ne_of_gt (blk_lt (g := gb200) (o := .cells #[.int .i64 t194, .slice (some ad205) t195.length co12] 25 (0, 0)) (bvK BK200.out)) : gb206 ≠ gb200))
        have n12_ := Aside0.mk ((by rw [hg]; exact Nat.ne_of_lt (IsS106.lt (show IsS106 w _ g193 t191 x194001_3 from by repeat (first | (with_reducible first | exact HI193.out | apply IsS106.alloc | apply IsS106.drewN | apply IsS106.drew | apply IsS106.set_1 | refine IsS106.far ?_ NB193_190.out _ | refine IsS106.far ?_ NB193_200.out _) | exact HI193.out))) : g193 ≠ gb206))
        have n13_ := Aside0.mk ((by rw [hg]; exact Nat.ne_of_gt (IsS106.lt (show IsS106 w _ g193 t191 x194001_3 from by repeat (first | (with_reducible first | exact HI193.out | apply IsS106.alloc | apply IsS106.drewN | apply IsS106.drew | apply IsS106.set_1 | refine IsS106.far ?_ NB193_190.out _ | refine IsS106.far ?_ NB193_200.out _) | exact HI193.out))) : gb206 ≠ g193))
        clear HO_201001
        clear BK190
        clear BK200
        clear HI193
        clear HB
        have HO_201001 := n0_
        have BK190 := n1_
        have BK200 := n2_
        have HI193 := n3_
        have HB := n4_
        have BK206 := n5_
        have GW206 := n6_
        have GE206 := n7_
        have NB190_206 := n8_
        have NB206_190 := n9_
        have NB200_206 := n10_
        have NB206_200 := n11_
        have NB193_206 := n12_
        have NB206_193 := n13_
        clear n0_ n1_ n2_ n3_ n4_ n5_ n6_ n7_ n8_ n9_ n10_ n11_ n12_ n13_
        clear hb hbox hg
        refine hK.out _ _ ⟨(blk_cell BK200.out 0).trans rfl, (blk_cell BK200.out 1).trans rfl, HS2_, HS3_, HS4_⟩ (fun hHeld => ?_)
        clear hK K
        refine norm_ (a' := ?_) ?_ ?_
        rotate_left
        ·show Act.put _ (some 9) _ = _
         simp only [Act.put, List.setIfInBounds_toArray, List.set_cons_zero, List.set_cons_succ, i64_w, i32_w]
         rfl
        refine one_ (i := 6) (N := some 33) (Pt.bm 11 639) rfl rfl (one_of HT_.out (by kernel_rfl)) (by decide) (fun K hK => ?_)
        refine goes_ Try.func49 (by kernel_rfl) rfl #[.pointer (some ⟨g193, 0, none⟩), .int .i64 (t195.length : Int)] (by rfl) rfl rfl lmB ?_
        with_reducible refine (spec_l40Rd_pick.calls kj3 g193 t191 x194001_3 (t195.length : Int) t203 t204 w _ ?side1 ?side2 A23.out).mono ?_
        (case side1 => repeat (first | (with_reducible first | exact HI193.out | apply IsS106.alloc | apply IsS106.drewN | apply IsS106.drew | apply IsS106.set_1 | refine IsS106.far ?_ NB193_190.out _ | refine IsS106.far ?_ NB193_200.out _ | refine IsS106.far ?_ NB193_206.out _) | exact HI193.out))
        (case side2 => repeat (first | (with_reducible first | exact HB.out | apply bwA | apply bwN | apply bwD | refine below_set ?_ (IsS106.ge HI193.out) | refine below_set ?_ GE190.out | refine below_set ?_ GE200.out | refine below_set ?_ GE206.out) | exact HB.out))
        rintro e w28 ⟨rfl, hi, hb, hk⟩
        have HS2_ := keep_cell hk (hHeld.2.2.1) (by first | (rw [add_block]; exact Kd.own_blk (IsS106.own_ne HI193.out HO_201001.out (by decide))) | (show (Addr.add _ _).block ≠ _; rw [add_block]; exact Kd.own_blk (IsS106.own_ne HI193.out HO_201001.out (by decide))) | exact Kd.own_blk (IsS106.own_ne HI193.out HO_201001.out (by decide)))
        have HS3_ := keep_cell hk (hHeld.2.2.2.1) (by first | (rw [add_block]; exact Kd.own_blk (IsS106.own_ne HI193.out HO_201001.out (by decide))) | (show (Addr.add _ _).block ≠ _; rw [add_block]; exact Kd.own_blk (IsS106.own_ne HI193.out HO_201001.out (by decide))) | exact Kd.own_blk (IsS106.own_ne HI193.out HO_201001.out (by decide)))
        have HS4_ := keep_cell hk (hHeld.2.2.2.2) (by first | (rw [add_block]; exact Kd.own_blk (IsS106.own_ne HI193.out HO_201001.out (by decide))) | (show (Addr.add _ _).block ≠ _; rw [add_block]; exact Kd.own_blk (IsS106.own_ne HI193.out HO_201001.out (by decide))) | exact Kd.own_blk (IsS106.own_ne HI193.out HO_201001.out (by decide)))
        refine ⟨_, rfl, ?_⟩
        have n0_ := Aside0.mk (Kd.R_mono (Kd.R_keep (IsS106.apart (show IsS106 w _ g193 t191 x194001_3 from by repeat (first | (with_reducible first | exact HI193.out | apply IsS106.alloc | apply IsS106.drewN | apply IsS106.drew | apply IsS106.set_1 | refine IsS106.far ?_ NB193_190.out _ | refine IsS106.far ?_ NB193_200.out _ | refine IsS106.far ?_ NB193_206.out _) | exact HI193.out)) (rvR HO_201001.out) (by decide)) hk (fun _ h => h.2)) (fun _ h => h.1))
        have n1_ := Aside0.mk (KeepBut.blk hk (g' := gb190) (o := .cells #[.int .i64 0, .slice none 0 0] 25 (0, 0)) (bvK BK190.out) NB190_193.out (by simp))
        have n2_ := Aside0.mk (KeepBut.blk hk (g' := gb200) (o := .cells #[.int .i64 t194, .slice (some ad205) t195.length co12] 25 (0, 0)) (bvK BK200.out) NB200_193.out (by simp))
        have n3_ := Aside0.mk (KeepBut.blk hk (g' := gb206) (o := .cells #[.int .i64 0, .int .i64 0, .int .i64 0] 71 (0, 0)) (bvK BK206.out) NB206_193.out (by simp))
        have n4_ := Aside0.mk (hb)
        have n5_ := Aside0.mk (hi)
        clear HO_201001
        clear BK190
        clear BK200
        clear BK206
        clear HB
        clear HI193
        have HO_201001 := n0_
        have BK190 := n1_
        have BK200 := n2_
        have BK206 := n3_
        have HB := n4_
        have HI193 := n5_
        clear n0_ n1_ n2_ n3_ n4_ n5_
        (try clear hb)
        (try clear hb2)
        (try clear hk)
        (try clear hi)
        refine hK.out _ _ ⟨(blk_cell BK200.out 0).trans rfl, (blk_cell BK200.out 1).trans rfl, HS2_, HS3_, HS4_⟩ (fun hHeld => ?_)
        clear hK K
        refine norm_ (a' := ?_) ?_ ?_
        rotate_left
        ·show Act.put _ (some 33) _ = _
         simp only [Act.put, List.setIfInBounds_toArray, List.set_cons_zero, List.set_cons_succ, i64_w, i32_w]
         rfl
        refine Pt.pu 7 (some 34) (Pt.bm 11 767) (any_of HT_.out (by kernel_rfl)) ?_
        refine Pt.tk 8 (some 35) (Pt.bm 11 1023) rfl rfl (take_ofW HT_.out HW_.out (by kernel_rfl)) hHeld (Or.inl ⟨by rfl, by rintro w' ⟨s0, s1, s2, s3, s4⟩; go_simp; with_reducible rfl⟩) ?_
        exact norm_ (by simp only [putAll, Act.put, List.setIfInBounds_toArray, List.set_cons_zero, List.set_cons_succ]) (hCont (gb206) _ ⟨hHeld, (by (with_reducible repeat (first | apply Kd.R_alloc | apply Kd.R_drewN | apply Kd.R_drew)); exact Kd.R_mono HO_201001.out (fun _ hk => hk.2)), (bvK BK190.out), (bvK BK200.out), (bvK BK206.out), GW206.out, GE206.out, NB193_206.out, NB206_193.out, NB190_206.out, NB206_190.out, NB200_206.out, NB206_200.out, (by repeat (first | (with_reducible first | exact HI193.out | apply IsS106.alloc | apply IsS106.drewN | apply IsS106.drew | apply IsS106.set_1 | refine IsS106.far ?_ NB193_190.out _ | refine IsS106.far ?_ NB193_200.out _ | refine IsS106.far ?_ NB193_206.out _) | exact HI193.out)), (by repeat (first | (with_reducible first | exact HB.out | apply bwA | apply bwN | apply bwD | refine below_set ?_ (IsS106.ge HI193.out) | refine below_set ?_ GE190.out | refine below_set ?_ GE200.out | refine below_set ?_ GE206.out) | exact HB.out))⟩)
      rintro gb206 w29 ⟨hS_, h0_, h1_, h2_, h3_, h4_, h5_, h6_, h7_, h8_, h9_, h10_, h11_, h12_, h13_⟩
      have n0_ : Aside0 (Kd.R k71 71 w29 w.heap.size (fun k_ => k_ ≠ gb206) (.slice (some ad205) t195.length co12) t195) := ⟨h0_⟩
      have n1_ : Aside0 (w29.heap[gb190]? = some (.cells #[.int .i64 0, .slice none 0 0] 25 (0, 0))) := ⟨h1_⟩
      have n2_ : Aside0 (w29.heap[gb200]? = some (.cells #[.int .i64 t194, .slice (some ad205) t195.length co12] 25 (0, 0))) := ⟨h2_⟩
      have n3_ : Aside0 (w29.heap[gb206]? = some (.cells #[.int .i64 0, .int .i64 0, .int .i64 0] 71 (0, 0))) := ⟨h3_⟩
      have n4_ : Aside0 (w.heap.size ≤ gb206) := ⟨h4_⟩
      have n5_ : Aside0 (w.heap.size ≤ gb206) := ⟨h5_⟩
      have n6_ : Aside0 (g193 ≠ gb206) := ⟨h6_⟩
      have n7_ : Aside0 (gb206 ≠ g193) := ⟨h7_⟩
      have n8_ : Aside0 (gb190 ≠ gb206) := ⟨h8_⟩
      have n9_ : Aside0 (gb206 ≠ gb190) := ⟨h9_⟩
      have n10_ : Aside0 (gb200 ≠ gb206) := ⟨h10_⟩
      have n11_ : Aside0 (gb206 ≠ gb200) := ⟨h11_⟩
      have n12_ : Aside0 (IsS106 w w29 g193 t191 t204) := ⟨h12_⟩
      have n13_ : Aside0 (Below w.heap.size w w29) := ⟨h13_⟩
      clear HO_201001
      clear BK190
      clear BK200
      clear HI193
      clear HB
      clear h0_ h1_ h2_ h3_ h4_ h5_ h6_ h7_ h8_ h9_ h10_ h11_ h12_ h13_
      have HO_201001 := n0_
      have BK190 := n1_
      have BK200 := n2_
      have BK206 := n3_
      have GW206 := n4_
      have GE206 := n5_
      have NB193_206 := n6_
      have NB206_193 := n7_
      have NB190_206 := n8_
      have NB206_190 := n9_
      have NB200_206 := n10_
      have NB206_200 := n11_
      have HI193 := n12_
      have HB := n13_
      clear n0_ n1_ n2_ n3_ n4_ n5_ n6_ n7_ n8_ n9_ n10_ n11_ n12_ n13_
      have hHeld : w29.cell? ⟨gb200, 0, none⟩ = some (.int .i64 t194) ∧ w29.cell? ⟨gb200, 1, none⟩ = some (.slice (some ad205) t195.length co12) ∧ w29.cell? (ad205.add ((t203).toNat * 3)) = some (.int .i64 ((rd_T71 t195 t203).f0)) ∧ w29.cell? ⟨(ad205.add ((t203).toNat * 3)).block, (ad205.add ((t203).toNat * 3)).off + 1, none⟩ = some (.int .i64 ((rd_T71 t195 t203).f1)) ∧ w29.cell? ⟨(ad205.add ((t203).toNat * 3)).block, (ad205.add ((t203).toNat * 3)).off + 2, none⟩ = some (.int .i64 ((rd_T71 t195 t203).f2)) := hS_
      refine norm_ (a' := ?_) ?_ ?_
      rotate_left
      ·simp only [putAll, Act.put, List.setIfInBounds_toArray, List.set_cons_zero, List.set_cons_succ]
       rfl
      refine one_ (i := 10) (N := none) (Pt.bm 11 2047) rfl rfl (one_of HT_.out (by kernel_rfl)) (by decide) (fun K hK => ?_)
      have hs30 : w29.cell? ⟨gb206, 0, none⟩ = some (.int .i64 0) := (blk_cell BK206.out 0).trans rfl
      have hfs30 := blk_frozen BK206.out 0
      have hns30_0 := NB190_206.out
      have hns30_1 := NB200_206.out
      have hms30_0 := NB206_190.out
      have hms30_1 := NB206_200.out
      have hs31 : w29.cell? ⟨gb206, 1, none⟩ = some (.int .i64 0) := (blk_cell BK206.out 1).trans rfl
      have hfs31 := blk_frozen BK206.out 1
      have hns31_0 := NB190_206.out
      have hns31_1 := NB200_206.out
      have hms31_0 := NB206_190.out
      have hms31_1 := NB206_200.out
      have hs32 : w29.cell? ⟨gb206, 2, none⟩ = some (.int .i64 0) := (blk_cell BK206.out 2).trans rfl
      have hfs32 := blk_frozen BK206.out 2
      have hns32_0 := NB190_206.out
      have hns32_1 := NB200_206.out
      have hms32_0 := NB206_190.out
      have hms32_1 := NB206_200.out
      refine skip_ (w1 := ?_) (by rfl) rfl ?_ ?_
      rotate_left
      ·go_simp
       rfl
      refine hK.out _ _ ⟨((cell_far (p := ⟨gb206, _, none⟩) NB200_206.out _).trans (((cell_far (p := ⟨gb206, _, none⟩) NB200_206.out _).trans (((cell_far (p := ⟨gb206, _, none⟩) NB200_206.out _).trans (hHeld.1)))))), ((cell_far (p := ⟨gb206, _, none⟩) NB200_206.out _).trans (((cell_far (p := ⟨gb206, _, none⟩) NB200_206.out _).trans (((cell_far (p := ⟨gb206, _, none⟩) NB200_206.out _).trans (hHeld.2.1)))))), ((cell_far (p := ⟨gb206, _, none⟩) (by first | exact Kd.own_blk (Kd.R_away HO_201001.out (fun _ hk => hk)) | (rw [add_block]; exact Kd.own_blk (Kd.R_away HO_201001.out (fun _ hk => hk))) | (show (Addr.add _ _).block ≠ _; rw [add_block]; exact Kd.own_blk (Kd.R_away HO_201001.out (fun _ hk => hk))) | (dsimp only; exact Kd.own_blk (Kd.R_away HO_201001.out (fun _ hk => hk)))) _).trans (((cell_far (p := ⟨gb206, _, none⟩) (by first | exact Kd.own_blk (Kd.R_away HO_201001.out (fun _ hk => hk)) | (rw [add_block]; exact Kd.own_blk (Kd.R_away HO_201001.out (fun _ hk => hk))) | (show (Addr.add _ _).block ≠ _; rw [add_block]; exact Kd.own_blk (Kd.R_away HO_201001.out (fun _ hk => hk))) | (dsimp only; exact Kd.own_blk (Kd.R_away HO_201001.out (fun _ hk => hk)))) _).trans (((cell_far (p := ⟨gb206, _, none⟩) (by first | exact Kd.own_blk (Kd.R_away HO_201001.out (fun _ hk => hk)) | (rw [add_block]; exact Kd.own_blk (Kd.R_away HO_201001.out (fun _ hk => hk))) | (show (Addr.add _ _).block ≠ _; rw [add_block]; exact Kd.own_blk (Kd.R_away HO_201001.out (fun _ hk => hk))) | (dsimp only; exact Kd.own_blk (Kd.R_away HO_201001.out (fun _ hk => hk)))) _).trans (hHeld.2.2.1)))))), ((cell_far (p := ⟨gb206, _, none⟩) (by first | exact Kd.own_blk (Kd.R_away HO_201001.out (fun _ hk => hk)) | (rw [add_block]; exact Kd.own_blk (Kd.R_away HO_201001.out (fun _ hk => hk))) | (show (Addr.add _ _).block ≠ _; rw [add_block]; exact Kd.own_blk (Kd.R_away HO_201001.out (fun _ hk => hk))) | (dsimp only; exact Kd.own_blk (Kd.R_away HO_201001.out (fun _ hk => hk)))) _).trans (((cell_far (p := ⟨gb206, _, none⟩) (by first | exact Kd.own_blk (Kd.R_away HO_201001.out (fun _ hk => hk)) | (rw [add_block]; exact Kd.own_blk (Kd.R_away HO_201001.out (fun _ hk => hk))) | (show (Addr.add _ _).block ≠ _; rw [add_block]; exact Kd.own_blk (Kd.R_away HO_201001.out (fun _ hk => hk))) | (dsimp only; exact Kd.own_blk (Kd.R_away HO_201001.out (fun _ hk => hk)))) _).trans (((cell_far (p := ⟨gb206, _, none⟩) (by first | exact Kd.own_blk (Kd.R_away HO_201001.out (fun _ hk => hk)) | (rw [add_block]; exact Kd.own_blk (Kd.R_away HO_201001.out (fun _ hk => hk))) | (show (Addr.add _ _).block ≠ _; rw [add_block]; exact Kd.own_blk (Kd.R_away HO_201001.out (fun _ hk => hk))) | (dsimp only; exact Kd.own_blk (Kd.R_away HO_201001.out (fun _ hk => hk)))) _).trans (hHeld.2.2.2.1)))))), ((cell_far (p := ⟨gb206, _, none⟩) (by first | exact Kd.own_blk (Kd.R_away HO_201001.out (fun _ hk => hk)) | (rw [add_block]; exact Kd.own_blk (Kd.R_away HO_201001.out (fun _ hk => hk))) | (show (Addr.add _ _).block ≠ _; rw [add_block]; exact Kd.own_blk (Kd.R_away HO_201001.out (fun _ hk => hk))) | (dsimp only; exact Kd.own_blk (Kd.R_away HO_201001.out (fun _ hk => hk)))) _).trans (((cell_far (p := ⟨gb206, _, none⟩) (by first | exact Kd.own_blk (Kd.R_away HO_201001.out (fun _ hk => hk)) | (rw [add_block]; exact Kd.own_blk (Kd.R_away HO_201001.out (fun _ hk => hk))) | (show (Addr.add _ _).block ≠ _; rw [add_block]; exact Kd.own_blk (Kd.R_away HO_201001.out (fun _ hk => hk))) | (dsimp only; exact Kd.own_blk (Kd.R_away HO_201001.out (fun _ hk => hk)))) _).trans (((cell_far (p := ⟨gb206, _, none⟩) (by first | exact Kd.own_blk (Kd.R_away HO_201001.out (fun _ hk => hk)) | (rw [add_block]; exact Kd.own_blk (Kd.R_away HO_201001.out (fun _ hk => hk))) | (show (Addr.add _ _).block ≠ _; rw [add_block]; exact Kd.own_blk (Kd.R_away HO_201001.out (fun _ hk => hk))) | (dsimp only; exact Kd.own_blk (Kd.R_away HO_201001.out (fun _ hk => hk)))) _).trans (hHeld.2.2.2.2))))))⟩ (fun hHeld => ?_)
      clear hK K
      refine done_ (done_of HT_.out (by kernel_rfl)) ?_
      try go_wp2
      have n0_ : Aside0 (Kd.R k71 71 (((w29.setCell ⟨gb206, 0, none⟩ (.int .i64 ((rd_T71 t195 t203).f0))).setCell ⟨gb206, 1, none⟩ (.int .i64 ((rd_T71 t195 t203).f1))).setCell ⟨gb206, 2, none⟩ (.int .i64 ((rd_T71 t195 t203).f2))) w.heap.size (fun k_ => k_ ≠ gb206) (.slice (some ad205) t195.length co12) t195) := ⟨by (with_reducible repeat (first | apply Kd.R_alloc | apply Kd.R_drewN | apply Kd.R_drew)); exact Kd.R_mono (Kd.R_far (p := ⟨gb206, 2, none⟩) (Kd.R_far (p := ⟨gb206, 1, none⟩) (Kd.R_far (p := ⟨gb206, 0, none⟩) (Kd.R_mono HO_201001.out (fun k_ hk => (⟨hk, hk⟩ : _ ∧ k_ ≠ gb206))) (fun _ hk => hk.2) (.int .i64 ((rd_T71 t195 t203).f0))) (fun _ hk => hk.2) (.int .i64 ((rd_T71 t195 t203).f1))) (fun _ hk => hk.2) (.int .i64 ((rd_T71 t195 t203).f2))) (fun _ hk => hk.1)⟩
      have n1_ : Aside0 ((((w29.setCell ⟨gb206, 0, none⟩ (.int .i64 ((rd_T71 t195 t203).f0))).setCell ⟨gb206, 1, none⟩ (.int .i64 ((rd_T71 t195 t203).f1))).setCell ⟨gb206, 2, none⟩ (.int .i64 ((rd_T71 t195 t203).f2))).heap[gb190]? = some (.cells #[.int .i64 0, .slice none 0 0] 25 (0, 0))) := ⟨by (with_reducible repeat (first | refine blk_drewN ?_ _ | refine blk_drew ?_ | refine blk_alloc ?_ _)); refine blk_far ?_ NB190_206.out _; (with_reducible repeat (first | refine blk_drewN ?_ _ | refine blk_drew ?_ | refine blk_alloc ?_ _)); refine blk_far ?_ NB190_206.out _; (with_reducible repeat (first | refine blk_drewN ?_ _ | refine blk_drew ?_ | refine blk_alloc ?_ _)); refine blk_far ?_ NB190_206.out _; (with_reducible repeat (first | refine blk_drewN ?_ _ | refine blk_drew ?_ | refine blk_alloc ?_ _)); exact BK190.out⟩
      have n2_ : Aside0 ((((w29.setCell ⟨gb206, 0, none⟩ (.int .i64 ((rd_T71 t195 t203).f0))).setCell ⟨gb206, 1, none⟩ (.int .i64 ((rd_T71 t195 t203).f1))).setCell ⟨gb206, 2, none⟩ (.int .i64 ((rd_T71 t195 t203).f2))).heap[gb200]? = some (.cells #[.int .i64 t194, .slice (some ad205) t195.length co12] 25 (0, 0))) := ⟨by (with_reducible repeat (first | refine blk_drewN ?_ _ | refine blk_drew ?_ | refine blk_alloc ?_ _)); refine blk_far ?_ NB200_206.out _; (with_reducible repeat (first | refine blk_drewN ?_ _ | refine blk_drew ?_ | refine blk_alloc ?_ _)); refine blk_far ?_ NB200_206.out _; (with_reducible repeat (first | refine blk_drewN ?_ _ | refine blk_drew ?_ | refine blk_alloc ?_ _)); refine blk_far ?_ NB200_206.out _; (with_reducible repeat (first | refine blk_drewN ?_ _ | refine blk_drew ?_ | refine blk_alloc ?_ _)); exact BK200.out⟩
      have n3_ : Aside0 ((((w29.setCell ⟨gb206, 0, none⟩ (.int .i64 ((rd_T71 t195 t203).f0))).setCell ⟨gb206, 1, none⟩ (.int .i64 ((rd_T71 t195 t203).f1))).setCell ⟨gb206, 2, none⟩ (.int .i64 ((rd_T71 t195 t203).f2))).heap[gb206]? = some (.cells #[.int .i64 ((rd_T71 t195 t203).f0), .int .i64 ((rd_T71 t195 t203).f1), .int .i64 ((rd_T71 t195 t203).f2)] 71 (0, 0))) := ⟨by (with_reducible repeat (first | refine blk_drewN ?_ _ | refine blk_drew ?_ | refine blk_alloc ?_ _)); refine blk_put (cs := #[.int .i64 ((rd_T71 t195 t203).f0), .int .i64 ((rd_T71 t195 t203).f1), .int .i64 0]) ?_ 2 _ rfl; (with_reducible repeat (first | refine blk_drewN ?_ _ | refine blk_drew ?_ | refine blk_alloc ?_ _)); refine blk_put (cs := #[.int .i64 ((rd_T71 t195 t203).f0), .int .i64 0, .int .i64 0]) ?_ 1 _ rfl; (with_reducible repeat (first | refine blk_drewN ?_ _ | refine blk_drew ?_ | refine blk_alloc ?_ _)); refine blk_put (cs := #[.int .i64 0, .int .i64 0, .int .i64 0]) ?_ 0 _ rfl; (with_reducible repeat (first | refine blk_drewN ?_ _ | refine blk_drew ?_ | refine blk_alloc ?_ _)); exact BK206.out⟩
      have n4_ : Aside0 (IsS106 w (((w29.setCell ⟨gb206, 0, none⟩ (.int .i64 ((rd_T71 t195 t203).f0))).setCell ⟨gb206, 1, none⟩ (.int .i64 ((rd_T71 t195 t203).f1))).setCell ⟨gb206, 2, none⟩ (.int .i64 ((rd_T71 t195 t203).f2))) g193 t191 t204) := ⟨by repeat (first | (with_reducible first | exact HI193.out | apply IsS106.alloc | apply IsS106.drewN | apply IsS106.drew | apply IsS106.set_1 | refine IsS106.far ?_ NB193_190.out _ | refine IsS106.far ?_ NB193_200.out _ | refine IsS106.far ?_ NB193_206.out _) | exact HI193.out)⟩
      have n5_ : Aside0 (Below w.heap.size w (((w29.setCell ⟨gb206, 0, none⟩ (.int .i64 ((rd_T71 t195 t203).f0))).setCell ⟨gb206, 1, none⟩ (.int .i64 ((rd_T71 t195 t203).f1))).setCell ⟨gb206, 2, none⟩ (.int .i64 ((rd_T71 t195 t203).f2)))) := ⟨by repeat (first | (with_reducible first | exact HB.out | apply bwA | apply bwN | apply bwD | refine below_set ?_ (IsS106.ge HI193.out) | refine below_set ?_ GE190.out | refine below_set ?_ GE200.out | refine below_set ?_ GE206.out) | exact HB.out)⟩
      (try clear HO_201001)
      (try clear BK190)
      (try clear BK200)
      (try clear BK206)
      (try clear HI193)
      (try clear HB)
      generalize (((w29.setCell ⟨gb206, 0, none⟩ (.int .i64 ((rd_T71 t195 t203).f0))).setCell ⟨gb206, 1, none⟩ (.int .i64 ((rd_T71 t195 t203).f1))).setCell ⟨gb206, 2, none⟩ (.int .i64 ((rd_T71 t195 t203).f2))) = w33 at n0_ n1_ n2_ n3_ n4_ n5_ ⊢
      have HO_201001 := n0_
      have BK190 := n1_
      have BK200 := n2_
      have BK206 := n3_
      have HI193 := n4_
      have HB := n5_
      clear n0_ n1_ n2_ n3_ n4_ n5_
      have n0_ := Aside0.mk (Kd.R_drew HO_201001.out)
      have n1_ := Aside0.mk (blk_drew BK190.out)
      have n2_ := Aside0.mk (blk_drew BK200.out)
      have n3_ := Aside0.mk (blk_drew BK206.out)
      have n4_ := Aside0.mk (IsS106.drew HI193.out)
      have n5_ := Aside0.mk (below_drew1 HB.out)
      clear HO_201001
      clear BK190
      clear BK200
      clear BK206
      clear HI193
      clear HB
      have HO_201001 := n0_
      have BK190 := n1_
      have BK200 := n2_
      have BK206 := n3_
      have HI193 := n4_
      have HB := n5_
      clear n0_ n1_ n2_ n3_ n4_ n5_
      refine start_ (n := 11) (S := fun w' => w'.cell? ⟨gb200, 0, none⟩ = some (.int .i64 t194) ∧ w'.cell? ⟨gb200, 1, none⟩ = some (.slice (some ad205) t195.length co12) ∧ w'.cell? ⟨gb206, 0, none⟩ = some (.int .i64 ((rd_T71 t195 t203).f0)) ∧ w'.cell? ⟨gb206, 1, none⟩ = some (.int .i64 ((rd_T71 t195 t203).f1)) ∧ w'.cell? ⟨gb206, 2, none⟩ = some (.int .i64 ((rd_T71 t195 t203).f2))) (ds := []) (Pt.bm 11 0) (by kernel_rfl) rfl rfl ⟨(blk_cell BK200.out 0).trans rfl, (blk_cell BK200.out 1).trans rfl, (blk_cell BK206.out 0).trans rfl, (blk_cell BK206.out 1).trans rfl, (blk_cell BK206.out 2).trans rfl⟩ (fun hHeld => ?_); refine with_tabW spec_DrawAddFork.tab5 spec_DrawAddFork.bits5 (fun HT_ HW_ => ?_)
      generalize w33.drew = w34 at HO_201001 BK190 BK200 BK206 HI193 HB hHeld ⊢
      refine Pt.pu 1 (some 37) (Pt.bm 11 2) (any_of HT_.out (by kernel_rfl)) ?_
      refine Pt.pu 3 (some 39) (Pt.bm 11 10) (any_of HT_.out (by kernel_rfl)) ?_
      refine Pt.pu 5 (some 41) (Pt.bm 11 42) (any_of HT_.out (by kernel_rfl)) ?_
      refine Pt.tk 0 (some 36) (Pt.bm 11 43) rfl rfl (take_ofW HT_.out HW_.out (by kernel_rfl)) hHeld (Or.inl ⟨by rfl, by rintro w' ⟨s0, s1, s2, s3, s4⟩; go_simp; with_reducible rfl⟩) ?_
      refine Pt.tk 2 (some 38) (Pt.bm 11 47) rfl rfl (take_ofW HT_.out HW_.out (by kernel_rfl)) hHeld (Or.inl ⟨by rfl, by rintro w' ⟨s0, s1, s2, s3, s4⟩; go_simp; with_reducible rfl⟩) ?_
      refine Pt.tk 4 (some 40) (Pt.bm 11 63) rfl rfl (take_ofW HT_.out HW_.out (by kernel_rfl)) hHeld (Or.inl ⟨by rfl, by rintro w' ⟨s0, s1, s2, s3, s4⟩; go_simp; with_reducible rfl⟩) ?_
      refine Pt.tk 6 (some 42) (Pt.bm 11 127) rfl rfl (take_ofW HT_.out HW_.out (by kernel_rfl)) hHeld (Or.inl ⟨by rfl, by rintro w' ⟨s0, s1, s2, s3, s4⟩; go_simp; with_reducible rfl⟩) ?_
      refine one_ (i := 7) (N := none) (Pt.bm 11 255) rfl rfl (one_of HT_.out (by kernel_rfl)) (by decide) (fun K hK => ?_)
      have hs35 : w34.cell? ⟨gb190, 0, none⟩ = some (.int .i64 0) := (blk_cell BK190.out 0).trans rfl
      have hfs35 := blk_frozen BK190.out 0
      have hns35_1 := NB200_190.out
      have hns35_2 := NB206_190.out
      have hms35_1 := NB190_200.out
      have hms35_2 := NB190_206.out
      have hs36 : w34.cell? ⟨gb190, 1, none⟩ = some (.slice none 0 0) := (blk_cell BK190.out 1).trans rfl
      have hfs36 := blk_frozen BK190.out 1
      have hns36_1 := NB200_190.out
      have hns36_2 := NB206_190.out
      have hms36_1 := NB190_200.out
      have hms36_2 := NB190_206.out
      refine skip_ (w1 := ?_) (by rfl) rfl ?_ ?_
      rotate_left
      ·go_simp
       rfl
      refine hK.out _ _ ⟨((cell_far (p := ⟨gb190, _, none⟩) NB200_190.out _).trans (((cell_far (p := ⟨gb190, _, none⟩) NB200_190.out _).trans (hHeld.1)))), ((cell_far (p := ⟨gb190, _, none⟩) NB200_190.out _).trans (((cell_far (p := ⟨gb190, _, none⟩) NB200_190.out _).trans (hHeld.2.1)))), ((cell_far (p := ⟨gb190, _, none⟩) NB206_190.out _).trans (((cell_far (p := ⟨gb190, _, none⟩) NB206_190.out _).trans (hHeld.2.2.1)))), ((cell_far (p := ⟨gb190, _, none⟩) NB206_190.out _).trans (((cell_far (p := ⟨gb190, _, none⟩) NB206_190.out _).trans (hHeld.2.2.2.1)))), ((cell_far (p := ⟨gb190, _, none⟩) NB206_190.out _).trans (((cell_far (p := ⟨gb190, _, none⟩) NB206_190.out _).trans (hHeld.2.2.2.2))))⟩ (fun hHeld => ?_)
      clear hK K
      refine Pt.pu 8 (some 3) (Pt.bm 11 511) (any_of HT_.out (by kernel_rfl)) ?_
      refine Pt.pu 9 (some 4) (Pt.bm 11 1023) (any_of HT_.out (by kernel_rfl)) ?_
      refine Pt.pu 10 (some 5) (Pt.bm 11 2047) (any_of HT_.out (by kernel_rfl)) ?_
      refine done_ (done_of HT_.out (by kernel_rfl)) ?_
      try go_wp2
      refine bodyPost_ret (results_list (rs := [.cell 2 25, .tmp 3, .tmp 4, .tmp 5]) rfl (by simp) (.cell gb190 25 #[.int .i64 t194, .slice (some ad205) t195.length co12] (0, 0) _ rfl (by (with_reducible repeat (first | refine blk_drewN ?_ _ | refine blk_drew ?_ | refine blk_alloc ?_ _)); refine blk_put (cs := #[.int .i64 t194, .slice none 0 0]) ?_ 1 _ rfl; (with_reducible repeat (first | refine blk_drewN ?_ _ | refine blk_drew ?_ | refine blk_alloc ?_ _)); refine blk_put (cs := #[.int .i64 0, .slice none 0 0]) ?_ 0 _ rfl; (with_reducible repeat (first | refine blk_drewN ?_ _ | refine blk_drew ?_ | refine blk_alloc ?_ _)); exact BK190.out) Try.underlying25 rfl (by kernel_rfl) (.tmp (.tmp (.tmp .nil))))) rfl ?_
      exact ⟨_, ers, by (with_reducible repeat (first | apply Kd.R_alloc | apply Kd.R_drewN | apply Kd.R_drew)); exact Kd.R_mono (Kd.R_far (p := ⟨gb190, 1, none⟩) (Kd.R_far (p := ⟨gb190, 0, none⟩) (Kd.R_types HO_201001.out BK190.out (by decide)) (fun _ hk => hk.2) (.int .i64 t194)) (fun _ hk => hk.2) (.slice (some ad205) t195.length co12)) (fun _ hk => trivial), by repeat (first | (with_reducible first | exact HB.out | apply bwA | apply bwN | apply bwD | refine below_set ?_ (IsS106.ge HI193.out) | refine below_set ?_ GE190.out | refine below_set ?_ GE200.out | refine below_set ?_ GE206.out) | exact HB.out)⟩
     ·rw [if_neg c25] at H
      exact absurd H (by simp)
    ·rw [if_neg c24] at H
     exact absurd H (by simp)
   ·replace c22 := Bool.eq_false_iff.mpr c22
    subst c22
    have H1 : ((spec_l8Place.f t194 t195 t198).bind fun t207 => (if t207 = true then (spec_DrawAddFork.j1 kj3 t198 0 (decide (t198 > 1)) t191 x194001_3 t194 t195) else (spec_DrawAddFork.j1 kj3 t198 0 false t191 x194001_3 t194 t195))) = some (r1, r2, r3, r4, r5) := by rw [if_neg (show ¬ (false = true) by decide)] at H; exact H
    clear H
    have H := H1
    clear H1
    have HC37 := Aside0.mk H
    clear H
    go_upto_region 7 with (fail)
    go_cut [49] (fun v49 wc => ∃ (kq : Nat) (x49_36 : Bool), v49 = .bool x49_36 ∧ Aside0 (spec_DrawAddFork.j1 kq t198 0 x49_36 t191 x194001_3 t194 t195 = some (r1, r2, r3, r4, r5)) ∧ Aside0 (kq ≤ kj3) ∧ Aside0 (Kd.R k71 71 wc w.heap.size (fun _ => True) (.slice Ao12 t195.length co12) t195) ∧ Aside0 (wc.heap[gb190]? = some (.cells #[.int .i64 0, (.slice none 0 0)] 25 (0, 0))) ∧ Aside0 (wc.heap[gb200]? = some (.cells #[.int .i64 t194, (.slice Ao12 t195.length co12)] 25 (0, 0))) ∧ Aside0 (IsS106 w wc g193 t191 x194001_3) ∧ Aside0 (Below w.heap.size w wc))
    case first =>
     have H := HC37.out
     clear HC37
     replace H := Option.bind_eq_some_iff.mp H
     obtain ⟨t207, A380, H⟩ := H
     replace H : (if t207 = true then (spec_DrawAddFork.j1 kj3 t198 0 (decide (t198 > 1)) t191 x194001_3 t194 t195) else (spec_DrawAddFork.j1 kj3 t198 0 false t191 x194001_3 t194 t195)) = some (r1, r2, r3, r4, r5) := H
     have A38 := Aside0.mk A380
     clear A380
     by_cases c39 : t207 = true
     ·subst c39
      have H1 : (spec_DrawAddFork.j1 kj3 t198 0 (decide (t198 > 1)) t191 x194001_3 t194 t195) = some (r1, r2, r3, r4, r5) := by rw [if_pos rfl] at H; exact H
      clear H
      have H := H1
      clear H1
      have H' := Aside0.mk H
      clear H
      have hnb40 := NB200_190.out
      have hnc40 := NB190_200.out
      have hnb41 := NB200_193.out
      have hnc41 := NB193_200.out
      have hcz42_0 : wc.cell? ⟨gb200, 0, none⟩ = some (.int .i64 t194) := (blk_cell BK200.out 0).trans rfl
      have hcz42_1 : wc.cell? ⟨gb200, 1, none⟩ = some (.slice Ao12 t195.length co12) := (blk_cell BK200.out 1).trans rfl
      have hfz42_0 := blk_frozen BK200.out 0
      have hfz42_1 := blk_frozen BK200.out 1
      go_wp2_with (first | ((with_reducible refine gate_callee (f := 50) rfl ?_); refine goesL_ (some 45) rfl rfl Try.func50 (by kernel_rfl) rfl #[.agg #[.int .i64 t194, .slice Ao12 t195.length co12], .int .i64 t198] rfl lmB ?_; (with_reducible refine (spec_l8Place.calls t194 _ _ t195 t198 true _ ?side1 ?side2 A38.out).mono ?_); (case side1 => repeat (first | exact (Kd.R_reads' HO_201001.out).2.2 | (with_reducible refine Kd.C_alloc ?_ _) | (with_reducible refine Kd.C_drewN ?_ _) | (with_reducible refine Kd.C_drew ?_))); (case side2 => exact (Kd.R_reads' HO_201001.out).2.1); rintro e w43 ⟨rfl, hb⟩; refine ⟨_, rfl, ?_⟩; have n0_ := Aside0.mk (Kd.R_below (rvR HO_201001.out) hb); have n1_ := Aside0.mk (blk_below (g := gb190) (o := .cells #[.int .i64 0, .slice none 0 0] 25 (0, 0)) (bvK BK190.out) hb); have n2_ := Aside0.mk (blk_below (g := gb200) (o := .cells #[.int .i64 t194, .slice Ao12 t195.length co12] 25 (0, 0)) (bvK BK200.out) hb); have n3_ := Aside0.mk (IsS106.below (by repeat (first | (with_reducible first | exact HI193.out | apply IsS106.alloc | apply IsS106.drewN | apply IsS106.drew | apply IsS106.set_1 | refine IsS106.far ?_ NB193_190.out _ | refine IsS106.far ?_ NB193_200.out _) | exact HI193.out)) hb); have n4_ := Aside0.mk (below_step (by repeat (first | (with_reducible first | exact HB.out | apply bwA | apply bwN | apply bwD | refine below_set ?_ (IsS106.ge HI193.out) | refine below_set ?_ GE190.out | refine below_set ?_ GE200.out) | exact HB.out)) hb); clear HO_201001; clear BK190; clear BK200; clear HI193; clear HB; have HO_201001 := n0_; have BK190 := n1_; have BK200 := n2_; have HI193 := n3_; have HB := n4_; clear n0_ n1_ n2_ n3_ n4_; (try clear hb); (try clear hb2); (try clear hk); (try clear hi)))
      go_meet
      case rel => exact ⟨_, (decide (t198 > 1)), rsd, H', ⟨by have := HJ3.out; first | omega | exact Nat.le_refl _⟩, ⟨rvR HO_201001.out⟩, ⟨bvK BK190.out⟩, ⟨bvK BK200.out⟩, ⟨by repeat (first | (with_reducible first | exact HI193.out | apply IsS106.alloc | apply IsS106.drewN | apply IsS106.drew | apply IsS106.set_1 | refine IsS106.far ?_ NB193_190.out _ | refine IsS106.far ?_ NB193_200.out _) | exact HI193.out)⟩, ⟨by repeat (first | (with_reducible first | exact HB.out | apply bwA | apply bwN | apply bwD | refine below_set ?_ (IsS106.ge HI193.out) | refine below_set ?_ GE190.out | refine below_set ?_ GE200.out) | exact HB.out)⟩⟩
     ·replace c39 := Bool.eq_false_iff.mpr c39
      subst c39
      have H1 : (spec_DrawAddFork.j1 kj3 t198 0 false t191 x194001_3 t194 t195) = some (r1, r2, r3, r4, r5) := by rw [if_neg (show ¬ (false = true) by decide)] at H; exact H
      clear H
      have H := H1
      clear H1
      have H' := Aside0.mk H
      clear H
      have hnb44 := NB200_190.out
      have hnc44 := NB190_200.out
      have hnb45 := NB200_193.out
      have hnc45 := NB193_200.out
      have hcz46_0 : wc.cell? ⟨gb200, 0, none⟩ = some (.int .i64 t194) := (blk_cell BK200.out 0).trans rfl
      have hcz46_1 : wc.cell? ⟨gb200, 1, none⟩ = some (.slice Ao12 t195.length co12) := (blk_cell BK200.out 1).trans rfl
      have hfz46_0 := blk_frozen BK200.out 0
      have hfz46_1 := blk_frozen BK200.out 1
      go_wp2_with (first | ((with_reducible refine gate_callee (f := 50) rfl ?_); refine goesL_ (some 45) rfl rfl Try.func50 (by kernel_rfl) rfl #[.agg #[.int .i64 t194, .slice Ao12 t195.length co12], .int .i64 t198] rfl lmB ?_; (with_reducible refine (spec_l8Place.calls t194 _ _ t195 t198 false _ ?side1 ?side2 A38.out).mono ?_); (case side1 => repeat (first | exact (Kd.R_reads' HO_201001.out).2.2 | (with_reducible refine Kd.C_alloc ?_ _) | (with_reducible refine Kd.C_drewN ?_ _) | (with_reducible refine Kd.C_drew ?_))); (case side2 => exact (Kd.R_reads' HO_201001.out).2.1); rintro e w47 ⟨rfl, hb⟩; refine ⟨_, rfl, ?_⟩; have n0_ := Aside0.mk (Kd.R_below (rvR HO_201001.out) hb); have n1_ := Aside0.mk (blk_below (g := gb190) (o := .cells #[.int .i64 0, .slice none 0 0] 25 (0, 0)) (bvK BK190.out) hb); have n2_ := Aside0.mk (blk_below (g := gb200) (o := .cells #[.int .i64 t194, .slice Ao12 t195.length co12] 25 (0, 0)) (bvK BK200.out) hb); have n3_ := Aside0.mk (IsS106.below (by repeat (first | (with_reducible first | exact HI193.out | apply IsS106.alloc | apply IsS106.drewN | apply IsS106.drew | apply IsS106.set_1 | refine IsS106.far ?_ NB193_190.out _ | refine IsS106.far ?_ NB193_200.out _) | exact HI193.out)) hb); have n4_ := Aside0.mk (below_step (by repeat (first | (with_reducible first | exact HB.out | apply bwA | apply bwN | apply bwD | refine below_set ?_ (IsS106.ge HI193.out) | refine below_set ?_ GE190.out | refine below_set ?_ GE200.out) | exact HB.out)) hb); clear HO_201001; clear BK190; clear BK200; clear HI193; clear HB; have HO_201001 := n0_; have BK190 := n1_; have BK200 := n2_; have HI193 := n3_; have HB := n4_; clear n0_ n1_ n2_ n3_ n4_; (try clear hb); (try clear hb2); (try clear hk); (try clear hi)))
      go_meet
      case rel => exact ⟨_, (false), rsd, H', ⟨by have := HJ3.out; first | omega | exact Nat.le_refl _⟩, ⟨rvR HO_201001.out⟩, ⟨bvK BK190.out⟩, ⟨bvK BK200.out⟩, ⟨by repeat (first | (with_reducible first | exact HI193.out | apply IsS106.alloc | apply IsS106.drewN | apply IsS106.drew | apply IsS106.set_1 | refine IsS106.far ?_ NB193_190.out _ | refine IsS106.far ?_ NB193_200.out _) | exact HI193.out)⟩, ⟨by repeat (first | (with_reducible first | exact HB.out | apply bwA | apply bwN | apply bwD | refine below_set ?_ (IsS106.ge HI193.out) | refine below_set ?_ GE190.out | refine below_set ?_ GE200.out) | exact HB.out)⟩⟩
    case rest =>
     clear HC37
     try clear c1
     try clear c2
     try clear p2
     try clear q2
     try clear hx2
     try clear c3
     try clear c4
     try clear c5
     try clear c19
     try clear c20
     try clear p20
     try clear q20
     try clear hx20
     try clear c22
     try clear c24
     try clear c24b0
     try clear c25
     try clear c25b0
     try clear c39
     try clear c40
     try clear c41
     try clear c44
     try clear c45
     try clear hcz11_0
     try clear hcz11_1
     try clear hcz17_0
     try clear hcz17_1
     try clear hcz21_0
     try clear hcz21_1
     try clear hcz42_0
     try clear hcz42_1
     try clear hcz46_0
     try clear hcz46_1
     try clear hfz11_0
     try clear hfz11_1
     try clear hfz17_0
     try clear hfz17_1
     try clear hfz21_0
     try clear hfz21_1
     try clear hfz42_0
     try clear hfz42_1
     try clear hfz46_0
     try clear hfz46_1
     try clear hx205_0
     try clear hx205_1
     try clear hx205_2
     try clear p205
     try clear q205
     obtain ⟨kq, x49_36, rfl, HA, HJ36, HO_201001, BK190, BK200, HI193, HB⟩ := hcut
     cases kq with
     | zero => exact absurd HA.out (by simp [spec_DrawAddFork.j1])
     | succ kj36 =>
      have H := HA.out
      clear HA
      simp only [spec_DrawAddFork.j1] at H
      by_cases c48 : x49_36 = true
      ·subst c48
       have H1 : (if 0 ≤ (wrap64 (t198 - 2)) then (if (wrap64 (t198 - 2)) < (t195.length : Int) then ((spec_l40Rd_pick.f kj36 t191 x194001_3 2).bind fun bt209 => ((spec_l40Rd_pick.f kj36 t191 bt209.2 (wrap64 ((t195.length : Int) + 2))).bind fun bt211 => ((spec_l40Rd_num.f kj36 t191 bt211.2 (([0, 1, t198, bt211.1] : List Int))).bind fun bt216 => (some (t194, t195, wrap64 ((wrap64 (((rd_T71 t195 (wrap64 (t198 - 2))).f0) - 1)) + bt209.1), t198, bt216.1))))) else (none)) else (none)) = some (r1, r2, r3, r4, r5) := by rw [if_pos rfl] at H; exact H
       clear H
       have H := H1
       clear H1
       obtain ⟨ji49, hji49⟩ : ∃ j_ : Int, (wrap64 (t198 - 2)) = j_ := ⟨_, rfl⟩
       replace H : (if 0 ≤ (ji49) then (if (ji49) < (t195.length : Int) then ((spec_l40Rd_pick.f kj36 t191 x194001_3 2).bind fun bt209 => ((spec_l40Rd_pick.f kj36 t191 bt209.2 (wrap64 ((t195.length : Int) + 2))).bind fun bt211 => ((spec_l40Rd_num.f kj36 t191 bt211.2 (([0, 1, t198, bt211.1] : List Int))).bind fun bt216 => (some (t194, t195, wrap64 ((wrap64 (((rd_T71 t195 (ji49)).f0) - 1)) + bt209.1), t198, bt216.1))))) else (none)) else (none)) = some (r1, r2, r3, r4, r5) := by first | (rw [hji49] at H; exact H) | (simp only [hji49] at H ⊢; exact H)
       have hji49w : (IntKind.i64.wrap (t198 - 2)) = ji49 := (i64_w _).trans hji49
       by_cases c50 : 0 ≤ (ji49)
       ·rw [if_pos c50] at H
        have c50b0 : decide (0 ≤ (ji49)) = true := decide_eq_true c50
        clear c50
        by_cases c51 : (ji49) < (t195.length : Int)
        ·rw [if_pos c51] at H
         have c51b0 : decide ((ji49) < (t195.length : Int)) = true := decide_eq_true c51
         clear c51
         replace H := Option.bind_eq_some_iff.mp H
         obtain ⟨⟨t209, t210⟩, A520, H⟩ := H
         replace H : ((spec_l40Rd_pick.f kj36 t191 t210 (wrap64 ((t195.length : Int) + 2))).bind fun bt211 => ((spec_l40Rd_num.f kj36 t191 bt211.2 (([0, 1, t198, bt211.1] : List Int))).bind fun bt216 => (some (t194, t195, wrap64 ((wrap64 (((rd_T71 t195 (ji49)).f0) - 1)) + t209), t198, bt216.1)))) = some (r1, r2, r3, r4, r5) := H
         have A52 := Aside0.mk A520
         clear A520
         replace H := Option.bind_eq_some_iff.mp H
         obtain ⟨⟨t211, t212⟩, A530, H⟩ := H
         replace H : ((spec_l40Rd_num.f kj36 t191 t212 (([0, 1, t198, t211] : List Int))).bind fun bt216 => (some (t194, t195, wrap64 ((wrap64 (((rd_T71 t195 (ji49)).f0) - 1)) + t209), t198, bt216.1))) = some (r1, r2, r3, r4, r5) := H
         have A53 := Aside0.mk A530
         clear A530
         obtain ⟨y213, hy213⟩ : ∃ y_ : List Int, y_ = (([0, 1, t198, t211] : List Int)) := ⟨_, rfl⟩
         replace H : ((spec_l40Rd_num.f kj36 t191 t212 y213).bind fun bt216 => (some (t194, t195, wrap64 ((wrap64 (((rd_T71 t195 (ji49)).f0) - 1)) + t209), t198, bt216.1))) = some (r1, r2, r3, r4, r5) := by first | (rw [hy213]; with_reducible exact H) | (have H2_ := (Option.bind_some _ _).symm.trans H; rw [hy213]; with_reducible exact H2_) | (have H2_ := (Option.bind_some _ _).symm.trans H; with_reducible exact H2_) | with_reducible exact H | (rw [hy213]; exact H) | exact H
         have Ny213 := Aside0.mk hy213
         clear hy213
         replace H := Option.bind_eq_some_iff.mp H
         obtain ⟨⟨t216, t217⟩, A540, H⟩ := H
         replace H : (some (t194, t195, wrap64 ((wrap64 (((rd_T71 t195 (ji49)).f0) - 1)) + t209), t198, t216)) = some (r1, r2, r3, r4, r5) := H
         have A54 := Aside0.mk A540
         clear A540
         simp only [Option.some.injEq, Prod.mk.injEq] at H
         obtain ⟨rfl, rfl, rfl, rfl, rfl⟩ := H
         try go_wp2
         have n0_ := Aside0.mk (Kd.R_drew HO_201001.out)
         have n1_ := Aside0.mk (blk_drew BK190.out)
         have n2_ := Aside0.mk (blk_drew BK200.out)
         have n3_ := Aside0.mk (IsS106.drew HI193.out)
         have n4_ := Aside0.mk (below_drew1 HB.out)
         clear HO_201001
         clear BK190
         clear BK200
         clear HI193
         clear HB
         have HO_201001 := n0_
         have BK190 := n1_
         have BK200 := n2_
         have HI193 := n3_
         have HB := n4_
         clear n0_ n1_ n2_ n3_ n4_
         have p208 : 0 ≤ ((ji49) : Int) := oda
         have q208 : (ji49) < (t195.length : Int) := oda
         obtain ⟨ad208, e208, hx208_0, hx208_1, hx208_2⟩ := at_T71 (Kd.R_reads' HO_201001.out).2.2 (ji49) p208 q208
         cases e208
         replace p208 := eq_true p208
         replace q208 := eq_true q208
         refine start_ (n := 12) (S := fun w' => w'.cell? ⟨gb200, 0, none⟩ = some (.int .i64 t194) ∧ w'.cell? ⟨gb200, 1, none⟩ = some (.slice (some ad208) t195.length co12) ∧ w'.cell? (ad208.add (((ji49)).toNat * 3)) = some (.int .i64 ((rd_T71 t195 (ji49)).f0)) ∧ w'.cell? ⟨(ad208.add (((ji49)).toNat * 3)).block, (ad208.add (((ji49)).toNat * 3)).off + 1, none⟩ = some (.int .i64 ((rd_T71 t195 (ji49)).f1)) ∧ w'.cell? ⟨(ad208.add (((ji49)).toNat * 3)).block, (ad208.add (((ji49)).toNat * 3)).off + 2, none⟩ = some (.int .i64 ((rd_T71 t195 (ji49)).f2))) (ds := []) (Pt.bm 12 0) (by kernel_rfl) rfl rfl ⟨(blk_cell BK200.out 0).trans rfl, (blk_cell BK200.out 1).trans rfl, hx208_0, hx208_1, hx208_2⟩ (fun hHeld => ?_); refine with_tabW spec_DrawAddFork.tab8 spec_DrawAddFork.bits8 (fun HT_ HW_ => ?_)
         generalize wc.drew = w55 at HO_201001 BK190 BK200 HI193 HB hx208_0 hx208_1 hx208_2 hHeld ⊢
         refine Pt.pu 0 (some 50) (Pt.bm 12 1) (any_of HT_.out (by kernel_rfl)) ?_
         refine Pt.pu 2 (some 52) (Pt.bm 12 5) (any_of HT_.out (by kernel_rfl)) ?_
         refine Pt.pu 3 (some 53) (Pt.bm 12 13) (any_of HT_.out (by kernel_rfl)) ?_
         refine Pt.pu 8 (some 58) (Pt.bm 12 269) (any_of HT_.out (by kernel_rfl)) ?_
         refine Pt.tk 1 (some 51) (Pt.bm 12 271) rfl rfl (take_ofW HT_.out HW_.out (by kernel_rfl)) hHeld (Or.inl ⟨by rfl, by rintro w' ⟨s0, s1, s2, s3, s4⟩; go_simp; with_reducible rfl⟩) ?_
         refine Pt.pu 4 (some 54) (Pt.bm 12 287) (any_of HT_.out (by kernel_rfl)) ?_
         refine Pt.pu 5 (some 55) (Pt.bm 12 319) (any_of HT_.out (by kernel_rfl)) ?_
         refine Pt.tk 6 (some 56) (Pt.bm 12 383) rfl rfl (take_ofW HT_.out HW_.out (by kernel_rfl)) hHeld (Or.inl ⟨by rfl, by rintro w' ⟨s0, s1, s2, s3, s4⟩; go_simp; with_reducible rfl⟩) ?_
         refine Pt.pu 7 (some 57) (Pt.bm 12 511) (any_of HT_.out (by kernel_rfl)) ?_
         refine one_ (i := 9) (N := some 59) (Pt.bm 12 1023) rfl rfl (one_of HT_.out (by kernel_rfl)) (by decide) (fun K hK => ?_)
         refine goes_ Try.func49 (by kernel_rfl) rfl #[.pointer (some ⟨g193, 0, none⟩), .int .i64 2] (by rfl) rfl rfl lmB ?_
         with_reducible refine (spec_l40Rd_pick.calls kj36 g193 t191 x194001_3 2 t209 t210 w _ ?side1 ?side2 A52.out).mono ?_
         (case side1 => repeat (first | (with_reducible first | exact HI193.out | apply IsS106.alloc | apply IsS106.drewN | apply IsS106.drew | apply IsS106.set_1 | refine IsS106.far ?_ NB193_190.out _ | refine IsS106.far ?_ NB193_200.out _) | exact HI193.out))
         (case side2 => repeat (first | (with_reducible first | exact HB.out | apply bwA | apply bwN | apply bwD | refine below_set ?_ (IsS106.ge HI193.out) | refine below_set ?_ GE190.out | refine below_set ?_ GE200.out) | exact HB.out))
         rintro e w56 ⟨rfl, hi, hb, hk⟩
         have HS2_ := keep_cell hk (hHeld.2.2.1) (by first | (rw [add_block]; exact Kd.own_blk (IsS106.own_ne HI193.out HO_201001.out (by decide))) | (show (Addr.add _ _).block ≠ _; rw [add_block]; exact Kd.own_blk (IsS106.own_ne HI193.out HO_201001.out (by decide))) | exact Kd.own_blk (IsS106.own_ne HI193.out HO_201001.out (by decide)))
         have HS3_ := keep_cell hk (hHeld.2.2.2.1) (by first | (rw [add_block]; exact Kd.own_blk (IsS106.own_ne HI193.out HO_201001.out (by decide))) | (show (Addr.add _ _).block ≠ _; rw [add_block]; exact Kd.own_blk (IsS106.own_ne HI193.out HO_201001.out (by decide))) | exact Kd.own_blk (IsS106.own_ne HI193.out HO_201001.out (by decide)))
         have HS4_ := keep_cell hk (hHeld.2.2.2.2) (by first | (rw [add_block]; exact Kd.own_blk (IsS106.own_ne HI193.out HO_201001.out (by decide))) | (show (Addr.add _ _).block ≠ _; rw [add_block]; exact Kd.own_blk (IsS106.own_ne HI193.out HO_201001.out (by decide))) | exact Kd.own_blk (IsS106.own_ne HI193.out HO_201001.out (by decide)))
         refine ⟨_, rfl, ?_⟩
         have n0_ := Aside0.mk (Kd.R_mono (Kd.R_keep (IsS106.apart (show IsS106 w _ g193 t191 x194001_3 from by repeat (first | (with_reducible first | exact HI193.out | apply IsS106.alloc | apply IsS106.drewN | apply IsS106.drew | apply IsS106.set_1 | refine IsS106.far ?_ NB193_190.out _ | refine IsS106.far ?_ NB193_200.out _) | exact HI193.out)) (rvR HO_201001.out) (by decide)) hk (fun _ h => h.2)) (fun _ h => h.1))
         have n1_ := Aside0.mk (KeepBut.blk hk (g' := gb190) (o := .cells #[.int .i64 0, .slice none 0 0] 25 (0, 0)) (bvK BK190.out) NB190_193.out (by simp))
         have n2_ := Aside0.mk (KeepBut.blk hk (g' := gb200) (o := .cells #[.int .i64 t194, .slice (some ad208) t195.length co12] 25 (0, 0)) (bvK BK200.out) NB200_193.out (by simp))
         have n3_ := Aside0.mk (hb)
         have n4_ := Aside0.mk (hi)
         clear HO_201001
         clear BK190
         clear BK200
         clear HB
         clear HI193
         have HO_201001 := n0_
         have BK190 := n1_
         have BK200 := n2_
         have HB := n3_
         have HI193 := n4_
         clear n0_ n1_ n2_ n3_ n4_
         (try clear hb)
         (try clear hb2)
         (try clear hk)
         (try clear hi)
         refine hK.out _ _ ⟨(blk_cell BK200.out 0).trans rfl, (blk_cell BK200.out 1).trans rfl, HS2_, HS3_, HS4_⟩ (fun hHeld => ?_)
         clear hK K
         refine norm_ (a' := ?_) ?_ ?_
         rotate_left
         ·show Act.put _ (some 59) _ = _
          simp only [Act.put, List.setIfInBounds_toArray, List.set_cons_zero, List.set_cons_succ, i64_w, i32_w]
          rfl
         refine Pt.pu 10 (some 60) (Pt.bm 12 2047) (any_of HT_.out (by kernel_rfl)) ?_
         refine Pt.pu 11 (some 10) (Pt.bm 12 4095) (any_of HT_.out (by kernel_rfl)) ?_
         refine done_ (done_of HT_.out (by kernel_rfl)) ?_
         try go_wp2
         have n0_ := Aside0.mk (Kd.R_drew HO_201001.out)
         have n1_ := Aside0.mk (blk_drew BK190.out)
         have n2_ := Aside0.mk (blk_drew BK200.out)
         have n3_ := Aside0.mk (IsS106.drew HI193.out)
         have n4_ := Aside0.mk (below_drew1 HB.out)
         clear HO_201001
         clear BK190
         clear BK200
         clear HI193
         clear HB
         have HO_201001 := n0_
         have BK190 := n1_
         have BK200 := n2_
         have HI193 := n3_
         have HB := n4_
         clear n0_ n1_ n2_ n3_ n4_
         refine start_ (n := 17) (S := fun w' => w'.cell? ⟨gb200, 0, none⟩ = some (.int .i64 t194) ∧ w'.cell? ⟨gb200, 1, none⟩ = some (.slice (some ad208) t195.length co12)) (ds := []) (Pt.bm 17 0) (by kernel_rfl) rfl rfl ⟨(blk_cell BK200.out 0).trans rfl, (blk_cell BK200.out 1).trans rfl⟩ (fun hHeld => ?_); refine with_tabW spec_DrawAddFork.tab9 spec_DrawAddFork.bits9 (fun HT_ HW_ => ?_)
         generalize w56.drew = w57 at HO_201001 BK190 BK200 HI193 HB hHeld ⊢
         refine Pt.pu 1 (some 62) (Pt.bm 17 2) (any_of HT_.out (by kernel_rfl)) ?_
         refine Pt.pu 2 (some 63) (Pt.bm 17 6) (any_of HT_.out (by kernel_rfl)) ?_
         refine Pt.pu 3 (some 64) (Pt.bm 17 14) (any_of HT_.out (by kernel_rfl)) ?_
         refine Pt.pu 4 (some 65) (Pt.bm 17 30) (any_of HT_.out (by kernel_rfl)) ?_
         refine Pt.pu 5 (some 66) (Pt.bm 17 62) (any_of HT_.out (by kernel_rfl)) ?_
         refine Pt.pu 6 (some 67) (Pt.bm 17 126) (any_of HT_.out (by kernel_rfl)) ?_
         refine Pt.tk 0 (some 61) (Pt.bm 17 127) rfl rfl (take_ofW HT_.out HW_.out (by kernel_rfl)) hHeld (Or.inl ⟨by rfl, by rintro w' ⟨s0, s1⟩; go_simp; with_reducible rfl⟩) ?_
         refine Pt.tk 7 (some 68) (Pt.bm 17 255) rfl rfl (take_ofW HT_.out HW_.out (by kernel_rfl)) hHeld (Or.inl ⟨by rfl, by rintro w' ⟨s0, s1⟩; go_simp; with_reducible rfl⟩) ?_
         refine Pt.pu 8 (some 69) (Pt.bm 17 511) (any_of HT_.out (by kernel_rfl)) ?_
         refine Pt.pu 9 (some 70) (Pt.bm 17 1023) (any_of HT_.out (by kernel_rfl)) ?_
         refine one_ (i := 10) (N := some 71) (Pt.bm 17 2047) rfl rfl (one_of HT_.out (by kernel_rfl)) (by decide) (fun K hK => ?_)
         refine goes_ Try.func49 (by kernel_rfl) rfl #[.pointer (some ⟨g193, 0, none⟩), .int .i64 (wrap64 ((t195.length : Int) + 2))] (by rfl) rfl rfl lmB ?_
         with_reducible refine (spec_l40Rd_pick.calls kj36 g193 t191 t210 (wrap64 ((t195.length : Int) + 2)) t211 t212 w _ ?side1 ?side2 A53.out).mono ?_
         (case side1 => repeat (first | (with_reducible first | exact HI193.out | apply IsS106.alloc | apply IsS106.drewN | apply IsS106.drew | apply IsS106.set_1 | refine IsS106.far ?_ NB193_190.out _ | refine IsS106.far ?_ NB193_200.out _) | exact HI193.out))
         (case side2 => repeat (first | (with_reducible first | exact HB.out | apply bwA | apply bwN | apply bwD | refine below_set ?_ (IsS106.ge HI193.out) | refine below_set ?_ GE190.out | refine below_set ?_ GE200.out) | exact HB.out))
         rintro e w58 ⟨rfl, hi, hb, hk⟩
         refine ⟨_, rfl, ?_⟩
         have n0_ := Aside0.mk (Kd.R_mono (Kd.R_keep (IsS106.apart (show IsS106 w _ g193 t191 t210 from by repeat (first | (with_reducible first | exact HI193.out | apply IsS106.alloc | apply IsS106.drewN | apply IsS106.drew | apply IsS106.set_1 | refine IsS106.far ?_ NB193_190.out _ | refine IsS106.far ?_ NB193_200.out _) | exact HI193.out)) (rvR HO_201001.out) (by decide)) hk (fun _ h => h.2)) (fun _ h => h.1))
         have n1_ := Aside0.mk (KeepBut.blk hk (g' := gb190) (o := .cells #[.int .i64 0, .slice none 0 0] 25 (0, 0)) (bvK BK190.out) NB190_193.out (by simp))
         have n2_ := Aside0.mk (KeepBut.blk hk (g' := gb200) (o := .cells #[.int .i64 t194, .slice (some ad208) t195.length co12] 25 (0, 0)) (bvK BK200.out) NB200_193.out (by simp))
         have n3_ := Aside0.mk (hb)
         have n4_ := Aside0.mk (hi)
         clear HO_201001
         clear BK190
         clear BK200
         clear HB
         clear HI193
         have HO_201001 := n0_
         have BK190 := n1_
         have BK200 := n2_
         have HB := n3_
         have HI193 := n4_
         clear n0_ n1_ n2_ n3_ n4_
         (try clear hb)
         (try clear hb2)
         (try clear hk)
         (try clear hi)
         refine hK.out _ _ ⟨(blk_cell BK200.out 0).trans rfl, (blk_cell BK200.out 1).trans rfl⟩ (fun hHeld => ?_)
         clear hK K
         refine norm_ (a' := ?_) ?_ ?_
         rotate_left
         ·show Act.put _ (some 71) _ = _
          simp only [Act.put, List.setIfInBounds_toArray, List.set_cons_zero, List.set_cons_succ, i64_w, i32_w]
          rfl
         refine one_ (i := 11) (N := some 72) (Pt.bm 17 4095) rfl rfl (one_of HT_.out (by kernel_rfl)) (by decide) (fun K hK => ?_)
         refine Kd.R_lit_step (Kd.int .i64) _ 3 ?hg (N := 72) ?hd (xs := ([0, 1, t198, t211] : List Int)) (inner := [.int .i64 0, .int .i64 1, .int .i64 t198, .int .i64 t211]) (ok := fun _ => True) (okp := fun _ => True) ?hr ?hp (fun _ hk => hk) trivial (Below.refl _ _) (Nat.le_refl _) (by simp) ?_; (case hd => rfl); (case hg => rfl); (case hr => first | (go_simp; done) | (go_simp; rfl)); (case hp => exact (Reps.one (show Kd.M (Kd.int .i64) _ _ _ 0 [.int .i64 0] from rfl) (Reps.one (show Kd.M (Kd.int .i64) _ _ _ 1 [.int .i64 1] from rfl) (Reps.one (show Kd.M (Kd.int .i64) _ _ _ t198 [.int .i64 t198] from rfl) (Reps.one (show Kd.M (Kd.int .i64) _ _ _ t211 [.int .i64 t211] from rfl) (Reps.none _ _))))))
         intro v214 w59 ho60 hb hg_ hnew_
         clear hg_ hnew_
         (first | rw [← Ny213.out] at ho60 | (simp only [Int.reduceToNat] at ho60; rw [← Ny213.out] at ho60))
         have n0_ := Aside0.mk (Kd.R_below (rvR HO_201001.out) hb)
         have n1_ := Aside0.mk (Kd.R_lower ho60 (below_size (by repeat (first | (with_reducible first | exact HB.out | apply bwA | apply bwN | apply bwD | refine below_set ?_ (IsS106.ge HI193.out) | refine below_set ?_ GE190.out | refine below_set ?_ GE200.out) | exact HB.out))))
         have n2_ := Aside0.mk (blk_below (g := gb190) (o := .cells #[.int .i64 0, .slice none 0 0] 25 (0, 0)) (bvK BK190.out) hb)
         have n3_ := Aside0.mk (blk_below (g := gb200) (o := .cells #[.int .i64 t194, .slice (some ad208) t195.length co12] 25 (0, 0)) (bvK BK200.out) hb)
         have n4_ := Aside0.mk (IsS106.below (by repeat (first | (with_reducible first | exact HI193.out | apply IsS106.alloc | apply IsS106.drewN | apply IsS106.drew | apply IsS106.set_1 | refine IsS106.far ?_ NB193_190.out _ | refine IsS106.far ?_ NB193_200.out _) | exact HI193.out)) hb)
         have n5_ := Aside0.mk (below_step (by repeat (first | (with_reducible first | exact HB.out | apply bwA | apply bwN | apply bwD | refine below_set ?_ (IsS106.ge HI193.out) | refine below_set ?_ GE190.out | refine below_set ?_ GE200.out) | exact HB.out)) hb)
         clear HO_201001
         clear BK190
         clear BK200
         clear HI193
         clear HB
         have HO_201001 := n0_
         have HO215 := n1_
         have BK190 := n2_
         have BK200 := n3_
         have HI193 := n4_
         have HB := n5_
         clear n0_ n1_ n2_ n3_ n4_ n5_
         clear hb ho60
         obtain ⟨Ao61, co61, eo61⟩ := Kd.R_slice HO215.out
         (first | subst eo61 | (injection eo61 with f1_ f2_ f3_; have f4_ := f1_.symm; have f5_ := f3_.symm; clear f1_ f2_ f3_; subst f4_; subst f5_))
         refine hK.out _ _ ⟨(blk_cell BK200.out 0).trans rfl, (blk_cell BK200.out 1).trans rfl⟩ (fun hHeld => ?_)
         clear hK K
         refine norm_ (a' := ?_) ?_ ?_
         rotate_left
         ·show Act.put _ (some 72) _ = _
          simp only [Act.put, List.setIfInBounds_toArray, List.set_cons_zero, List.set_cons_succ, i64_w, i32_w]
          rfl
         refine one_ (i := 12) (N := some 73) (Pt.bm 17 8191) rfl rfl (one_of HT_.out (by kernel_rfl)) (by decide) (fun K hK => ?_)
         refine goes_ Try.func51 (by kernel_rfl) rfl #[.pointer (some ⟨g193, 0, none⟩), .slice Ao61 y213.length co61] (by rfl) rfl rfl lmB ?_
         with_reducible refine (spec_l40Rd_num.calls kj36 g193 t191 t212 _ _ y213 t216 t217 w _ ?side1 ?side2 ?side3 ?side4 ?side5 A54.out).mono ?_
         (case side1 => repeat (first | (with_reducible first | exact HI193.out | apply IsS106.alloc | apply IsS106.drewN | apply IsS106.drew | apply IsS106.set_1 | refine IsS106.far ?_ NB193_190.out _ | refine IsS106.far ?_ NB193_200.out _) | exact HI193.out))
         (case side2 => repeat (first | (with_reducible first | exact HB.out | apply bwA | apply bwN | apply bwD | refine below_set ?_ (IsS106.ge HI193.out) | refine below_set ?_ GE190.out | refine below_set ?_ GE200.out) | exact HB.out))
         (case side3 => repeat (first | exact (Kd.R_reads' HO215.out).2.2 | (with_reducible refine Kd.C_alloc ?_ _) | (with_reducible refine Kd.C_drewN ?_ _) | (with_reducible refine Kd.C_drew ?_)))
         (case side4 => exact (Kd.R_reads' HO215.out).2.1)
         (case side5 => exact far_slice (IsS106.own_ne HI193.out HO215.out (by decide)))
         rintro e w62 ⟨rfl, hi, hb, hk⟩
         refine ⟨_, rfl, ?_⟩
         have n0_ := Aside0.mk (Kd.R_mono (Kd.R_keep (IsS106.apart (show IsS106 w _ g193 t191 t212 from by repeat (first | (with_reducible first | exact HI193.out | apply IsS106.alloc | apply IsS106.drewN | apply IsS106.drew | apply IsS106.set_1 | refine IsS106.far ?_ NB193_190.out _ | refine IsS106.far ?_ NB193_200.out _) | exact HI193.out)) (rvR HO_201001.out) (by decide)) hk (fun _ h => h.2)) (fun _ h => h.1))
         have n1_ := Aside0.mk (KeepBut.blk hk (g' := gb190) (o := .cells #[.int .i64 0, .slice none 0 0] 25 (0, 0)) (bvK BK190.out) NB190_193.out (by simp))
         have n2_ := Aside0.mk (KeepBut.blk hk (g' := gb200) (o := .cells #[.int .i64 t194, .slice (some ad208) t195.length co12] 25 (0, 0)) (bvK BK200.out) NB200_193.out (by simp))
         have n3_ := Aside0.mk (Kd.R_mono (Kd.R_keep (IsS106.apart (show IsS106 w _ g193 t191 t212 from by repeat (first | (with_reducible first | exact HI193.out | apply IsS106.alloc | apply IsS106.drewN | apply IsS106.drew | apply IsS106.set_1 | refine IsS106.far ?_ NB193_190.out _ | refine IsS106.far ?_ NB193_200.out _) | exact HI193.out)) (rvR HO215.out) (by decide)) hk (fun _ h => h.2)) (fun _ h => h.1))
         have n4_ := Aside0.mk (hb)
         have n5_ := Aside0.mk (hi)
         clear HO_201001
         clear BK190
         clear BK200
         clear HO215
         clear HB
         clear HI193
         have HO_201001 := n0_
         have BK190 := n1_
         have BK200 := n2_
         have HO215 := n3_
         have HB := n4_
         have HI193 := n5_
         clear n0_ n1_ n2_ n3_ n4_ n5_
         (try clear hb)
         (try clear hb2)
         (try clear hk)
         (try clear hi)
         refine hK.out _ _ ⟨(blk_cell BK200.out 0).trans rfl, (blk_cell BK200.out 1).trans rfl⟩ (fun hHeld => ?_)
         clear hK K
         refine norm_ (a' := ?_) ?_ ?_
         rotate_left
         ·show Act.put _ (some 73) _ = _
          simp only [Act.put, List.setIfInBounds_toArray, List.set_cons_zero, List.set_cons_succ, i64_w, i32_w]
          rfl
         refine one_ (i := 13) (N := none) (Pt.bm 17 16383) rfl rfl (one_of HT_.out (by kernel_rfl)) (by decide) (fun K hK => ?_)
         have hs63 : w62.cell? ⟨gb190, 0, none⟩ = some (.int .i64 0) := (blk_cell BK190.out 0).trans rfl
         have hfs63 := blk_frozen BK190.out 0
         have hns63_1 := NB200_190.out
         have hms63_1 := NB190_200.out
         have hs64 : w62.cell? ⟨gb190, 1, none⟩ = some (.slice none 0 0) := (blk_cell BK190.out 1).trans rfl
         have hfs64 := blk_frozen BK190.out 1
         have hns64_1 := NB200_190.out
         have hms64_1 := NB190_200.out
         refine skip_ (w1 := ?_) (by rfl) rfl ?_ ?_
         rotate_left
         ·go_simp
          rfl
         refine hK.out _ _ ⟨((cell_far (p := ⟨gb190, _, none⟩) NB200_190.out _).trans (((cell_far (p := ⟨gb190, _, none⟩) NB200_190.out _).trans (hHeld.1)))), ((cell_far (p := ⟨gb190, _, none⟩) NB200_190.out _).trans (((cell_far (p := ⟨gb190, _, none⟩) NB200_190.out _).trans (hHeld.2))))⟩ (fun hHeld => ?_)
         clear hK K
         refine Pt.pu 14 (some 3) (Pt.bm 17 32767) (any_of HT_.out (by kernel_rfl)) ?_
         refine Pt.pu 15 (some 4) (Pt.bm 17 65535) (any_of HT_.out (by kernel_rfl)) ?_
         refine Pt.pu 16 (some 5) (Pt.bm 17 131071) (any_of HT_.out (by kernel_rfl)) ?_
         refine done_ (done_of HT_.out (by kernel_rfl)) ?_
         try go_wp2
         refine bodyPost_ret (results_list (rs := [.cell 2 25, .tmp 3, .tmp 4, .tmp 5]) rfl (by simp) (.cell gb190 25 #[.int .i64 t194, .slice (some ad208) t195.length co12] (0, 0) _ rfl (by (with_reducible repeat (first | refine blk_drewN ?_ _ | refine blk_drew ?_ | refine blk_alloc ?_ _)); refine blk_put (cs := #[.int .i64 t194, .slice none 0 0]) ?_ 1 _ rfl; (with_reducible repeat (first | refine blk_drewN ?_ _ | refine blk_drew ?_ | refine blk_alloc ?_ _)); refine blk_put (cs := #[.int .i64 0, .slice none 0 0]) ?_ 0 _ rfl; (with_reducible repeat (first | refine blk_drewN ?_ _ | refine blk_drew ?_ | refine blk_alloc ?_ _)); exact BK190.out) Try.underlying25 rfl (by kernel_rfl) (.tmp (.tmp (.tmp .nil))))) rfl ?_
         exact ⟨_, by first | rfl | (simp [errW_none, errW_some] <;> rfl) | (simp only [← hji49]; first | rfl | (simp [errW_none, errW_some] <;> rfl)) | (simp [*, errW_none, errW_some] <;> rfl), by (with_reducible repeat (first | apply Kd.R_alloc | apply Kd.R_drewN | apply Kd.R_drew)); exact Kd.R_mono (Kd.R_far (p := ⟨gb190, 1, none⟩) (Kd.R_far (p := ⟨gb190, 0, none⟩) (Kd.R_types HO_201001.out BK190.out (by decide)) (fun _ hk => hk.2) (.int .i64 t194)) (fun _ hk => hk.2) (.slice (some ad208) t195.length co12)) (fun _ hk => trivial), by repeat (first | (with_reducible first | exact HB.out | apply bwA | apply bwN | apply bwD | refine below_set ?_ (IsS106.ge HI193.out) | refine below_set ?_ GE190.out | refine below_set ?_ GE200.out) | exact HB.out)⟩
        ·rw [if_neg c51] at H
         exact absurd H (by simp)
       ·rw [if_neg c50] at H
        exact absurd H (by simp)
      ·replace c48 := Bool.eq_false_iff.mpr c48
       subst c48
       have H1 : ((spec_l40Rd_pick.f kj36 t191 x194001_3 (wrap64 ((t195.length : Int) + 2))).bind fun bt218 => ((spec_l40Rd_num.f kj36 t191 bt218.2 (([0, 1, t198, bt218.1] : List Int))).bind fun bt223 => (some (t194, t195, 0, t198, bt223.1)))) = some (r1, r2, r3, r4, r5) := by rw [if_neg (show ¬ (false = true) by decide)] at H; exact H
       clear H
       have H := H1
       clear H1
       replace H := Option.bind_eq_some_iff.mp H
       obtain ⟨⟨t218, t219⟩, A650, H⟩ := H
       replace H : ((spec_l40Rd_num.f kj36 t191 t219 (([0, 1, t198, t218] : List Int))).bind fun bt223 => (some (t194, t195, 0, t198, bt223.1))) = some (r1, r2, r3, r4, r5) := H
       have A65 := Aside0.mk A650
       clear A650
       obtain ⟨y220, hy220⟩ : ∃ y_ : List Int, y_ = (([0, 1, t198, t218] : List Int)) := ⟨_, rfl⟩
       replace H : ((spec_l40Rd_num.f kj36 t191 t219 y220).bind fun bt223 => (some (t194, t195, 0, t198, bt223.1))) = some (r1, r2, r3, r4, r5) := by first | (rw [hy220]; with_reducible exact H) | (have H2_ := (Option.bind_some _ _).symm.trans H; rw [hy220]; with_reducible exact H2_) | (have H2_ := (Option.bind_some _ _).symm.trans H; with_reducible exact H2_) | with_reducible exact H | (rw [hy220]; exact H) | exact H
       have Ny220 := Aside0.mk hy220
       clear hy220
       replace H := Option.bind_eq_some_iff.mp H
       obtain ⟨⟨t223, t224⟩, A660, H⟩ := H
       replace H : (some (t194, t195, 0, t198, t223)) = some (r1, r2, r3, r4, r5) := H
       have A66 := Aside0.mk A660
       clear A660
       simp only [Option.some.injEq, Prod.mk.injEq] at H
       obtain ⟨rfl, rfl, rfl, rfl, rfl⟩ := H
       try go_wp2
       have n0_ := Aside0.mk (Kd.R_drew HO_201001.out)
       have n1_ := Aside0.mk (blk_drew BK190.out)
       have n2_ := Aside0.mk (blk_drew BK200.out)
       have n3_ := Aside0.mk (IsS106.drew HI193.out)
       have n4_ := Aside0.mk (below_drew1 HB.out)
       clear HO_201001
       clear BK190
       clear BK200
       clear HI193
       clear HB
       have HO_201001 := n0_
       have BK190 := n1_
       have BK200 := n2_
       have HI193 := n3_
       have HB := n4_
       clear n0_ n1_ n2_ n3_ n4_
       refine start_ (n := 17) (S := fun w' => w'.cell? ⟨gb200, 0, none⟩ = some (.int .i64 t194) ∧ w'.cell? ⟨gb200, 1, none⟩ = some (.slice Ao12 t195.length co12)) (ds := []) (Pt.bm 17 0) (by kernel_rfl) rfl rfl ⟨(blk_cell BK200.out 0).trans rfl, (blk_cell BK200.out 1).trans rfl⟩ (fun hHeld => ?_); refine with_tabW spec_DrawAddFork.tab9 spec_DrawAddFork.bits9 (fun HT_ HW_ => ?_)
       generalize wc.drew = w67 at HO_201001 BK190 BK200 HI193 HB hHeld ⊢
       refine Pt.pu 1 (some 62) (Pt.bm 17 2) (any_of HT_.out (by kernel_rfl)) ?_
       refine Pt.pu 2 (some 63) (Pt.bm 17 6) (any_of HT_.out (by kernel_rfl)) ?_
       refine Pt.pu 3 (some 64) (Pt.bm 17 14) (any_of HT_.out (by kernel_rfl)) ?_
       refine Pt.pu 4 (some 65) (Pt.bm 17 30) (any_of HT_.out (by kernel_rfl)) ?_
       refine Pt.pu 5 (some 66) (Pt.bm 17 62) (any_of HT_.out (by kernel_rfl)) ?_
       refine Pt.pu 6 (some 67) (Pt.bm 17 126) (any_of HT_.out (by kernel_rfl)) ?_
       refine Pt.tk 0 (some 61) (Pt.bm 17 127) rfl rfl (take_ofW HT_.out HW_.out (by kernel_rfl)) hHeld (Or.inl ⟨by rfl, by rintro w' ⟨s0, s1⟩; go_simp; with_reducible rfl⟩) ?_
       refine Pt.tk 7 (some 68) (Pt.bm 17 255) rfl rfl (take_ofW HT_.out HW_.out (by kernel_rfl)) hHeld (Or.inl ⟨by rfl, by rintro w' ⟨s0, s1⟩; go_simp; with_reducible rfl⟩) ?_
       refine Pt.pu 8 (some 69) (Pt.bm 17 511) (any_of HT_.out (by kernel_rfl)) ?_
       refine Pt.pu 9 (some 70) (Pt.bm 17 1023) (any_of HT_.out (by kernel_rfl)) ?_
       refine one_ (i := 10) (N := some 71) (Pt.bm 17 2047) rfl rfl (one_of HT_.out (by kernel_rfl)) (by decide) (fun K hK => ?_)
       refine goes_ Try.func49 (by kernel_rfl) rfl #[.pointer (some ⟨g193, 0, none⟩), .int .i64 (wrap64 ((t195.length : Int) + 2))] (by rfl) rfl rfl lmB ?_
       with_reducible refine (spec_l40Rd_pick.calls kj36 g193 t191 x194001_3 (wrap64 ((t195.length : Int) + 2)) t218 t219 w _ ?side1 ?side2 A65.out).mono ?_
       (case side1 => repeat (first | (with_reducible first | exact HI193.out | apply IsS106.alloc | apply IsS106.drewN | apply IsS106.drew | apply IsS106.set_1 | refine IsS106.far ?_ NB193_190.out _ | refine IsS106.far ?_ NB193_200.out _) | exact HI193.out))
       (case side2 => repeat (first | (with_reducible first | exact HB.out | apply bwA | apply bwN | apply bwD | refine below_set ?_ (IsS106.ge HI193.out) | refine below_set ?_ GE190.out | refine below_set ?_ GE200.out) | exact HB.out))
       rintro e w68 ⟨rfl, hi, hb, hk⟩
       refine ⟨_, rfl, ?_⟩
       have n0_ := Aside0.mk (Kd.R_mono (Kd.R_keep (IsS106.apart (show IsS106 w _ g193 t191 x194001_3 from by repeat (first | (with_reducible first | exact HI193.out | apply IsS106.alloc | apply IsS106.drewN | apply IsS106.drew | apply IsS106.set_1 | refine IsS106.far ?_ NB193_190.out _ | refine IsS106.far ?_ NB193_200.out _) | exact HI193.out)) (rvR HO_201001.out) (by decide)) hk (fun _ h => h.2)) (fun _ h => h.1))
       have n1_ := Aside0.mk (KeepBut.blk hk (g' := gb190) (o := .cells #[.int .i64 0, .slice none 0 0] 25 (0, 0)) (bvK BK190.out) NB190_193.out (by simp))
       have n2_ := Aside0.mk (KeepBut.blk hk (g' := gb200) (o := .cells #[.int .i64 t194, .slice Ao12 t195.length co12] 25 (0, 0)) (bvK BK200.out) NB200_193.out (by simp))
       have n3_ := Aside0.mk (hb)
       have n4_ := Aside0.mk (hi)
       clear HO_201001
       clear BK190
       clear BK200
       clear HB
       clear HI193
       have HO_201001 := n0_
       have BK190 := n1_
       have BK200 := n2_
       have HB := n3_
       have HI193 := n4_
       clear n0_ n1_ n2_ n3_ n4_
       (try clear hb)
       (try clear hb2)
       (try clear hk)
       (try clear hi)
       refine hK.out _ _ ⟨(blk_cell BK200.out 0).trans rfl, (blk_cell BK200.out 1).trans rfl⟩ (fun hHeld => ?_)
       clear hK K
       refine norm_ (a' := ?_) ?_ ?_
       rotate_left
       ·show Act.put _ (some 71) _ = _
        simp only [Act.put, List.setIfInBounds_toArray, List.set_cons_zero, List.set_cons_succ, i64_w, i32_w]
        rfl
       refine one_ (i := 11) (N := some 72) (Pt.bm 17 4095) rfl rfl (one_of HT_.out (by kernel_rfl)) (by decide) (fun K hK => ?_)
       refine Kd.R_lit_step (Kd.int .i64) _ 3 ?hg (N := 72) ?hd (xs := ([0, 1, t198, t218] : List Int)) (inner := [.int .i64 0, .int .i64 1, .int .i64 t198, .int .i64 t218]) (ok := fun _ => True) (okp := fun _ => True) ?hr ?hp (fun _ hk => hk) trivial (Below.refl _ _) (Nat.le_refl _) (by simp) ?_; (case hd => rfl); (case hg => rfl); (case hr => first | (go_simp; done) | (go_simp; rfl)); (case hp => exact (Reps.one (show Kd.M (Kd.int .i64) _ _ _ 0 [.int .i64 0] from rfl) (Reps.one (show Kd.M (Kd.int .i64) _ _ _ 1 [.int .i64 1] from rfl) (Reps.one (show Kd.M (Kd.int .i64) _ _ _ t198 [.int .i64 t198] from rfl) (Reps.one (show Kd.M (Kd.int .i64) _ _ _ t218 [.int .i64 t218] from rfl) (Reps.none _ _))))))
       intro v221 w69 ho70 hb hg_ hnew_
       clear hg_ hnew_
       (first | rw [← Ny220.out] at ho70 | (simp only [Int.reduceToNat] at ho70; rw [← Ny220.out] at ho70))
       have n0_ := Aside0.mk (Kd.R_below (rvR HO_201001.out) hb)
       have n1_ := Aside0.mk (Kd.R_lower ho70 (below_size (by repeat (first | (with_reducible first | exact HB.out | apply bwA | apply bwN | apply bwD | refine below_set ?_ (IsS106.ge HI193.out) | refine below_set ?_ GE190.out | refine below_set ?_ GE200.out) | exact HB.out))))
       have n2_ := Aside0.mk (blk_below (g := gb190) (o := .cells #[.int .i64 0, .slice none 0 0] 25 (0, 0)) (bvK BK190.out) hb)
       have n3_ := Aside0.mk (blk_below (g := gb200) (o := .cells #[.int .i64 t194, .slice Ao12 t195.length co12] 25 (0, 0)) (bvK BK200.out) hb)
       have n4_ := Aside0.mk (IsS106.below (by repeat (first | (with_reducible first | exact HI193.out | apply IsS106.alloc | apply IsS106.drewN | apply IsS106.drew | apply IsS106.set_1 | refine IsS106.far ?_ NB193_190.out _ | refine IsS106.far ?_ NB193_200.out _) | exact HI193.out)) hb)
       have n5_ := Aside0.mk (below_step (by repeat (first | (with_reducible first | exact HB.out | apply bwA | apply bwN | apply bwD | refine below_set ?_ (IsS106.ge HI193.out) | refine below_set ?_ GE190.out | refine below_set ?_ GE200.out) | exact HB.out)) hb)
       clear HO_201001
       clear BK190
       clear BK200
       clear HI193
       clear HB
       have HO_201001 := n0_
       have HO222 := n1_
       have BK190 := n2_
       have BK200 := n3_
       have HI193 := n4_
       have HB := n5_
       clear n0_ n1_ n2_ n3_ n4_ n5_
       clear hb ho70
       obtain ⟨Ao71, co71, eo71⟩ := Kd.R_slice HO222.out
       (first | subst eo71 | (injection eo71 with f1_ f2_ f3_; have f4_ := f1_.symm; have f5_ := f3_.symm; clear f1_ f2_ f3_; subst f4_; subst f5_))
       refine hK.out _ _ ⟨(blk_cell BK200.out 0).trans rfl, (blk_cell BK200.out 1).trans rfl⟩ (fun hHeld => ?_)
       clear hK K
       refine norm_ (a' := ?_) ?_ ?_
       rotate_left
       ·show Act.put _ (some 72) _ = _
        simp only [Act.put, List.setIfInBounds_toArray, List.set_cons_zero, List.set_cons_succ, i64_w, i32_w]
        rfl
       refine one_ (i := 12) (N := some 73) (Pt.bm 17 8191) rfl rfl (one_of HT_.out (by kernel_rfl)) (by decide) (fun K hK => ?_)
       refine goes_ Try.func51 (by kernel_rfl) rfl #[.pointer (some ⟨g193, 0, none⟩), .slice Ao71 y220.length co71] (by rfl) rfl rfl lmB ?_
       with_reducible refine (spec_l40Rd_num.calls kj36 g193 t191 t219 _ _ y220 t223 t224 w _ ?side1 ?side2 ?side3 ?side4 ?side5 A66.out).mono ?_
       (case side1 => repeat (first | (with_reducible first | exact HI193.out | apply IsS106.alloc | apply IsS106.drewN | apply IsS106.drew | apply IsS106.set_1 | refine IsS106.far ?_ NB193_190.out _ | refine IsS106.far ?_ NB193_200.out _) | exact HI193.out))
       (case side2 => repeat (first | (with_reducible first | exact HB.out | apply bwA | apply bwN | apply bwD | refine below_set ?_ (IsS106.ge HI193.out) | refine below_set ?_ GE190.out | refine below_set ?_ GE200.out) | exact HB.out))
       (case side3 => repeat (first | exact (Kd.R_reads' HO222.out).2.2 | (with_reducible refine Kd.C_alloc ?_ _) | (with_reducible refine Kd.C_drewN ?_ _) | (with_reducible refine Kd.C_drew ?_)))
       (case side4 => exact (Kd.R_reads' HO222.out).2.1)
       (case side5 => exact far_slice (IsS106.own_ne HI193.out HO222.out (by decide)))
       rintro e w72 ⟨rfl, hi, hb, hk⟩
       refine ⟨_, rfl, ?_⟩
       have n0_ := Aside0.mk (Kd.R_mono (Kd.R_keep (IsS106.apart (show IsS106 w _ g193 t191 t219 from by repeat (first | (with_reducible first | exact HI193.out | apply IsS106.alloc | apply IsS106.drewN | apply IsS106.drew | apply IsS106.set_1 | refine IsS106.far ?_ NB193_190.out _ | refine IsS106.far ?_ NB193_200.out _) | exact HI193.out)) (rvR HO_201001.out) (by decide)) hk (fun _ h => h.2)) (fun _ h => h.1))
       have n1_ := Aside0.mk (KeepBut.blk hk (g' := gb190) (o := .cells #[.int .i64 0, .slice none 0 0] 25 (0, 0)) (bvK BK190.out) NB190_193.out (by simp))
       have n2_ := Aside0.mk (KeepBut.blk hk (g' := gb200) (o := .cells #[.int .i64 t194, .slice Ao12 t195.length co12] 25 (0, 0)) (bvK BK200.out) NB200_193.out (by simp))
       have n3_ := Aside0.mk (Kd.R_mono (Kd.R_keep (IsS106.apart (show IsS106 w _ g193 t191 t219 from by repeat (first | (with_reducible first | exact HI193.out | apply IsS106.alloc | apply IsS106.drewN | apply IsS106.drew | apply IsS106.set_1 | refine IsS106.far ?_ NB193_190.out _ | refine IsS106.far ?_ NB193_200.out _) | exact HI193.out)) (rvR HO222.out) (by decide)) hk (fun _ h => h.2)) (fun _ h => h.1))
       have n4_ := Aside0.mk (hb)
       have n5_ := Aside0.mk (hi)
       clear HO_201001
       clear BK190
       clear BK200
       clear HO222
       clear HB
       clear HI193
       have HO_201001 := n0_
       have BK190 := n1_
       have BK200 := n2_
       have HO222 := n3_
       have HB := n4_
       have HI193 := n5_
       clear n0_ n1_ n2_ n3_ n4_ n5_
       (try clear hb)
       (try clear hb2)
       (try clear hk)
       (try clear hi)
       refine hK.out _ _ ⟨(blk_cell BK200.out 0).trans rfl, (blk_cell BK200.out 1).trans rfl⟩ (fun hHeld => ?_)
       clear hK K
       refine norm_ (a' := ?_) ?_ ?_
       rotate_left
       ·show Act.put _ (some 73) _ = _
        simp only [Act.put, List.setIfInBounds_toArray, List.set_cons_zero, List.set_cons_succ, i64_w, i32_w]
        rfl
       refine one_ (i := 13) (N := none) (Pt.bm 17 16383) rfl rfl (one_of HT_.out (by kernel_rfl)) (by decide) (fun K hK => ?_)
       have hs73 : w72.cell? ⟨gb190, 0, none⟩ = some (.int .i64 0) := (blk_cell BK190.out 0).trans rfl
       have hfs73 := blk_frozen BK190.out 0
       have hns73_1 := NB200_190.out
       have hms73_1 := NB190_200.out
       have hs74 : w72.cell? ⟨gb190, 1, none⟩ = some (.slice none 0 0) := (blk_cell BK190.out 1).trans rfl
       have hfs74 := blk_frozen BK190.out 1
       have hns74_1 := NB200_190.out
       have hms74_1 := NB190_200.out
       refine skip_ (w1 := ?_) (by rfl) rfl ?_ ?_
       rotate_left
       ·go_simp
        rfl
       refine hK.out _ _ ⟨((cell_far (p := ⟨gb190, _, none⟩) NB200_190.out _).trans (((cell_far (p := ⟨gb190, _, none⟩) NB200_190.out _).trans (hHeld.1)))), ((cell_far (p := ⟨gb190, _, none⟩) NB200_190.out _).trans (((cell_far (p := ⟨gb190, _, none⟩) NB200_190.out _).trans (hHeld.2))))⟩ (fun hHeld => ?_)
       clear hK K
       refine Pt.pu 14 (some 3) (Pt.bm 17 32767) (any_of HT_.out (by kernel_rfl)) ?_
       refine Pt.pu 15 (some 4) (Pt.bm 17 65535) (any_of HT_.out (by kernel_rfl)) ?_
       refine Pt.pu 16 (some 5) (Pt.bm 17 131071) (any_of HT_.out (by kernel_rfl)) ?_
       refine done_ (done_of HT_.out (by kernel_rfl)) ?_
       try go_wp2
       refine bodyPost_ret (results_list (rs := [.cell 2 25, .tmp 3, .tmp 4, .tmp 5]) rfl (by simp) (.cell gb190 25 #[.int .i64 t194, .slice Ao12 t195.length co12] (0, 0) _ rfl (by (with_reducible repeat (first | refine blk_drewN ?_ _ | refine blk_drew ?_ | refine blk_alloc ?_ _)); refine blk_put (cs := #[.int .i64 t194, .slice none 0 0]) ?_ 1 _ rfl; (with_reducible repeat (first | refine blk_drewN ?_ _ | refine blk_drew ?_ | refine blk_alloc ?_ _)); refine blk_put (cs := #[.int .i64 0, .slice none 0 0]) ?_ 0 _ rfl; (with_reducible repeat (first | refine blk_drewN ?_ _ | refine blk_drew ?_ | refine blk_alloc ?_ _)); exact BK190.out) Try.underlying25 rfl (by kernel_rfl) (.tmp (.tmp (.tmp .nil))))) rfl ?_
       exact ⟨_, ers, by (with_reducible repeat (first | apply Kd.R_alloc | apply Kd.R_drewN | apply Kd.R_drew)); exact Kd.R_mono (Kd.R_far (p := ⟨gb190, 1, none⟩) (Kd.R_far (p := ⟨gb190, 0, none⟩) (Kd.R_types HO_201001.out BK190.out (by decide)) (fun _ hk => hk.2) (.int .i64 t194)) (fun _ hk => hk.2) (.slice Ao12 t195.length co12)) (fun _ hk => trivial), by repeat (first | (with_reducible first | exact HB.out | apply bwA | apply bwN | apply bwD | refine below_set ?_ (IsS106.ge HI193.out) | refine below_set ?_ GE190.out | refine below_set ?_ GE200.out) | exact HB.out)⟩

end Go.Proofs.Ytpcompnmadpljaa.QFnAddFork
