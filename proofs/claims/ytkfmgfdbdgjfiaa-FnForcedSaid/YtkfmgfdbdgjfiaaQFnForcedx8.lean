-- Written by a program of this session (mk.py). Lean checks it.
import Derived.Test.YtkfmgfdbdgjfiaaQFnForcedx0
import Derived.Test.YtkfmgfdbdgjfiaaQFnForcedx2
import Derived.Test.YtkfmgfdbdgjfiaaQFnForcedx4
import Derived.Test.YtkfmgfdbdgjfiaaQFnForcedx5
import Derived.Test.YtkfmgfdbdgjfiaaQFnForcedx7
namespace Go.Proofs.Ytkfmgfdbdgjfiaa.QFnForced
open Go.RowKit Go.Proofs.YtkfmgfdbdgjfiaaW.PrintWords Go.Proofs.YtkfmgfdbdgjfiaaW.PrintLast Go.Proofs.YtkfmgfdbdgjfiaaW.PrintMore
attribute [local go_sem] max2_int min2_int max_two min_two max_three min_three max_four min_four   -- for this text's walks alone
set_option linter.unusedVariables false
set_option linter.unusedSimpArgs false

/-! ### spec_DrawForced: function 22 -/
def spec_DrawForced.f (k : Nat) (l0 : List Int) : Option (Int × (List (List Int)) × List Int) := (spec_l40Open.f l0).bind fun bt297 => ((spec_l11Some.f k bt297.1 bt297.2).bind fun bt300 => ((spec_l40Rd_pick.f k bt297.1 bt300.2.2 16).bind fun bt306 => (if bt306.1 = 0 then ((spec_l40Rd_num.f k bt297.1 bt306.2 (([0, 9, (-9)] : List Int))).bind fun bt311 => (some (bt300.1, bt300.2.1, (([bt311.1] : List Int))))) else ((spec_l40Rd_pick.f k bt297.1 bt306.2 4).bind fun bt316 => ((spec_l11Lits.f k bt297.1 bt316.2 bt300.1 bt316.1).bind fun bt318 => (some (bt300.1, bt300.2.1, bt318.1)))))))
theorem spec_DrawForced.mono : ∀ a0 k, LeO (spec_DrawForced.f k a0) (spec_DrawForced.f (k + 1) a0) := by
 intro a0 k
 unfold spec_DrawForced.f
 repeat' first
   | (with_reducible exact spec_l11Lits.mono _ _ _ _ _)
   | (with_reducible exact spec_l11Some.mono _ _ _)
   | (with_reducible exact spec_l40Rd_num.mono _ _ _ _)
   | (with_reducible exact spec_l40Rd_pick.mono _ _ _ _)
   | (with_reducible exact LeO.refl _)
   | (with_reducible exact LeO.none _)
   | (with_reducible refine LeO.ite ?_ ?_)
   | (with_reducible refine LeO.bind ?_ (fun _ => ?_))
   | exact spec_l11Lits.mono _ _ _ _ _
   | exact spec_l11Some.mono _ _ _
   | exact spec_l40Rd_num.mono _ _ _ _
   | exact spec_l40Rd_pick.mono _ _ _ _
   | exact LeO.none _
   | refine LeO.ite ?_ ?_
   | refine LeO.bind ?_ (fun _ => ?_)
def spec_DrawForced.T4 : Bool × List (List Nat × List Nat) := (true, [([], []), ([], []), ([], []), ([1, 2], [1, 2]), ([3], [3]), ([0, 3, 0], [0]), ([4, 5, 0, 1, 2, 3, 4, 5], [4])])
def spec_DrawForced.B4 : List Nat := [0, 0, 0, 6, 14, 15, 63]
theorem spec_DrawForced.tab4 : rtab .any (opsOf Try.f22 4) = spec_DrawForced.T4 := by kernel_rfl
theorem spec_DrawForced.bits4 : waitsOk spec_DrawForced.T4.2 spec_DrawForced.B4 = true := by kernel_rfl
def spec_DrawForced.T5 : Bool × List (List Nat × List Nat) := (true, [([], []), ([], []), ([], []), ([2], [2]), ([], []), ([4], [4]), ([1, 3, 5, 5], [1, 3, 5]), ([0, 6, 0], [0]), ([6, 7, 0, 1, 2, 3, 4, 5, 6, 7], [6])])
def spec_DrawForced.B5 : List Nat := [0, 0, 0, 4, 0, 16, 62, 127, 255]
theorem spec_DrawForced.tab5 : rtab .any (opsOf Try.f22 5) = spec_DrawForced.T5 := by kernel_rfl
theorem spec_DrawForced.bits5 : waitsOk spec_DrawForced.T5.2 spec_DrawForced.B5 = true := by kernel_rfl
set_option maxHeartbeats 8000000 in
set_option maxRecDepth 100000 in
theorem spec_DrawForced.calls (k : Nat) (A0 : Option Addr) (c0 : Nat) (l0 : List Int) (r1 : Int) (r2 : List (List Int)) (r3 : List Int) (w : World) (hr0 : Kd.C (Kd.int .u8) w A0 l0.length l0) (hc0 : l0.length ≤ c0) (h : spec_DrawForced.f k l0 = some (r1, r2, r3)) :
  Calls Try.prog 22 #[.slice A0 l0.length c0] w fun e w' => ∃ v1_ v2_ : Value, e = .returned (.tuple #[.agg #[.int .i64 r1, v1_], v2_]) ∧ Kd.S (Kd.slice 3 (Kd.int .i64)) 25 w' w.heap.size (fun k_ => some k_ ≠ (v2_ : Value).ownBlock) v1_ r2 ∧ Kd.R (Kd.int .i64) 3 w' w.heap.size (fun _ => True) v2_ r3 ∧ Below w.heap.size w w' := by
 have hu29 := Try.underlying29
 have HR0 := Aside0.mk hr0
 have HC0 := Aside0.mk hc0
 clear hr0 hc0
 have HB := Aside0.mk (Below.refl w.heap.size w)
 have H : ((spec_l40Open.f l0).bind fun bt297 => ((spec_l11Some.f k bt297.1 bt297.2).bind fun bt300 => ((spec_l40Rd_pick.f k bt297.1 bt300.2.2 16).bind fun bt306 => (if bt306.1 = 0 then ((spec_l40Rd_num.f k bt297.1 bt306.2 (([0, 9, (-9)] : List Int))).bind fun bt311 => (some (bt300.1, bt300.2.1, (([bt311.1] : List Int))))) else ((spec_l40Rd_pick.f k bt297.1 bt306.2 4).bind fun bt316 => ((spec_l11Lits.f k bt297.1 bt316.2 bt300.1 bt316.1).bind fun bt318 => (some (bt300.1, bt300.2.1, bt318.1)))))))) = some (r1, r2, r3) := h
 clear h
 replace H := Option.bind_eq_some_iff.mp H
 obtain ⟨⟨t297, t298⟩, A20, H⟩ := H
 replace H : ((spec_l11Some.f k t297 t298).bind fun bt300 => ((spec_l40Rd_pick.f k t297 bt300.2.2 16).bind fun bt306 => (if bt306.1 = 0 then ((spec_l40Rd_num.f k t297 bt306.2 (([0, 9, (-9)] : List Int))).bind fun bt311 => (some (bt300.1, bt300.2.1, (([bt311.1] : List Int))))) else ((spec_l40Rd_pick.f k t297 bt306.2 4).bind fun bt316 => ((spec_l11Lits.f k t297 bt316.2 bt300.1 bt316.1).bind fun bt318 => (some (bt300.1, bt300.2.1, bt318.1))))))) = some (r1, r2, r3) := H
 have A2 := Aside0.mk A20
 clear A20
 replace H := Option.bind_eq_some_iff.mp H
 obtain ⟨⟨t300, t301, t304⟩, A30, H⟩ := H
 replace H : ((spec_l40Rd_pick.f k t297 t304 16).bind fun bt306 => (if bt306.1 = 0 then ((spec_l40Rd_num.f k t297 bt306.2 (([0, 9, (-9)] : List Int))).bind fun bt311 => (some (t300, t301, (([bt311.1] : List Int))))) else ((spec_l40Rd_pick.f k t297 bt306.2 4).bind fun bt316 => ((spec_l11Lits.f k t297 bt316.2 t300 bt316.1).bind fun bt318 => (some (t300, t301, bt318.1)))))) = some (r1, r2, r3) := H
 have A3 := Aside0.mk A30
 clear A30
 replace H := Option.bind_eq_some_iff.mp H
 obtain ⟨⟨t306, t307⟩, A40, H⟩ := H
 replace H : (if t306 = 0 then ((spec_l40Rd_num.f k t297 t307 (([0, 9, (-9)] : List Int))).bind fun bt311 => (some (t300, t301, (([bt311.1] : List Int))))) else ((spec_l40Rd_pick.f k t297 t307 4).bind fun bt316 => ((spec_l11Lits.f k t297 bt316.2 t300 bt316.1).bind fun bt318 => (some (t300, t301, bt318.1))))) = some (r1, r2, r3) := H
 have A4 := Aside0.mk A40
 clear A40
 by_cases c5 : t306 = 0
 ·rw [if_pos c5] at H
  have c5b0 : (t306 == 0) = true := beq_iff_eq.mpr c5
  have c5b1 : (t306 != 0) = false := bne_eq_false_iff_eq.mpr c5
  clear c5
  obtain ⟨y308, hy308⟩ : ∃ y_ : List Int, y_ = (([0, 9, (-9)] : List Int)) := ⟨_, rfl⟩
  replace H : ((spec_l40Rd_num.f k t297 t307 y308).bind fun bt311 => (some (t300, t301, (([bt311.1] : List Int))))) = some (r1, r2, r3) := by first | (rw [hy308]; with_reducible exact H) | (have H2_ := (Option.bind_some _ _).symm.trans H; rw [hy308]; with_reducible exact H2_) | (have H2_ := (Option.bind_some _ _).symm.trans H; with_reducible exact H2_) | with_reducible exact H | (rw [hy308]; exact H) | exact H
  have Ny308 := Aside0.mk hy308
  clear hy308
  replace H := Option.bind_eq_some_iff.mp H
  obtain ⟨⟨t311, t312⟩, A60, H⟩ := H
  replace H : (some (t300, t301, (([t311] : List Int)))) = some (r1, r2, r3) := H
  have A6 := Aside0.mk A60
  clear A60
  obtain ⟨y313, hy313⟩ : ∃ y_ : List Int, y_ = (([t311] : List Int)) := ⟨_, rfl⟩
  replace H : (some (t300, t301, y313)) = some (r1, r2, r3) := by first | (rw [hy313]; with_reducible exact H) | (have H2_ := (Option.bind_some _ _).symm.trans H; rw [hy313]; with_reducible exact H2_) | (have H2_ := (Option.bind_some _ _).symm.trans H; with_reducible exact H2_) | with_reducible exact H | (rw [hy313]; exact H) | exact H
  have Ny313 := Aside0.mk hy313
  clear hy313
  simp only [Option.some.injEq, Prod.mk.injEq] at H
  obtain ⟨rfl, rfl, rfl⟩ := H
  go_enter Try.func22, Try.ntmps22
  try go_wp2_with (first | ((with_reducible refine gate_dst (N := 2) rfl ?_); refine box_event ?hg (N := 2) ?hd (cs := #[.int .i64 0, .slice none 0 0]) (t := 29) ?hr ?_; (case hd => rfl); (case hg => rfl); (case hr => first | (go_simp; done) | (go_simp; rfl)); intro gb296 hg w7 hbox hb; have n0_ := Aside0.mk (below_step (by repeat (first | (with_reducible first | exact HB.out | apply bwA | apply bwN | apply bwD) | exact HB.out)) hb); have n1_ := Aside0.mk (hbox); have n2_ := Aside0.mk ((by rw [hg]; exact (below_size (by repeat (first | (with_reducible first | exact HB.out | apply bwA | apply bwN | apply bwD) | exact HB.out))) : w.heap.size ≤ gb296)); have n3_ := Aside0.mk ((by rw [hg]; exact (below_size (by repeat (first | (with_reducible first | exact HB.out | apply bwA | apply bwN | apply bwD) | exact HB.out))) : w.heap.size ≤ gb296)); clear HB; have HB := n0_; have BK296 := n1_; have GW296 := n2_; have GE296 := n3_; clear n0_ n1_ n2_ n3_; clear hb hbox hg) | ((with_reducible refine gate_callee (f := 55) rfl ?_); refine goesL_ (some 7) rfl rfl Try.func55 (by kernel_rfl) rfl #[.slice A0 l0.length c0] rfl (by (try simp only [List.map_toArray, List.map_cons, List.map_nil]); first | done | rfl | (simp only [List.length_drop, List.length_take]; rfl)) ?_; (with_reducible refine (spec_l40Open.calls _ _ l0 t297 t298 w _ ?side1 ?side2 ?side3 A2.out).mono ?_); (case side1 => repeat (first | (with_reducible first | exact HB.out | apply bwA | apply bwN | apply bwD | refine below_set ?_ GE296.out) | exact HB.out)); (case side2 => exact HR0.out); (case side3 => exact HC0.out); rintro e w8 ⟨g299, rfl, hi, hb, hb2⟩; refine ⟨_, rfl, ?_⟩; have n0_ := Aside0.mk (blk_below (g := gb296) (o := .cells #[.int .i64 0, .slice none 0 0] 29 (0, 0)) (by (with_reducible repeat (first | refine blk_drewN ?_ _ | refine blk_drew ?_ | refine blk_alloc ?_ _)); exact BK296.out) hb2); have n1_ := Aside0.mk (hb); have n2_ := Aside0.mk (hi); have n3_ := Aside0.mk (IsS79.ne_blk hi (blk_below (g := gb296) (o := .cells #[.int .i64 0, .slice none 0 0] 29 (0, 0)) (by (with_reducible repeat (first | refine blk_drewN ?_ _ | refine blk_drew ?_ | refine blk_alloc ?_ _)); exact BK296.out) hb2) (by decide)); have n4_ := Aside0.mk (Ne.symm (IsS79.ne_blk hi (blk_below (g := gb296) (o := .cells #[.int .i64 0, .slice none 0 0] 29 (0, 0)) (by (with_reducible repeat (first | refine blk_drewN ?_ _ | refine blk_drew ?_ | refine blk_alloc ?_ _)); exact BK296.out) hb2) (by decide))); clear BK296; clear HB; have BK296 := n0_; have HB := n1_; have HI299 := n2_; have NB299_296 := n3_; have NB296_299 := n4_; clear n0_ n1_ n2_ n3_ n4_; (try clear hb); (try clear hb2); (try clear hk); (try clear hi)) | ((with_reducible refine gate_callee (f := 56) rfl ?_); refine goesL_ (some 9) rfl rfl Try.func56 (by kernel_rfl) rfl #[.pointer (some ⟨g299, 0, none⟩)] rfl (by (try simp only [List.map_toArray, List.map_cons, List.map_nil]); first | done | rfl | (simp only [List.length_drop, List.length_take]; rfl)) ?_; (with_reducible refine (spec_l11Some.calls k g299 t297 t298 t300 t301 t304 w _ ?side1 ?side2 A3.out).mono ?_); (case side1 => repeat (first | (with_reducible first | exact HI299.out | apply IsS79.alloc | apply IsS79.drewN | apply IsS79.drew | apply IsS79.set_1 | refine IsS79.far ?_ NB299_296.out _) | exact HI299.out)); (case side2 => repeat (first | (with_reducible first | exact HB.out | apply bwA | apply bwN | apply bwD | refine below_set ?_ (IsS79.ge HI299.out) | refine below_set ?_ GE296.out) | exact HB.out)); rintro e w9 ⟨v302, rfl, ho0, hi, hb, hk⟩; refine ⟨_, rfl, ?_⟩; have n0_ := Aside0.mk (KeepBut.blk hk (g' := gb296) (o := .cells #[.int .i64 0, .slice none 0 0] 29 (0, 0)) (by (with_reducible repeat (first | refine blk_drewN ?_ _ | refine blk_drew ?_ | refine blk_alloc ?_ _)); exact BK296.out) NB296_299.out (by simp)); have n1_ := Aside0.mk (Kd.S_lower ho0 (below_size (by repeat (first | (with_reducible first | exact HB.out | apply bwA | apply bwN | apply bwD | refine below_set ?_ (IsS79.ge HI299.out) | refine below_set ?_ GE296.out) | exact HB.out)))); have n2_ := Aside0.mk (hb); have n3_ := Aside0.mk (hi); clear BK296; clear HB; clear HI299; have BK296 := n0_; have HO303 := n1_; have HB := n2_; have HI299 := n3_; clear n0_ n1_ n2_ n3_; (try clear hb); (try clear hb2); (try clear hk); (try clear hi); (try clear ho0)) | ((with_reducible refine gate_dst (N := 5) rfl ?_); refine box_event ?hg (N := 5) ?hd (cs := #[.int .i64 0, .slice none 0 0]) (t := 29) ?hr ?_; (case hd => rfl); (case hg => rfl); (case hr => first | (go_simp; done) | (go_simp; rfl)); intro gb305 hg w10 hbox hb; have n0_ := Aside0.mk (Kd.S_below (by (with_reducible repeat (first | apply Kd.S_alloc | apply Kd.S_drewN | apply Kd.S_drew)); exact HO303.out) hb); have n1_ := Aside0.mk (blk_below (g := gb296) (o := .cells #[.int .i64 0, .slice none 0 0] 29 (0, 0)) (by (with_reducible repeat (first | refine blk_drewN ?_ _ | refine blk_drew ?_ | refine blk_alloc ?_ _)); exact BK296.out) hb); have n2_ := Aside0.mk (IsS79.below (by repeat (first | (with_reducible first | exact HI299.out | apply IsS79.alloc | apply IsS79.drewN | apply IsS79.drew | apply IsS79.set_1 | refine IsS79.far ?_ NB299_296.out _) | exact HI299.out)) hb); have n3_ := Aside0.mk (below_step (by repeat (first | (with_reducible first | exact HB.out | apply bwA | apply bwN | apply bwD | refine below_set ?_ (IsS79.ge HI299.out) | refine below_set ?_ GE296.out) | exact HB.out)) hb); have n4_ := Aside0.mk (hbox); have n5_ := Aside0.mk ((by rw [hg]; exact (below_size (by repeat (first | (with_reducible first | exact HB.out | apply bwA | apply bwN | apply bwD | refine below_set ?_ (IsS79.ge HI299.out) | refine below_set ?_ GE296.out) | exact HB.out))) : w.heap.size ≤ gb305)); have n6_ := Aside0.mk ((by rw [hg]; exact (below_size (by repeat (first | (with_reducible first | exact HB.out | apply bwA | apply bwN | apply bwD | refine below_set ?_ (IsS79.ge HI299.out) | refine below_set ?_ GE296.out) | exact HB.out))) : w.heap.size ≤ gb305)); have n7_ := Aside0.mk ((by rw [hg]; exact Nat.ne_of_lt (blk_lt (g := gb296) (o := .cells #[.int .i64 0, .slice none 0 0] 29 (0, 0)) (by (with_reducible repeat (first | refine blk_drewN ?_ _ | refine blk_drew ?_ | refine blk_alloc ?_ _)); exact BK296.out)) : gb296 ≠ gb305)); have n8_ := Aside0.mk ((by rw [hg]; exact Nat.ne_of_gt (blk_lt (g := gb296) (o := .cells #[.int .i64 0, .slice none 0 0] 29 (0, 0)) (by (with_reducible repeat (first | refine blk_drewN ?_ _ | refine blk_drew ?_ | refine blk_alloc ?_ _)); exact BK296.out)) : gb305 ≠ gb296)); have n9_ := Aside0.mk ((by rw [hg]; exact Nat.ne_of_lt (IsS79.lt (show IsS79 w _ g299 t297 t304 from by repeat (first | (with_reducible first | exact HI299.out | apply IsS79.alloc | apply IsS79.drewN | apply IsS79.drew | apply IsS79.set_1 | refine IsS79.far ?_ NB299_296.out _) | exact HI299.out))) : g299 ≠ gb305)); have n10_ := Aside0.mk ((by rw [hg]; exact Nat.ne_of_gt (IsS79.lt (show IsS79 w _ g299 t297 t304 from by repeat (first | (with_reducible first | exact HI299.out | apply IsS79.alloc | apply IsS79.drewN | apply IsS79.drew | apply IsS79.set_1 | refine IsS79.far ?_ NB299_296.out _) | exact HI299.out))) : gb305 ≠ g299)); clear HO303; clear BK296; clear HI299; clear HB; have HO303 := n0_; have BK296 := n1_; have HI299 := n2_; have HB := n3_; have BK305 := n4_; have GW305 := n5_; have GE305 := n6_; have NB296_305 := n7_; have NB305_296 := n8_; have NB299_305 := n9_; have NB305_299 := n10_; clear n0_ n1_ n2_ n3_ n4_ n5_ n6_ n7_ n8_ n9_ n10_; clear hb hbox hg; have hnb11 := NB305_296.out; have hnc11 := NB296_305.out; have hnb12 := NB305_299.out; have hnc12 := NB299_305.out; have hcz13_0 : w10.cell? ⟨gb305, 0, none⟩ = some (.int .i64 0) := (blk_cell BK305.out 0).trans rfl; have hcz13_1 : w10.cell? ⟨gb305, 1, none⟩ = some (.slice none 0 0) := (blk_cell BK305.out 1).trans rfl; have hfz13_0 := blk_frozen BK305.out 0; have hfz13_1 := blk_frozen BK305.out 1; obtain ⟨Ao14, co14, eo14⟩ := Kd.S_slice HO303.out; subst eo14) | ((with_reducible refine gate_callee (f := 57) rfl ?_); refine goesL_ (some 11) rfl rfl Try.func57 (by kernel_rfl) rfl #[.pointer (some ⟨g299, 0, none⟩), .int .i64 16] rfl (by (try simp only [List.map_toArray, List.map_cons, List.map_nil]); first | done | rfl | (simp only [List.length_drop, List.length_take]; rfl)) ?_; (with_reducible refine (spec_l40Rd_pick.calls k g299 t297 t304 16 t306 t307 w _ ?side1 ?side2 A4.out).mono ?_); (case side1 => repeat (first | (with_reducible first | exact HI299.out | apply IsS79.alloc | apply IsS79.drewN | apply IsS79.drew | apply IsS79.set_1 | refine IsS79.far ?_ NB299_296.out _ | refine IsS79.far ?_ NB299_305.out _) | exact HI299.out)); (case side2 => repeat (first | (with_reducible first | exact HB.out | apply bwA | apply bwN | apply bwD | refine below_set ?_ (IsS79.ge HI299.out) | refine below_set ?_ GE296.out | refine below_set ?_ GE305.out) | exact HB.out)); rintro e w15 ⟨rfl, hi, hb, hk⟩; refine ⟨_, rfl, ?_⟩; have n0_ := Aside0.mk (KeepBut.blk hk (g' := gb296) (o := .cells #[.int .i64 0, .slice none 0 0] 29 (0, 0)) (by (with_reducible repeat (first | refine blk_drewN ?_ _ | refine blk_drew ?_ | refine blk_alloc ?_ _)); refine blk_far ?_ NB296_305.out _; (with_reducible repeat (first | refine blk_drewN ?_ _ | refine blk_drew ?_ | refine blk_alloc ?_ _)); refine blk_far ?_ NB296_305.out _; (with_reducible repeat (first | refine blk_drewN ?_ _ | refine blk_drew ?_ | refine blk_alloc ?_ _)); exact BK296.out) NB296_299.out (by simp)); have n1_ := Aside0.mk (Kd.S_mono (Kd.S_keep (IsS79.apartS (show IsS79 w _ g299 t297 t304 from by repeat (first | (with_reducible first | exact HI299.out | apply IsS79.alloc | apply IsS79.drewN | apply IsS79.drew | apply IsS79.set_1 | refine IsS79.far ?_ NB299_296.out _ | refine IsS79.far ?_ NB299_305.out _) | exact HI299.out)) (by (with_reducible repeat (first | apply Kd.S_alloc | apply Kd.S_drewN | apply Kd.S_drew)); exact (Kd.S_mono (Kd.S_far (p := ⟨gb305, 1, none⟩) (Kd.S_far (p := ⟨gb305, 0, none⟩) (Kd.S_types HO303.out BK305.out (by decide)) (fun _ hk => hk.2) (.int .i64 t300)) (fun _ hk => hk.2) (.slice Ao14 t301.length co14)) (fun _ h_ => h_.1))) (by decide)) hk (fun _ h => h.2)) (fun _ h => h.1)); have n2_ := Aside0.mk (KeepBut.blk hk (g' := gb305) (o := .cells #[.int .i64 t300, .slice Ao14 t301.length co14] 29 (0, 0)) (by (with_reducible repeat (first | refine blk_drewN ?_ _ | refine blk_drew ?_ | refine blk_alloc ?_ _)); refine blk_put (cs := #[.int .i64 t300, .slice none 0 0]) ?_ 1 _ rfl; (with_reducible repeat (first | refine blk_drewN ?_ _ | refine blk_drew ?_ | refine blk_alloc ?_ _)); refine blk_put (cs := #[.int .i64 0, .slice none 0 0]) ?_ 0 _ rfl; (with_reducible repeat (first | refine blk_drewN ?_ _ | refine blk_drew ?_ | refine blk_alloc ?_ _)); exact BK305.out) NB305_299.out (by simp)); have n3_ := Aside0.mk (hb); have n4_ := Aside0.mk (hi); clear BK296; clear HO303; clear BK305; clear HB; clear HI299; have BK296 := n0_; have HO303 := n1_; have BK305 := n2_; have HB := n3_; have HI299 := n4_; clear n0_ n1_ n2_ n3_ n4_; (try clear hb); (try clear hb2); (try clear hk); (try clear hi)))
  have n0_ := Aside0.mk (Kd.S_drew HO303.out)
  have n1_ := Aside0.mk (blk_drew BK296.out)
  have n2_ := Aside0.mk (blk_drew BK305.out)
  have n3_ := Aside0.mk (IsS79.drew HI299.out)
  have n4_ := Aside0.mk (below_drew1 HB.out)
  clear HO303
  clear BK296
  clear BK305
  clear HI299
  clear HB
  have HO303 := n0_
  have BK296 := n1_
  have BK305 := n2_
  have HI299 := n3_
  have HB := n4_
  clear n0_ n1_ n2_ n3_ n4_
  refine start_ (n := 7) (S := fun w' => True) (ds := []) #[false, false, false, false, false, false, false] (by kernel_rfl) rfl rfl trivial (fun hHeld => ?_); refine with_tabW spec_DrawForced.tab4 spec_DrawForced.bits4 (fun HT_ HW_ => ?_)
  generalize w15.drew = w16 at HO303 BK296 BK305 HI299 HB hHeld ⊢
  refine pure_ (i := 1) (N := some 14) (v := ?_) (a' := ?_) #[false, true, false, false, false, false, false] rfl rfl (any_of HT_.out (by kernel_rfl)) (fun _ _ _ h => h) (Or.inl ⟨by rfl, ?_⟩) ?_ ?_
  rotate_left
  ·intro w'
   go_simp
   with_reducible rfl
  rotate_left
  ·simp only [Act.put, List.setIfInBounds_toArray, List.set_cons_zero, List.set_cons_succ, i64_w, i32_w]
   rfl
  refine inv_at [0, 2, 3, 4, 5, 6] (fun a0_ b a w' => ∃ (v309 : Value) (v314 : Value) (m6_ : Value), a = putSel a0_ b [(0, 13, .agg #[.int .i64 t300, .slice Ao14 t301.length co14]), (2, 15, v309), (3, 16, .int .i64 t311), (4, 17, v314), (6, 3, m6_)] ∧ (Kd.S (Kd.slice 3 (Kd.int .i64)) 25 w' w.heap.size (fun k_ => b 4 = true → some k_ ≠ (v314 : Value).ownBlock) (.slice Ao14 t301.length co14) t301) ∧ (b 5 = false → w'.heap[gb296]? = some (.cells #[.int .i64 0, .slice none 0 0] 29 (0, 0))) ∧ (w'.heap[gb305]? = some (.cells #[.int .i64 t300, .slice Ao14 t301.length co14] 29 (0, 0))) ∧ (b 3 = false → IsS79 w w' g299 t297 t307) ∧ (Below w.heap.size w w') ∧ (b 2 = true → Kd.R (Kd.int .i64) 3 w' w.heap.size (fun _ => True) v309 y308) ∧ (b 3 = true → IsS79 w w' g299 t297 t312) ∧ (b 4 = true → Kd.R (Kd.int .i64) 3 w' w.heap.size (fun _ => True) v314 y313) ∧ (b 5 = true → w'.heap[gb296]? = some (.cells #[.int .i64 t300, .slice Ao14 t301.length co14] 29 (0, 0))) ∧ (b 6 = true → (m6_ : Value) = v314)) HT_.out HW_.out (by kernel_rfl) (by kernel_rfl) ?_ ?_ ?_
  ·exact ⟨.bool false, .bool false, .bool false, by simp only [putSel, Bool.false_eq_true, if_false], Kd.S_mono HO303.out (fun _ _ h_ => absurd h_ (by decide)), fun _ => BK296.out, BK305.out, fun _ => HI299.out, HB.out, fun h_ => absurd h_ (by decide), fun h_ => absurd h_ (by decide), fun h_ => absurd h_ (by decide), fun h_ => absurd h_ (by decide), fun h_ => absurd h_ (by decide)⟩
  ·skip
   clear BK296 BK305 HB HI299 HO303
   refine steps_cons ?_ ?_
   ·rintro b a w' ⟨v309, v314, m6_, ha, Q_HO303, Q_BK296, Q_BK305, Q_HI299, Q_HB, Q_HO310, Q_HI299_e3, Q_HO315, Q_BK296_e5, Q_X6_⟩ hb_ hon hoff
    refine ⟨_, rfl, fun K hK => ?_⟩
    have e5 : a.tmps[5]? = some (.pointer (some ⟨gb305, 0, none⟩)) := by rw [ha]; exact (putSel_off rfl).trans rfl
    replace ha := Aside0.mk ha
    have HO303 := Aside0.mk Q_HO303
    have BK296 := Aside0.mk (Q_BK296 (hoff 5 (by kernel_rfl)))
    have BK305 := Aside0.mk Q_BK305
    have HB := Aside0.mk Q_HB
    have hc0_ : w'.cell? ⟨gb305, 0, none⟩ = some (.int .i64 t300) := (blk_cell BK305.out 0).trans rfl
    have hc1_ : w'.cell? ⟨gb305, 1, none⟩ = some (.slice Ao14 t301.length co14) := (blk_cell BK305.out 1).trans rfl
    refine value_ (w1 := w') (v := .agg #[.int .i64 t300, .slice Ao14 t301.length co14]) (by rfl) rfl ?_ ?_
    ·go_simp
     (try simp only [i64_w])
     try rfl
    refine hK.out _ _ ⟨v309, v314, m6_, (by rw [ha.out]; exact putSel_upk 0 hb_ rfl rfl rfl), Q_HO303, Q_BK296, Q_BK305, Q_HI299, Q_HB, Q_HO310, Q_HI299_e3, Q_HO315, fun h0_ => absurd ((hoff 5 (by kernel_rfl)).symm.trans h0_) (by decide), fun h0_ => absurd ((hoff 6 (by kernel_rfl)).symm.trans h0_) (by decide)⟩
   refine steps_cons ?_ ?_
   ·rintro b a w' ⟨v309, v314, m6_, ha, Q_HO303, Q_BK296, Q_BK305, Q_HI299, Q_HB, Q_HO310, Q_HI299_e3, Q_HO315, Q_BK296_e5, Q_X6_⟩ hb_ hon hoff
    refine ⟨_, rfl, fun K hK => ?_⟩
    replace ha := Aside0.mk ha
    have HO303 := Aside0.mk Q_HO303
    have BK296 := Aside0.mk (Q_BK296 (hoff 5 (by kernel_rfl)))
    have BK305 := Aside0.mk Q_BK305
    have HI299 := Aside0.mk (Q_HI299 (hoff 3 (by kernel_rfl)))
    have HB := Aside0.mk Q_HB
    refine Kd.R_lit_step (Kd.int .i64) _ 3 ?hg (N := 15) ?hd (xs := ([0, 9, (-9)] : List Int)) (inner := [.int .i64 0, .int .i64 9, .int .i64 (-9)]) (ok := fun _ => True) (okp := fun _ => True) ?hr ?hp (fun _ hk => hk) trivial (Below.refl _ _) (Nat.le_refl _) (by simp) ?_; (case hd => rfl); (case hg => rfl); (case hr => first | (go_simp; done) | (go_simp; rfl)); (case hp => exact (Reps.one (show Kd.M (Kd.int .i64) _ _ _ 0 [.int .i64 0] from rfl) (Reps.one (show Kd.M (Kd.int .i64) _ _ _ 9 [.int .i64 9] from rfl) (Reps.one (show Kd.M (Kd.int .i64) _ _ _ (-9) [.int .i64 (-9)] from rfl) (Reps.none _ _)))))
    intro v309 w17 ho18 hb hg_ hnew_
    clear hg_ hnew_
    (first | rw [← Ny308.out] at ho18 | (simp only [Int.reduceToNat] at ho18; rw [← Ny308.out] at ho18))
    have n0_ := Aside0.mk (Kd.S_elder' (by (with_reducible repeat (first | apply Kd.S_alloc | apply Kd.S_drewN | apply Kd.S_drew)); exact HO303.out) (Kd.R_base ho18) hb)
    have n1_ := Aside0.mk (Kd.R_lower ho18 (below_size (by repeat (first | (with_reducible first | exact HB.out | apply bwA | apply bwN | apply bwD | refine below_set ?_ (IsS79.ge HI299.out) | refine below_set ?_ GE296.out | refine below_set ?_ GE305.out) | exact HB.out))))
    have n2_ := Aside0.mk (blk_below (g := gb296) (o := .cells #[.int .i64 0, .slice none 0 0] 29 (0, 0)) (by (with_reducible repeat (first | refine blk_drewN ?_ _ | refine blk_drew ?_ | refine blk_alloc ?_ _)); exact BK296.out) hb)
    have n3_ := Aside0.mk (IsS79.below (by repeat (first | (with_reducible first | exact HI299.out | apply IsS79.alloc | apply IsS79.drewN | apply IsS79.drew | apply IsS79.set_1 | refine IsS79.far ?_ NB299_296.out _ | refine IsS79.far ?_ NB299_305.out _) | exact HI299.out)) hb)
    have n4_ := Aside0.mk (blk_below (g := gb305) (o := .cells #[.int .i64 t300, .slice Ao14 t301.length co14] 29 (0, 0)) (by (with_reducible repeat (first | refine blk_drewN ?_ _ | refine blk_drew ?_ | refine blk_alloc ?_ _)); exact BK305.out) hb)
    have n5_ := Aside0.mk (below_step (by repeat (first | (with_reducible first | exact HB.out | apply bwA | apply bwN | apply bwD | refine below_set ?_ (IsS79.ge HI299.out) | refine below_set ?_ GE296.out | refine below_set ?_ GE305.out) | exact HB.out)) hb)
    clear HO303
    clear BK296
    clear HI299
    clear BK305
    clear HB
    have HO303 := n0_
    have HO310 := n1_
    have BK296 := n2_
    have HI299 := n3_
    have BK305 := n4_
    have HB := n5_
    clear n0_ n1_ n2_ n3_ n4_ n5_
    clear hb ho18
    refine hK.out _ _ ⟨v309, v314, m6_, (by rw [ha.out]; exact putSel_upk 1 hb_ rfl rfl rfl), (by (with_reducible repeat (first | apply Kd.S_alloc | apply Kd.S_drewN | apply Kd.S_drew)); exact Kd.S_mono HO303.out (fun _ hk => by first | exact hk.1 | exact (fun _ => hk.2) | exact hk)), fun _ => (by (with_reducible repeat (first | refine blk_drewN ?_ _ | refine blk_drew ?_ | refine blk_alloc ?_ _)); exact BK296.out), (by (with_reducible repeat (first | refine blk_drewN ?_ _ | refine blk_drew ?_ | refine blk_alloc ?_ _)); exact BK305.out), fun _ => (by repeat (first | (with_reducible first | exact HI299.out | apply IsS79.alloc | apply IsS79.drewN | apply IsS79.drew | apply IsS79.set_1 | refine IsS79.far ?_ NB299_296.out _ | refine IsS79.far ?_ NB299_305.out _) | exact HI299.out)), (by repeat (first | (with_reducible first | exact HB.out | apply bwA | apply bwN | apply bwD | refine below_set ?_ (IsS79.ge HI299.out) | refine below_set ?_ GE296.out | refine below_set ?_ GE305.out) | exact HB.out)), fun _ => (by (with_reducible repeat (first | apply Kd.R_alloc | apply Kd.R_drewN | apply Kd.R_drew)); first | exact HO310.out | exact Kd.R_mono HO310.out (fun _ _ => trivial)), fun h0_ => absurd ((hoff 3 (by kernel_rfl)).symm.trans h0_) (by decide), fun h0_ => absurd ((hoff 4 (by kernel_rfl)).symm.trans h0_) (by decide), fun h0_ => absurd ((hoff 5 (by kernel_rfl)).symm.trans h0_) (by decide), fun h0_ => absurd ((hoff 6 (by kernel_rfl)).symm.trans h0_) (by decide)⟩
   refine steps_cons ?_ ?_
   ·rintro b a w' ⟨v309, v314, m6_, ha, Q_HO303, Q_BK296, Q_BK305, Q_HI299, Q_HB, Q_HO310, Q_HI299_e3, Q_HO315, Q_BK296_e5, Q_X6_⟩ hb_ hon hoff
    refine ⟨_, rfl, fun K hK => ?_⟩
    have e14 : a.tmps[14]? = some (.pointer (some ⟨g299, 0, none⟩)) := by rw [ha]; exact (putSel_off rfl).trans rfl
    have e15 : a.tmps[15]? = some (v309) := by rw [ha]; exact putSel_on (e := (2, 15, v309)) 1 rfl rfl (hon 2 (by kernel_rfl)) rfl
    replace ha := Aside0.mk ha
    have HO303 := Aside0.mk Q_HO303
    have BK296 := Aside0.mk (Q_BK296 (hoff 5 (by kernel_rfl)))
    have BK305 := Aside0.mk Q_BK305
    have HI299 := Aside0.mk (Q_HI299 hb_)
    have HB := Aside0.mk Q_HB
    have HO310 := Aside0.mk (Q_HO310 (hon 2 (by kernel_rfl)))
    obtain ⟨Ao20, co20, eo20⟩ := Kd.R_slice HO310.out
    (first | subst eo20 | (injection eo20 with f1_ f2_ f3_; have f4_ := f1_.symm; have f5_ := f3_.symm; clear f1_ f2_ f3_; subst f4_; subst f5_))
    refine goes_ Try.func58 (by kernel_rfl) rfl #[.pointer (some ⟨g299, 0, none⟩), .slice Ao20 y308.length co20] (by rfl) rfl rfl (by first | (simp only [List.map_toArray, List.map_cons, List.map_nil, Act.eval, Array.getD_eq_getD_getElem?, Option.getD_some, e14, e15]; done) | (simp only [List.map_toArray, List.map_cons, List.map_nil, Act.eval, Array.getD_eq_getD_getElem?, Option.getD_some, e14, e15]; rfl)) ?_
    with_reducible refine (spec_l40Rd_num.calls k g299 t297 t307 _ _ y308 t311 t312 w _ ?side1 ?side2 ?side3 ?side4 ?side5 A6.out).mono ?_
    (case side1 => repeat (first | (with_reducible first | exact HI299.out | apply IsS79.alloc | apply IsS79.drewN | apply IsS79.drew | apply IsS79.set_1 | refine IsS79.far ?_ NB299_296.out _ | refine IsS79.far ?_ NB299_305.out _) | exact HI299.out))
    (case side2 => repeat (first | (with_reducible first | exact HB.out | apply bwA | apply bwN | apply bwD | refine below_set ?_ (IsS79.ge HI299.out) | refine below_set ?_ GE296.out | refine below_set ?_ GE305.out) | exact HB.out))
    (case side3 => repeat (first | exact (Kd.R_reads' HO310.out).2.2 | (with_reducible refine Kd.C_alloc ?_ _) | (with_reducible refine Kd.C_drewN ?_ _) | (with_reducible refine Kd.C_drew ?_)))
    (case side4 => exact (Kd.R_reads' HO310.out).2.1)
    (case side5 => exact far_slice (IsS79.own_ne HI299.out HO310.out (by decide)))
    rintro e w21 ⟨rfl, hi, hb, hk⟩
    refine ⟨_, rfl, ?_⟩
    have n0_ := Aside0.mk (KeepBut.blk hk (g' := gb296) (o := .cells #[.int .i64 0, .slice none 0 0] 29 (0, 0)) (by (with_reducible repeat (first | refine blk_drewN ?_ _ | refine blk_drew ?_ | refine blk_alloc ?_ _)); exact BK296.out) NB296_299.out (by simp))
    have n1_ := Aside0.mk (Kd.S_mono (Kd.S_keep (IsS79.apartS (show IsS79 w _ g299 t297 t307 from by repeat (first | (with_reducible first | exact HI299.out | apply IsS79.alloc | apply IsS79.drewN | apply IsS79.drew | apply IsS79.set_1 | refine IsS79.far ?_ NB299_296.out _ | refine IsS79.far ?_ NB299_305.out _) | exact HI299.out)) (by (with_reducible repeat (first | apply Kd.S_alloc | apply Kd.S_drewN | apply Kd.S_drew)); exact HO303.out) (by decide)) hk (fun _ h => h.2)) (fun _ h => h.1))
    have n2_ := Aside0.mk (KeepBut.blk hk (g' := gb305) (o := .cells #[.int .i64 t300, .slice Ao14 t301.length co14] 29 (0, 0)) (by (with_reducible repeat (first | refine blk_drewN ?_ _ | refine blk_drew ?_ | refine blk_alloc ?_ _)); exact BK305.out) NB305_299.out (by simp))
    have n3_ := Aside0.mk (Kd.R_mono (Kd.R_keep (IsS79.apart (show IsS79 w _ g299 t297 t307 from by repeat (first | (with_reducible first | exact HI299.out | apply IsS79.alloc | apply IsS79.drewN | apply IsS79.drew | apply IsS79.set_1 | refine IsS79.far ?_ NB299_296.out _ | refine IsS79.far ?_ NB299_305.out _) | exact HI299.out)) (by (with_reducible repeat (first | apply Kd.R_alloc | apply Kd.R_drewN | apply Kd.R_drew)); exact HO310.out) (by decide)) hk (fun _ h => h.2)) (fun _ h => h.1))
    have n4_ := Aside0.mk (hb)
    have n5_ := Aside0.mk (hi)
    clear BK296
    clear HO303
    clear BK305
    clear HO310
    clear HB
    clear HI299
    have BK296 := n0_
    have HO303 := n1_
    have BK305 := n2_
    have HO310 := n3_
    have HB := n4_
    have HI299 := n5_
    clear n0_ n1_ n2_ n3_ n4_ n5_
    (try clear hb)
    (try clear hb2)
    (try clear hk)
    (try clear hi)
    refine hK.out _ _ ⟨.slice Ao20 y308.length co20, v314, m6_, (by rw [ha.out]; exact putSel_upk 2 hb_ rfl rfl rfl), (by (with_reducible repeat (first | apply Kd.S_alloc | apply Kd.S_drewN | apply Kd.S_drew)); first | exact HO303.out | exact Kd.S_mono HO303.out (fun _ hk => by first | exact hk.1 | exact (fun _ => hk.2) | exact hk)), fun _ => (by (with_reducible repeat (first | refine blk_drewN ?_ _ | refine blk_drew ?_ | refine blk_alloc ?_ _)); exact BK296.out), (by (with_reducible repeat (first | refine blk_drewN ?_ _ | refine blk_drew ?_ | refine blk_alloc ?_ _)); exact BK305.out), fun h0_ => absurd ((up_self b 3).symm.trans h0_) (by decide), (by repeat (first | (with_reducible first | exact HB.out | apply bwA | apply bwN | apply bwD | refine below_set ?_ (IsS79.ge HI299.out) | refine below_set ?_ GE296.out | refine below_set ?_ GE305.out) | exact HB.out)), fun _ => (by (with_reducible repeat (first | apply Kd.R_alloc | apply Kd.R_drewN | apply Kd.R_drew)); first | exact HO310.out | exact Kd.R_mono HO310.out (fun _ _ => trivial)), fun _ => (by repeat (first | (with_reducible first | exact HI299.out | apply IsS79.alloc | apply IsS79.drewN | apply IsS79.drew | apply IsS79.set_1 | refine IsS79.far ?_ NB299_296.out _ | refine IsS79.far ?_ NB299_305.out _) | exact HI299.out)), fun h0_ => absurd ((hoff 4 (by kernel_rfl)).symm.trans h0_) (by decide), fun h0_ => absurd ((hoff 5 (by kernel_rfl)).symm.trans h0_) (by decide), fun h0_ => absurd ((hoff 6 (by kernel_rfl)).symm.trans h0_) (by decide)⟩
   refine steps_cons ?_ ?_
   ·rintro b a w' ⟨v309, v314, m6_, ha, Q_HO303, Q_BK296, Q_BK305, Q_HI299, Q_HB, Q_HO310, Q_HI299_e3, Q_HO315, Q_BK296_e5, Q_X6_⟩ hb_ hon hoff
    refine ⟨_, rfl, fun K hK => ?_⟩
    have e16 : a.tmps[16]? = some (.int .i64 t311) := by rw [ha]; exact putSel_on (e := (3, 16, .int .i64 t311)) 2 rfl rfl (hon 3 (by kernel_rfl)) rfl
    replace ha := Aside0.mk ha
    have HO303 := Aside0.mk Q_HO303
    have BK305 := Aside0.mk Q_BK305
    have HB := Aside0.mk Q_HB
    have HO310 := Aside0.mk (Q_HO310 (hon 2 (by kernel_rfl)))
    have HI299 := Aside0.mk (Q_HI299_e3 (hon 3 (by kernel_rfl)))
    refine Kd.R_lit_step (Kd.int .i64) _ 3 ?hg (N := 17) ?hd (xs := ([t311] : List Int)) (inner := [.int .i64 t311]) (ok := fun _ => True) (okp := fun _ => True) ?hr ?hp (fun _ hk => hk) trivial (Below.refl _ _) (Nat.le_refl _) (by simp) ?_; (case hd => rfl); (case hg => rfl); (case hr => first | (go_simp; done) | (go_simp; rfl)); (case hp => exact (Reps.one (show Kd.M (Kd.int .i64) _ _ _ t311 [.int .i64 t311] from rfl) (Reps.none _ _)))
    intro v314 w22 ho23 hb hg_ hnew_
    clear hg_ hnew_
    (first | rw [← Ny313.out] at ho23 | (simp only [Int.reduceToNat] at ho23; rw [← Ny313.out] at ho23))
    have n0_ := Aside0.mk (Kd.S_elder' (by (with_reducible repeat (first | apply Kd.S_alloc | apply Kd.S_drewN | apply Kd.S_drew)); exact HO303.out) (Kd.R_base ho23) hb)
    have n1_ := Aside0.mk (Kd.R_elder' (by (with_reducible repeat (first | apply Kd.R_alloc | apply Kd.R_drewN | apply Kd.R_drew)); exact HO310.out) (Kd.R_base ho23) hb)
    have n2_ := Aside0.mk (Kd.R_lower (Kd.R_new' ho23 (Kd.R_lt (by (with_reducible repeat (first | apply Kd.R_alloc | apply Kd.R_drewN | apply Kd.R_drew)); exact HO310.out))) (below_size (by repeat (first | (with_reducible first | exact HB.out | apply bwA | apply bwN | apply bwD | refine below_set ?_ (IsS79.ge HI299.out) | refine below_set ?_ GE296.out | refine below_set ?_ GE305.out) | exact HB.out))))
    have n4_ := Aside0.mk (IsS79.below (by repeat (first | (with_reducible first | exact HI299.out | apply IsS79.alloc | apply IsS79.drewN | apply IsS79.drew | apply IsS79.set_1 | refine IsS79.far ?_ NB299_296.out _ | refine IsS79.far ?_ NB299_305.out _) | exact HI299.out)) hb)
    have n5_ := Aside0.mk (blk_below (g := gb305) (o := .cells #[.int .i64 t300, .slice Ao14 t301.length co14] 29 (0, 0)) (by (with_reducible repeat (first | refine blk_drewN ?_ _ | refine blk_drew ?_ | refine blk_alloc ?_ _)); exact BK305.out) hb)
    have n6_ := Aside0.mk (below_step (by repeat (first | (with_reducible first | exact HB.out | apply bwA | apply bwN | apply bwD | refine below_set ?_ (IsS79.ge HI299.out) | refine below_set ?_ GE296.out | refine below_set ?_ GE305.out) | exact HB.out)) hb)
    have z_BK296 := fun (h0_ : b 5 = false) => (show w22.heap[gb296]? = some (.cells #[.int .i64 0, .slice none 0 0] 29 (0, 0)) from by first | exact (blk_below (g := gb296) (o := .cells #[.int .i64 0, .slice none 0 0] 29 (0, 0)) (by (with_reducible repeat (first | refine blk_drewN ?_ _ | refine blk_drew ?_ | refine blk_alloc ?_ _)); exact (Q_BK296 h0_)) hb))
    have z_BK296_e5 := fun (h0_ : b 5 = true) => (show w22.heap[gb296]? = some (.cells #[.int .i64 t300, .slice Ao14 t301.length co14] 29 (0, 0)) from by first | exact (blk_below (g := gb296) (o := .cells #[.int .i64 t300, .slice Ao14 t301.length co14] 29 (0, 0)) (by (with_reducible repeat (first | refine blk_drewN ?_ _ | refine blk_drew ?_ | refine blk_alloc ?_ _)); exact (Q_BK296_e5 h0_)) hb))
    clear HO303
    clear HO310
    clear HI299
    clear BK305
    clear HB
    have HO303 := n0_
    have HO310 := n1_
    have HO315 := n2_
    have HI299 := n4_
    have BK305 := n5_
    have HB := n6_
    clear n0_ n1_ n2_ n4_ n5_ n6_
    clear hb ho23
    refine hK.out _ _ ⟨v309, v314, m6_, (by rw [ha.out]; exact putSel_upk 3 hb_ rfl rfl rfl), (by (with_reducible repeat (first | apply Kd.S_alloc | apply Kd.S_drewN | apply Kd.S_drew)); first | exact HO303.out | exact Kd.S_mono HO303.out (fun _ hk => by first | exact hk.1 | exact (fun _ => hk.2) | exact hk)), z_BK296, (by (with_reducible repeat (first | refine blk_drewN ?_ _ | refine blk_drew ?_ | refine blk_alloc ?_ _)); exact BK305.out), fun h0_ => absurd ((hon 3 (by kernel_rfl)).symm.trans h0_) (by decide), (by repeat (first | (with_reducible first | exact HB.out | apply bwA | apply bwN | apply bwD | refine below_set ?_ (IsS79.ge HI299.out) | refine below_set ?_ GE296.out | refine below_set ?_ GE305.out) | exact HB.out)), fun _ => (by (with_reducible repeat (first | apply Kd.R_alloc | apply Kd.R_drewN | apply Kd.R_drew)); exact Kd.R_mono HO310.out (fun _ hk => by first | exact hk.2 | exact trivial | exact hk)), fun _ => (by repeat (first | (with_reducible first | exact HI299.out | apply IsS79.alloc | apply IsS79.drewN | apply IsS79.drew | apply IsS79.set_1 | refine IsS79.far ?_ NB299_296.out _ | refine IsS79.far ?_ NB299_305.out _) | exact HI299.out)), fun _ => (by (with_reducible repeat (first | apply Kd.R_alloc | apply Kd.R_drewN | apply Kd.R_drew)); exact Kd.R_mono HO315.out (fun _ hk => by first | exact hk.2 | exact trivial | exact hk)), z_BK296_e5, fun h0_ => absurd ((hoff 6 (by kernel_rfl)).symm.trans h0_) (by decide)⟩
   refine steps_cons ?_ ?_
   ·rintro b a w' ⟨v309, v314, m6_, ha, Q_HO303, Q_BK296, Q_BK305, Q_HI299, Q_HB, Q_HO310, Q_HI299_e3, Q_HO315, Q_BK296_e5, Q_X6_⟩ hb_ hon hoff
    refine ⟨_, rfl, fun K hK => ?_⟩
    have e2 : a.tmps[2]? = some (.pointer (some ⟨gb296, 0, none⟩)) := by rw [ha]; exact (putSel_off rfl).trans rfl
    have e13 : a.tmps[13]? = some (.agg #[.int .i64 t300, .slice Ao14 t301.length co14]) := by rw [ha]; exact putSel_on (e := (0, 13, .agg #[.int .i64 t300, .slice Ao14 t301.length co14])) 0 rfl rfl (hon 0 (by kernel_rfl)) rfl
    replace ha := Aside0.mk ha
    have HO303 := Aside0.mk Q_HO303
    have BK296 := Aside0.mk (Q_BK296 hb_)
    have BK305 := Aside0.mk Q_BK305
    have HB := Aside0.mk Q_HB
    have HO310 := Aside0.mk (Q_HO310 (hon 2 (by kernel_rfl)))
    have HI299 := Aside0.mk (Q_HI299_e3 (hon 3 (by kernel_rfl)))
    have hs22 : w'.cell? ⟨gb296, 0, none⟩ = some (.int .i64 0) := (blk_cell BK296.out 0).trans rfl
    have hfs22 := blk_frozen BK296.out 0
    have hns22_1 := NB305_296.out
    have hms22_1 := NB296_305.out
    have hs23 : w'.cell? ⟨gb296, 1, none⟩ = some (.slice none 0 0) := (blk_cell BK296.out 1).trans rfl
    have hfs23 := blk_frozen BK296.out 1
    have hns23_1 := NB305_296.out
    have hms23_1 := NB296_305.out
    refine skip_ (w1 := ?_) (by rfl) rfl ?_ ?_
    rotate_left
    ·go_simp
     rfl
    refine hK.out _ _ ⟨v309, v314, m6_, (by rw [ha.out]; exact putSel_none (v := undef) rfl), (by (with_reducible repeat (first | apply Kd.S_alloc | apply Kd.S_drewN | apply Kd.S_drew)); exact Kd.S_mono (Kd.S_far (p := ⟨gb296, 1, none⟩) (Kd.S_far (p := ⟨gb296, 0, none⟩) (Kd.S_types HO303.out BK296.out (by decide)) (fun _ hk => by first | exact hk.2 | exact trivial | exact hk) (.int .i64 t300)) (fun _ hk => by first | exact hk.2 | exact trivial | exact hk) (.slice Ao14 t301.length co14)) (fun _ hk => hk.1)), fun h0_ => absurd ((up_self b 5).symm.trans h0_) (by decide), (by (with_reducible repeat (first | refine blk_drewN ?_ _ | refine blk_drew ?_ | refine blk_alloc ?_ _)); refine blk_far ?_ NB305_296.out _; (with_reducible repeat (first | refine blk_drewN ?_ _ | refine blk_drew ?_ | refine blk_alloc ?_ _)); refine blk_far ?_ NB305_296.out _; (with_reducible repeat (first | refine blk_drewN ?_ _ | refine blk_drew ?_ | refine blk_alloc ?_ _)); exact BK305.out), fun h0_ => absurd ((hon 3 (by kernel_rfl)).symm.trans h0_) (by decide), (by repeat (first | (with_reducible first | exact HB.out | apply bwA | apply bwN | apply bwD | refine below_set ?_ (IsS79.ge HI299.out) | refine below_set ?_ GE296.out | refine below_set ?_ GE305.out) | exact HB.out)), fun _ => (by (with_reducible repeat (first | apply Kd.R_alloc | apply Kd.R_drewN | apply Kd.R_drew)); exact Kd.R_mono (Kd.R_far (p := ⟨gb296, 1, none⟩) (Kd.R_far (p := ⟨gb296, 0, none⟩) (Kd.R_types HO310.out BK296.out (by decide)) (fun _ hk => by first | exact hk.2 | exact trivial | exact hk) (.int .i64 t300)) (fun _ hk => by first | exact hk.2 | exact trivial | exact hk) (.slice Ao14 t301.length co14)) (fun _ hk => trivial)), fun _ => (by repeat (first | (with_reducible first | exact HI299.out | apply IsS79.alloc | apply IsS79.drewN | apply IsS79.drew | apply IsS79.set_1 | refine IsS79.far ?_ NB299_296.out _ | refine IsS79.far ?_ NB299_305.out _) | exact HI299.out)), fun h0_ => (by (with_reducible repeat (first | apply Kd.R_alloc | apply Kd.R_drewN | apply Kd.R_drew)); exact Kd.R_mono (Kd.R_far (p := ⟨gb296, 1, none⟩) (Kd.R_far (p := ⟨gb296, 0, none⟩) (Kd.R_types (Q_HO315 h0_) BK296.out (by decide)) (fun _ hk => by first | exact hk.2 | exact trivial | exact hk) (.int .i64 t300)) (fun _ hk => by first | exact hk.2 | exact trivial | exact hk) (.slice Ao14 t301.length co14)) (fun _ hk => hk.1)), fun _ => (by (with_reducible repeat (first | refine blk_drewN ?_ _ | refine blk_drew ?_ | refine blk_alloc ?_ _)); refine blk_put (cs := #[.int .i64 t300, .slice none 0 0]) ?_ 1 _ rfl; (with_reducible repeat (first | refine blk_drewN ?_ _ | refine blk_drew ?_ | refine blk_alloc ?_ _)); refine blk_put (cs := #[.int .i64 0, .slice none 0 0]) ?_ 0 _ rfl; (with_reducible repeat (first | refine blk_drewN ?_ _ | refine blk_drew ?_ | refine blk_alloc ?_ _)); exact BK296.out), fun h0_ => absurd ((hoff 6 (by kernel_rfl)).symm.trans h0_) (by decide)⟩
   refine steps_cons ?_ ?_
   ·rintro b a w' ⟨v309, v314, m6_, ha, Q_HO303, Q_BK296, Q_BK305, Q_HI299, Q_HB, Q_HO310, Q_HI299_e3, Q_HO315, Q_BK296_e5, Q_X6_⟩ hb_ hon hoff
    refine ⟨_, rfl, fun K hK => ?_⟩
    have e17 : a.tmps[17]? = some (v314) := by rw [ha]; exact putSel_on (e := (4, 17, v314)) 3 rfl rfl (hon 4 (by kernel_rfl)) rfl
    replace ha := Aside0.mk ha
    have HO303 := Aside0.mk Q_HO303
    have BK305 := Aside0.mk Q_BK305
    have HB := Aside0.mk Q_HB
    have HO310 := Aside0.mk (Q_HO310 (hon 2 (by kernel_rfl)))
    have HI299 := Aside0.mk (Q_HI299_e3 (hon 3 (by kernel_rfl)))
    have HO315 := Aside0.mk (Q_HO315 (hon 4 (by kernel_rfl)))
    have BK296 := Aside0.mk (Q_BK296_e5 (hon 5 (by kernel_rfl)))
    refine value_ (w1 := w') (v := v314) (by rfl) rfl ?_ ?_
    ·go_simp
     (try simp only [i64_w])
     try rfl
    refine hK.out _ _ ⟨v309, v314, (v314), (by rw [ha.out]; exact putSel_upk 4 hb_ rfl rfl rfl), Q_HO303, fun h0_ => absurd ((hon 5 (by kernel_rfl)).symm.trans h0_) (by decide), Q_BK305, fun h0_ => absurd ((hon 3 (by kernel_rfl)).symm.trans h0_) (by decide), Q_HB, Q_HO310, Q_HI299_e3, Q_HO315, Q_BK296_e5, fun _ => rfl⟩
   exact steps_nil
  rintro b a w25 hall ⟨v309, v314, m6_, ha, Q_HO303, Q_BK296, Q_BK305, Q_HI299, Q_HB, Q_HO310, Q_HI299_e3, Q_HO315, Q_BK296_e5, Q_X6_⟩
  clear BK296 BK305 HB HI299 HO303
  have hb0_ := hall 0 (by kernel_rfl)
  have hb2_ := hall 2 (by kernel_rfl)
  have hb3_ := hall 3 (by kernel_rfl)
  have hb4_ := hall 4 (by kernel_rfl)
  have hb5_ := hall 5 (by kernel_rfl)
  have hb6_ := hall 6 (by kernel_rfl)
  subst ha
  obtain rfl := Q_X6_ hb6_
  simp only [putSel, hb0_, hb2_, hb3_, hb4_, hb5_, hb6_, if_true, Act.put, List.setIfInBounds_toArray, List.set_cons_zero, List.set_cons_succ]
  have HO303 := Aside0.mk (Kd.S_mono Q_HO303 (fun _ hk => hk hb4_))
  clear Q_HO303
  clear Q_BK296
  have BK305 := Aside0.mk Q_BK305
  clear Q_BK305
  clear Q_HI299
  have HB := Aside0.mk Q_HB
  clear Q_HB
  have HO310 := Aside0.mk (Q_HO310 hb2_)
  clear Q_HO310
  have HI299 := Aside0.mk (Q_HI299_e3 hb3_)
  clear Q_HI299_e3
  have HO315 := Aside0.mk (Q_HO315 hb4_)
  clear Q_HO315
  have BK296 := Aside0.mk (Q_BK296_e5 hb5_)
  clear Q_BK296_e5
  clear hall hb0_ hb2_ hb3_ hb4_ hb5_ hb6_
  try go_wp2
  refine bodyPost_ret (results_ct rfl _ _ gb296 29 #[.int .i64 t300, .slice Ao14 t301.length co14] (0, 0) _ rfl (by (with_reducible repeat (first | refine blk_drewN ?_ _ | refine blk_drew ?_ | refine blk_alloc ?_ _)); exact BK296.out) Try.underlying29 rfl (by kernel_rfl)) rfl ?_
  exact ⟨_, _, by first | rfl | (simp [errW_none, errW_some] <;> rfl) | (simp [*, errW_none, errW_some] <;> rfl), by (with_reducible repeat (first | apply Kd.S_alloc | apply Kd.S_drewN | apply Kd.S_drew)); exact Kd.S_mono HO303.out (fun _ hk => by first | exact hk.2 | exact trivial | exact hk), by (with_reducible repeat (first | apply Kd.R_alloc | apply Kd.R_drewN | apply Kd.R_drew)); exact Kd.R_mono HO315.out (fun _ hk => trivial), by repeat (first | (with_reducible first | exact HB.out | apply bwA | apply bwN | apply bwD | refine below_set ?_ (IsS79.ge HI299.out) | refine below_set ?_ GE296.out | refine below_set ?_ GE305.out) | exact HB.out)⟩
 ·rw [if_neg c5] at H
  have c5b0 : (t306 == 0) = false := beq_eq_false_iff_ne.mpr c5
  have c5b1 : (t306 != 0) = true := bne_iff_ne.mpr c5
  replace H := Option.bind_eq_some_iff.mp H
  obtain ⟨⟨t316, t317⟩, A260, H⟩ := H
  replace H : ((spec_l11Lits.f k t297 t317 t300 t316).bind fun bt318 => (some (t300, t301, bt318.1))) = some (r1, r2, r3) := H
  have A26 := Aside0.mk A260
  clear A260
  replace H := Option.bind_eq_some_iff.mp H
  obtain ⟨⟨t318, t321⟩, A270, H⟩ := H
  replace H : (some (t300, t301, t318)) = some (r1, r2, r3) := H
  have A27 := Aside0.mk A270
  clear A270
  simp only [Option.some.injEq, Prod.mk.injEq] at H
  obtain ⟨rfl, rfl, rfl⟩ := H
  go_enter Try.func22, Try.ntmps22
  try go_wp2_with (first | ((with_reducible refine gate_dst (N := 2) rfl ?_); refine box_event ?hg (N := 2) ?hd (cs := #[.int .i64 0, .slice none 0 0]) (t := 29) ?hr ?_; (case hd => rfl); (case hg => rfl); (case hr => first | (go_simp; done) | (go_simp; rfl)); intro gb296 hg w28 hbox hb; have n0_ := Aside0.mk (below_step (by repeat (first | (with_reducible first | exact HB.out | apply bwA | apply bwN | apply bwD) | exact HB.out)) hb); have n1_ := Aside0.mk (hbox); have n2_ := Aside0.mk ((by rw [hg]; exact (below_size (by repeat (first | (with_reducible first | exact HB.out | apply bwA | apply bwN | apply bwD) | exact HB.out))) : w.heap.size ≤ gb296)); have n3_ := Aside0.mk ((by rw [hg]; exact (below_size (by repeat (first | (with_reducible first | exact HB.out | apply bwA | apply bwN | apply bwD) | exact HB.out))) : w.heap.size ≤ gb296)); clear HB; have HB := n0_; have BK296 := n1_; have GW296 := n2_; have GE296 := n3_; clear n0_ n1_ n2_ n3_; clear hb hbox hg) | ((with_reducible refine gate_callee (f := 55) rfl ?_); refine goesL_ (some 7) rfl rfl Try.func55 (by kernel_rfl) rfl #[.slice A0 l0.length c0] rfl (by (try simp only [List.map_toArray, List.map_cons, List.map_nil]); first | done | rfl | (simp only [List.length_drop, List.length_take]; rfl)) ?_; (with_reducible refine (spec_l40Open.calls _ _ l0 t297 t298 w _ ?side1 ?side2 ?side3 A2.out).mono ?_); (case side1 => repeat (first | (with_reducible first | exact HB.out | apply bwA | apply bwN | apply bwD | refine below_set ?_ GE296.out) | exact HB.out)); (case side2 => exact HR0.out); (case side3 => exact HC0.out); rintro e w29 ⟨g299, rfl, hi, hb, hb2⟩; refine ⟨_, rfl, ?_⟩; have n0_ := Aside0.mk (blk_below (g := gb296) (o := .cells #[.int .i64 0, .slice none 0 0] 29 (0, 0)) (by (with_reducible repeat (first | refine blk_drewN ?_ _ | refine blk_drew ?_ | refine blk_alloc ?_ _)); exact BK296.out) hb2); have n1_ := Aside0.mk (hb); have n2_ := Aside0.mk (hi); have n3_ := Aside0.mk (IsS79.ne_blk hi (blk_below (g := gb296) (o := .cells #[.int .i64 0, .slice none 0 0] 29 (0, 0)) (by (with_reducible repeat (first | refine blk_drewN ?_ _ | refine blk_drew ?_ | refine blk_alloc ?_ _)); exact BK296.out) hb2) (by decide)); have n4_ := Aside0.mk (Ne.symm (IsS79.ne_blk hi (blk_below (g := gb296) (o := .cells #[.int .i64 0, .slice none 0 0] 29 (0, 0)) (by (with_reducible repeat (first | refine blk_drewN ?_ _ | refine blk_drew ?_ | refine blk_alloc ?_ _)); exact BK296.out) hb2) (by decide))); clear BK296; clear HB; have BK296 := n0_; have HB := n1_; have HI299 := n2_; have NB299_296 := n3_; have NB296_299 := n4_; clear n0_ n1_ n2_ n3_ n4_; (try clear hb); (try clear hb2); (try clear hk); (try clear hi)) | ((with_reducible refine gate_callee (f := 56) rfl ?_); refine goesL_ (some 9) rfl rfl Try.func56 (by kernel_rfl) rfl #[.pointer (some ⟨g299, 0, none⟩)] rfl (by (try simp only [List.map_toArray, List.map_cons, List.map_nil]); first | done | rfl | (simp only [List.length_drop, List.length_take]; rfl)) ?_; (with_reducible refine (spec_l11Some.calls k g299 t297 t298 t300 t301 t304 w _ ?side1 ?side2 A3.out).mono ?_); (case side1 => repeat (first | (with_reducible first | exact HI299.out | apply IsS79.alloc | apply IsS79.drewN | apply IsS79.drew | apply IsS79.set_1 | refine IsS79.far ?_ NB299_296.out _) | exact HI299.out)); (case side2 => repeat (first | (with_reducible first | exact HB.out | apply bwA | apply bwN | apply bwD | refine below_set ?_ (IsS79.ge HI299.out) | refine below_set ?_ GE296.out) | exact HB.out)); rintro e w30 ⟨v302, rfl, ho0, hi, hb, hk⟩; refine ⟨_, rfl, ?_⟩; have n0_ := Aside0.mk (KeepBut.blk hk (g' := gb296) (o := .cells #[.int .i64 0, .slice none 0 0] 29 (0, 0)) (by (with_reducible repeat (first | refine blk_drewN ?_ _ | refine blk_drew ?_ | refine blk_alloc ?_ _)); exact BK296.out) NB296_299.out (by simp)); have n1_ := Aside0.mk (Kd.S_lower ho0 (below_size (by repeat (first | (with_reducible first | exact HB.out | apply bwA | apply bwN | apply bwD | refine below_set ?_ (IsS79.ge HI299.out) | refine below_set ?_ GE296.out) | exact HB.out)))); have n2_ := Aside0.mk (hb); have n3_ := Aside0.mk (hi); clear BK296; clear HB; clear HI299; have BK296 := n0_; have HO303 := n1_; have HB := n2_; have HI299 := n3_; clear n0_ n1_ n2_ n3_; (try clear hb); (try clear hb2); (try clear hk); (try clear hi); (try clear ho0)) | ((with_reducible refine gate_dst (N := 5) rfl ?_); refine box_event ?hg (N := 5) ?hd (cs := #[.int .i64 0, .slice none 0 0]) (t := 29) ?hr ?_; (case hd => rfl); (case hg => rfl); (case hr => first | (go_simp; done) | (go_simp; rfl)); intro gb305 hg w31 hbox hb; have n0_ := Aside0.mk (Kd.S_below (by (with_reducible repeat (first | apply Kd.S_alloc | apply Kd.S_drewN | apply Kd.S_drew)); exact HO303.out) hb); have n1_ := Aside0.mk (blk_below (g := gb296) (o := .cells #[.int .i64 0, .slice none 0 0] 29 (0, 0)) (by (with_reducible repeat (first | refine blk_drewN ?_ _ | refine blk_drew ?_ | refine blk_alloc ?_ _)); exact BK296.out) hb); have n2_ := Aside0.mk (IsS79.below (by repeat (first | (with_reducible first | exact HI299.out | apply IsS79.alloc | apply IsS79.drewN | apply IsS79.drew | apply IsS79.set_1 | refine IsS79.far ?_ NB299_296.out _) | exact HI299.out)) hb); have n3_ := Aside0.mk (below_step (by repeat (first | (with_reducible first | exact HB.out | apply bwA | apply bwN | apply bwD | refine below_set ?_ (IsS79.ge HI299.out) | refine below_set ?_ GE296.out) | exact HB.out)) hb); have n4_ := Aside0.mk (hbox); have n5_ := Aside0.mk ((by rw [hg]; exact (below_size (by repeat (first | (with_reducible first | exact HB.out | apply bwA | apply bwN | apply bwD | refine below_set ?_ (IsS79.ge HI299.out) | refine below_set ?_ GE296.out) | exact HB.out))) : w.heap.size ≤ gb305)); have n6_ := Aside0.mk ((by rw [hg]; exact (below_size (by repeat (first | (with_reducible first | exact HB.out | apply bwA | apply bwN | apply bwD | refine below_set ?_ (IsS79.ge HI299.out) | refine below_set ?_ GE296.out) | exact HB.out))) : w.heap.size ≤ gb305)); have n7_ := Aside0.mk ((by rw [hg]; exact Nat.ne_of_lt (blk_lt (g := gb296) (o := .cells #[.int .i64 0, .slice none 0 0] 29 (0, 0)) (by (with_reducible repeat (first | refine blk_drewN ?_ _ | refine blk_drew ?_ | refine blk_alloc ?_ _)); exact BK296.out)) : gb296 ≠ gb305)); have n8_ := Aside0.mk ((by rw [hg]; exact Nat.ne_of_gt (blk_lt (g := gb296) (o := .cells #[.int .i64 0, .slice none 0 0] 29 (0, 0)) (by (with_reducible repeat (first | refine blk_drewN ?_ _ | refine blk_drew ?_ | refine blk_alloc ?_ _)); exact BK296.out)) : gb305 ≠ gb296)); have n9_ := Aside0.mk ((by rw [hg]; exact Nat.ne_of_lt (IsS79.lt (show IsS79 w _ g299 t297 t304 from by repeat (first | (with_reducible first | exact HI299.out | apply IsS79.alloc | apply IsS79.drewN | apply IsS79.drew | apply IsS79.set_1 | refine IsS79.far ?_ NB299_296.out _) | exact HI299.out))) : g299 ≠ gb305)); have n10_ := Aside0.mk ((by rw [hg]; exact Nat.ne_of_gt (IsS79.lt (show IsS79 w _ g299 t297 t304 from by repeat (first | (with_reducible first | exact HI299.out | apply IsS79.alloc | apply IsS79.drewN | apply IsS79.drew | apply IsS79.set_1 | refine IsS79.far ?_ NB299_296.out _) | exact HI299.out))) : gb305 ≠ g299)); clear HO303; clear BK296; clear HI299; clear HB; have HO303 := n0_; have BK296 := n1_; have HI299 := n2_; have HB := n3_; have BK305 := n4_; have GW305 := n5_; have GE305 := n6_; have NB296_305 := n7_; have NB305_296 := n8_; have NB299_305 := n9_; have NB305_299 := n10_; clear n0_ n1_ n2_ n3_ n4_ n5_ n6_ n7_ n8_ n9_ n10_; clear hb hbox hg; have hnb32 := NB305_296.out; have hnc32 := NB296_305.out; have hnb33 := NB305_299.out; have hnc33 := NB299_305.out; have hcz34_0 : w31.cell? ⟨gb305, 0, none⟩ = some (.int .i64 0) := (blk_cell BK305.out 0).trans rfl; have hcz34_1 : w31.cell? ⟨gb305, 1, none⟩ = some (.slice none 0 0) := (blk_cell BK305.out 1).trans rfl; have hfz34_0 := blk_frozen BK305.out 0; have hfz34_1 := blk_frozen BK305.out 1; obtain ⟨Ao35, co35, eo35⟩ := Kd.S_slice HO303.out; subst eo35) | ((with_reducible refine gate_callee (f := 57) rfl ?_); refine goesL_ (some 11) rfl rfl Try.func57 (by kernel_rfl) rfl #[.pointer (some ⟨g299, 0, none⟩), .int .i64 16] rfl (by (try simp only [List.map_toArray, List.map_cons, List.map_nil]); first | done | rfl | (simp only [List.length_drop, List.length_take]; rfl)) ?_; (with_reducible refine (spec_l40Rd_pick.calls k g299 t297 t304 16 t306 t307 w _ ?side1 ?side2 A4.out).mono ?_); (case side1 => repeat (first | (with_reducible first | exact HI299.out | apply IsS79.alloc | apply IsS79.drewN | apply IsS79.drew | apply IsS79.set_1 | refine IsS79.far ?_ NB299_296.out _ | refine IsS79.far ?_ NB299_305.out _) | exact HI299.out)); (case side2 => repeat (first | (with_reducible first | exact HB.out | apply bwA | apply bwN | apply bwD | refine below_set ?_ (IsS79.ge HI299.out) | refine below_set ?_ GE296.out | refine below_set ?_ GE305.out) | exact HB.out)); rintro e w36 ⟨rfl, hi, hb, hk⟩; refine ⟨_, rfl, ?_⟩; have n0_ := Aside0.mk (KeepBut.blk hk (g' := gb296) (o := .cells #[.int .i64 0, .slice none 0 0] 29 (0, 0)) (by (with_reducible repeat (first | refine blk_drewN ?_ _ | refine blk_drew ?_ | refine blk_alloc ?_ _)); refine blk_far ?_ NB296_305.out _; (with_reducible repeat (first | refine blk_drewN ?_ _ | refine blk_drew ?_ | refine blk_alloc ?_ _)); refine blk_far ?_ NB296_305.out _; (with_reducible repeat (first | refine blk_drewN ?_ _ | refine blk_drew ?_ | refine blk_alloc ?_ _)); exact BK296.out) NB296_299.out (by simp)); have n1_ := Aside0.mk (Kd.S_mono (Kd.S_keep (IsS79.apartS (show IsS79 w _ g299 t297 t304 from by repeat (first | (with_reducible first | exact HI299.out | apply IsS79.alloc | apply IsS79.drewN | apply IsS79.drew | apply IsS79.set_1 | refine IsS79.far ?_ NB299_296.out _ | refine IsS79.far ?_ NB299_305.out _) | exact HI299.out)) (by (with_reducible repeat (first | apply Kd.S_alloc | apply Kd.S_drewN | apply Kd.S_drew)); exact (Kd.S_mono (Kd.S_far (p := ⟨gb305, 1, none⟩) (Kd.S_far (p := ⟨gb305, 0, none⟩) (Kd.S_types HO303.out BK305.out (by decide)) (fun _ hk => hk.2) (.int .i64 t300)) (fun _ hk => hk.2) (.slice Ao35 t301.length co35)) (fun _ h_ => h_.1))) (by decide)) hk (fun _ h => h.2)) (fun _ h => h.1)); have n2_ := Aside0.mk (KeepBut.blk hk (g' := gb305) (o := .cells #[.int .i64 t300, .slice Ao35 t301.length co35] 29 (0, 0)) (by (with_reducible repeat (first | refine blk_drewN ?_ _ | refine blk_drew ?_ | refine blk_alloc ?_ _)); refine blk_put (cs := #[.int .i64 t300, .slice none 0 0]) ?_ 1 _ rfl; (with_reducible repeat (first | refine blk_drewN ?_ _ | refine blk_drew ?_ | refine blk_alloc ?_ _)); refine blk_put (cs := #[.int .i64 0, .slice none 0 0]) ?_ 0 _ rfl; (with_reducible repeat (first | refine blk_drewN ?_ _ | refine blk_drew ?_ | refine blk_alloc ?_ _)); exact BK305.out) NB305_299.out (by simp)); have n3_ := Aside0.mk (hb); have n4_ := Aside0.mk (hi); clear BK296; clear HO303; clear BK305; clear HB; clear HI299; have BK296 := n0_; have HO303 := n1_; have BK305 := n2_; have HB := n3_; have HI299 := n4_; clear n0_ n1_ n2_ n3_ n4_; (try clear hb); (try clear hb2); (try clear hk); (try clear hi)))
  have n0_ := Aside0.mk (Kd.S_drew HO303.out)
  have n1_ := Aside0.mk (blk_drew BK296.out)
  have n2_ := Aside0.mk (blk_drew BK305.out)
  have n3_ := Aside0.mk (IsS79.drew HI299.out)
  have n4_ := Aside0.mk (below_drew1 HB.out)
  clear HO303
  clear BK296
  clear BK305
  clear HI299
  clear HB
  have HO303 := n0_
  have BK296 := n1_
  have BK305 := n2_
  have HI299 := n3_
  have HB := n4_
  clear n0_ n1_ n2_ n3_ n4_
  refine start_ (n := 9) (S := fun w' => w'.cell? ⟨gb305, 0, none⟩ = some (.int .i64 t300) ∧ w'.cell? ⟨gb305, 1, none⟩ = some (.slice Ao35 t301.length co35)) (ds := []) #[false, false, false, false, false, false, false, false, false] (by kernel_rfl) rfl rfl ⟨(blk_cell BK305.out 0).trans rfl, (blk_cell BK305.out 1).trans rfl⟩ (fun hHeld => ?_); refine with_tabW spec_DrawForced.tab5 spec_DrawForced.bits5 (fun HT_ HW_ => ?_)
  generalize w36.drew = w37 at HO303 BK296 BK305 HI299 HB hHeld ⊢
  refine pure_ (i := 1) (N := some 19) (v := ?_) (a' := ?_) #[false, true, false, false, false, false, false, false, false] rfl rfl (any_of HT_.out (by kernel_rfl)) (fun _ _ _ h => h) (Or.inl ⟨by rfl, ?_⟩) ?_ ?_
  rotate_left
  ·intro w'
   go_simp
   with_reducible rfl
  rotate_left
  ·simp only [Act.put, List.setIfInBounds_toArray, List.set_cons_zero, List.set_cons_succ, i64_w, i32_w]
   rfl
  refine pure_ (i := 2) (N := some 20) (v := ?_) (a' := ?_) #[false, true, true, false, false, false, false, false, false] rfl rfl (any_of HT_.out (by kernel_rfl)) (fun _ _ _ h => h) (Or.inl ⟨by rfl, ?_⟩) ?_ ?_
  rotate_left
  ·intro w'
   go_simp
   with_reducible rfl
  rotate_left
  ·simp only [Act.put, List.setIfInBounds_toArray, List.set_cons_zero, List.set_cons_succ, i64_w, i32_w]
   rfl
  refine pure_ (i := 4) (N := some 22) (v := ?_) (a' := ?_) #[false, true, true, false, true, false, false, false, false] rfl rfl (any_of HT_.out (by kernel_rfl)) (fun _ _ _ h => h) (Or.inl ⟨by rfl, ?_⟩) ?_ ?_
  rotate_left
  ·intro w'
   go_simp
   with_reducible rfl
  rotate_left
  ·simp only [Act.put, List.setIfInBounds_toArray, List.set_cons_zero, List.set_cons_succ, i64_w, i32_w]
   rfl
  refine take_ (i := 0) (N := some 18) (v := ?_) (a' := ?_) #[true, true, true, false, true, false, false, false, false] rfl rfl (take_ofW HT_.out HW_.out (by kernel_rfl)) (fun _ _ _ h => h) (Or.inl ⟨by rfl, ?_⟩) hHeld ?_ ?_
  rotate_left
  ·rintro w' ⟨s0, s1⟩
   go_simp
   with_reducible rfl
  rotate_left
  ·simp only [Act.put, List.setIfInBounds_toArray, List.set_cons_zero, List.set_cons_succ, i64_w, i32_w]
   rfl
  refine take_ (i := 3) (N := some 21) (v := ?_) (a' := ?_) #[true, true, true, true, true, false, false, false, false] rfl rfl (take_ofW HT_.out HW_.out (by kernel_rfl)) (fun _ _ _ h => h) (Or.inl ⟨by rfl, ?_⟩) hHeld ?_ ?_
  rotate_left
  ·rintro w' ⟨s0, s1⟩
   go_simp
   with_reducible rfl
  rotate_left
  ·simp only [Act.put, List.setIfInBounds_toArray, List.set_cons_zero, List.set_cons_succ, i64_w, i32_w]
   rfl
  refine one_ (i := 5) (N := some 23) #[true, true, true, true, true, true, false, false, false] rfl rfl (one_of HT_.out (by kernel_rfl)) (by decide) (fun K hK => ?_)
  refine goes_ Try.func57 (by kernel_rfl) rfl #[.pointer (some ⟨g299, 0, none⟩), .int .i64 4] (by rfl) rfl rfl (by (try simp only [List.map_toArray, List.map_cons, List.map_nil]); first | done | rfl | (simp only [List.length_drop, List.length_take]; rfl)) ?_
  with_reducible refine (spec_l40Rd_pick.calls k g299 t297 t307 4 t316 t317 w _ ?side1 ?side2 A26.out).mono ?_
  (case side1 => repeat (first | (with_reducible first | exact HI299.out | apply IsS79.alloc | apply IsS79.drewN | apply IsS79.drew | apply IsS79.set_1 | refine IsS79.far ?_ NB299_296.out _ | refine IsS79.far ?_ NB299_305.out _) | exact HI299.out))
  (case side2 => repeat (first | (with_reducible first | exact HB.out | apply bwA | apply bwN | apply bwD | refine below_set ?_ (IsS79.ge HI299.out) | refine below_set ?_ GE296.out | refine below_set ?_ GE305.out) | exact HB.out))
  rintro e w38 ⟨rfl, hi, hb, hk⟩
  refine ⟨_, rfl, ?_⟩
  have n0_ := Aside0.mk (KeepBut.blk hk (g' := gb296) (o := .cells #[.int .i64 0, .slice none 0 0] 29 (0, 0)) (by (with_reducible repeat (first | refine blk_drewN ?_ _ | refine blk_drew ?_ | refine blk_alloc ?_ _)); exact BK296.out) NB296_299.out (by simp))
  have n1_ := Aside0.mk (Kd.S_mono (Kd.S_keep (IsS79.apartS (show IsS79 w _ g299 t297 t307 from by repeat (first | (with_reducible first | exact HI299.out | apply IsS79.alloc | apply IsS79.drewN | apply IsS79.drew | apply IsS79.set_1 | refine IsS79.far ?_ NB299_296.out _ | refine IsS79.far ?_ NB299_305.out _) | exact HI299.out)) (by (with_reducible repeat (first | apply Kd.S_alloc | apply Kd.S_drewN | apply Kd.S_drew)); exact HO303.out) (by decide)) hk (fun _ h => h.2)) (fun _ h => h.1))
  have n2_ := Aside0.mk (KeepBut.blk hk (g' := gb305) (o := .cells #[.int .i64 t300, .slice Ao35 t301.length co35] 29 (0, 0)) (by (with_reducible repeat (first | refine blk_drewN ?_ _ | refine blk_drew ?_ | refine blk_alloc ?_ _)); exact BK305.out) NB305_299.out (by simp))
  have n3_ := Aside0.mk (hb)
  have n4_ := Aside0.mk (hi)
  clear BK296
  clear HO303
  clear BK305
  clear HB
  clear HI299
  have BK296 := n0_
  have HO303 := n1_
  have BK305 := n2_
  have HB := n3_
  have HI299 := n4_
  clear n0_ n1_ n2_ n3_ n4_
  (try clear hb)
  (try clear hb2)
  (try clear hk)
  (try clear hi)
  refine hK.out _ _ ⟨(blk_cell BK305.out 0).trans rfl, (blk_cell BK305.out 1).trans rfl⟩ (fun hHeld => ?_)
  clear hK K
  refine norm_ (a' := ?_) ?_ ?_
  rotate_left
  ·show Act.put _ (some 23) _ = _
   simp only [Act.put, List.setIfInBounds_toArray, List.set_cons_zero, List.set_cons_succ, i64_w, i32_w]
   rfl
  refine one_ (i := 6) (N := some 24) #[true, true, true, true, true, true, true, false, false] rfl rfl (one_of HT_.out (by kernel_rfl)) (by decide) (fun K hK => ?_)
  refine goes_ Try.func59 (by kernel_rfl) rfl #[.pointer (some ⟨g299, 0, none⟩), .int .i64 t300, .int .i64 t316] (by rfl) rfl rfl (by (try simp only [List.map_toArray, List.map_cons, List.map_nil]); first | done | rfl | (simp only [List.length_drop, List.length_take]; rfl)) ?_
  with_reducible refine (spec_l11Lits.calls k g299 t297 t317 t300 t316 t318 t321 w _ ?side1 ?side2 A27.out).mono ?_
  (case side1 => repeat (first | (with_reducible first | exact HI299.out | apply IsS79.alloc | apply IsS79.drewN | apply IsS79.drew | apply IsS79.set_1 | refine IsS79.far ?_ NB299_296.out _ | refine IsS79.far ?_ NB299_305.out _) | exact HI299.out))
  (case side2 => repeat (first | (with_reducible first | exact HB.out | apply bwA | apply bwN | apply bwD | refine below_set ?_ (IsS79.ge HI299.out) | refine below_set ?_ GE296.out | refine below_set ?_ GE305.out) | exact HB.out))
  rintro e w39 ⟨v319, rfl, ho0, hi, hb, hk⟩
  refine ⟨_, rfl, ?_⟩
  have n0_ := Aside0.mk (KeepBut.blk hk (g' := gb296) (o := .cells #[.int .i64 0, .slice none 0 0] 29 (0, 0)) (by (with_reducible repeat (first | refine blk_drewN ?_ _ | refine blk_drew ?_ | refine blk_alloc ?_ _)); exact BK296.out) NB296_299.out (by simp))
  have n1_ := Aside0.mk (Kd.S_mono (Kd.S_told (Kd.S_oldK (IsS79.apartS (show IsS79 w _ g299 t297 t317 from by repeat (first | (with_reducible first | exact HI299.out | apply IsS79.alloc | apply IsS79.drewN | apply IsS79.drew | apply IsS79.set_1 | refine IsS79.far ?_ NB299_296.out _ | refine IsS79.far ?_ NB299_305.out _) | exact HI299.out)) (by (with_reducible repeat (first | apply Kd.S_alloc | apply Kd.S_drewN | apply Kd.S_drew)); exact HO303.out) (by decide)) hk) (Kd.R_base ho0)) (fun _ h_ => h_.1))
  have n2_ := Aside0.mk (KeepBut.blk hk (g' := gb305) (o := .cells #[.int .i64 t300, .slice Ao35 t301.length co35] 29 (0, 0)) (by (with_reducible repeat (first | refine blk_drewN ?_ _ | refine blk_drew ?_ | refine blk_alloc ?_ _)); exact BK305.out) NB305_299.out (by simp))
  have n3_ := Aside0.mk (Kd.R_lower ho0 (below_size (by repeat (first | (with_reducible first | exact HB.out | apply bwA | apply bwN | apply bwD | refine below_set ?_ (IsS79.ge HI299.out) | refine below_set ?_ GE296.out | refine below_set ?_ GE305.out) | exact HB.out))))
  have n4_ := Aside0.mk (hb)
  have n5_ := Aside0.mk (hi)
  clear BK296
  clear HO303
  clear BK305
  clear HB
  clear HI299
  have BK296 := n0_
  have HO303 := n1_
  have BK305 := n2_
  have HO320 := n3_
  have HB := n4_
  have HI299 := n5_
  clear n0_ n1_ n2_ n3_ n4_ n5_
  (try clear hb)
  (try clear hb2)
  (try clear hk)
  (try clear hi)
  (try clear ho0)
  refine hK.out _ _ ⟨(blk_cell BK305.out 0).trans rfl, (blk_cell BK305.out 1).trans rfl⟩ (fun hHeld => ?_)
  clear hK K
  refine norm_ (a' := ?_) ?_ ?_
  rotate_left
  ·show Act.put _ (some 24) _ = _
   simp only [Act.put, List.setIfInBounds_toArray, List.set_cons_zero, List.set_cons_succ, i64_w, i32_w]
   rfl
  refine one_ (i := 7) (N := none) #[true, true, true, true, true, true, true, true, false] rfl rfl (one_of HT_.out (by kernel_rfl)) (by decide) (fun K hK => ?_)
  have hs40 : w39.cell? ⟨gb296, 0, none⟩ = some (.int .i64 0) := (blk_cell BK296.out 0).trans rfl
  have hfs40 := blk_frozen BK296.out 0
  have hns40_1 := NB305_296.out
  have hms40_1 := NB296_305.out
  have hs41 : w39.cell? ⟨gb296, 1, none⟩ = some (.slice none 0 0) := (blk_cell BK296.out 1).trans rfl
  have hfs41 := blk_frozen BK296.out 1
  have hns41_1 := NB305_296.out
  have hms41_1 := NB296_305.out
  refine skip_ (w1 := ?_) (by rfl) rfl ?_ ?_
  rotate_left
  ·go_simp
   rfl
  refine hK.out _ _ ⟨((cell_far (p := ⟨gb296, _, none⟩) NB305_296.out _).trans (((cell_far (p := ⟨gb296, _, none⟩) NB305_296.out _).trans (hHeld.1)))), ((cell_far (p := ⟨gb296, _, none⟩) NB305_296.out _).trans (((cell_far (p := ⟨gb296, _, none⟩) NB305_296.out _).trans (hHeld.2))))⟩ (fun hHeld => ?_)
  clear hK K
  refine pure_ (i := 8) (N := some 3) (v := ?_) (a' := ?_) #[true, true, true, true, true, true, true, true, true] rfl rfl (any_of HT_.out (by kernel_rfl)) (fun _ _ _ h => h) (Or.inl ⟨by rfl, ?_⟩) ?_ ?_
  rotate_left
  ·intro w'
   go_simp
   with_reducible rfl
  rotate_left
  ·simp only [Act.put, List.setIfInBounds_toArray, List.set_cons_zero, List.set_cons_succ, i64_w, i32_w]
   rfl
  refine done_ (done_of HT_.out (by kernel_rfl)) ?_
  try go_wp2
  refine bodyPost_ret (results_ct rfl _ _ gb296 29 #[.int .i64 t300, .slice Ao35 t301.length co35] (0, 0) _ rfl (by (with_reducible repeat (first | refine blk_drewN ?_ _ | refine blk_drew ?_ | refine blk_alloc ?_ _)); refine blk_put (cs := #[.int .i64 t300, .slice none 0 0]) ?_ 1 _ rfl; (with_reducible repeat (first | refine blk_drewN ?_ _ | refine blk_drew ?_ | refine blk_alloc ?_ _)); refine blk_put (cs := #[.int .i64 0, .slice none 0 0]) ?_ 0 _ rfl; (with_reducible repeat (first | refine blk_drewN ?_ _ | refine blk_drew ?_ | refine blk_alloc ?_ _)); exact BK296.out) Try.underlying29 rfl (by kernel_rfl)) rfl ?_
  exact ⟨_, _, by first | rfl | (simp [errW_none, errW_some] <;> rfl) | (simp [*, errW_none, errW_some] <;> rfl), by (with_reducible repeat (first | apply Kd.S_alloc | apply Kd.S_drewN | apply Kd.S_drew)); exact Kd.S_mono (Kd.S_far (p := ⟨gb296, 1, none⟩) (Kd.S_far (p := ⟨gb296, 0, none⟩) (Kd.S_types HO303.out BK296.out (by decide)) (fun _ hk => hk.2) (.int .i64 t300)) (fun _ hk => hk.2) (.slice Ao35 t301.length co35)) (fun _ hk => hk.1.2), by (with_reducible repeat (first | apply Kd.R_alloc | apply Kd.R_drewN | apply Kd.R_drew)); exact Kd.R_mono (Kd.R_far (p := ⟨gb296, 1, none⟩) (Kd.R_far (p := ⟨gb296, 0, none⟩) (Kd.R_types HO320.out BK296.out (by decide)) (fun _ hk => hk.2) (.int .i64 t300)) (fun _ hk => hk.2) (.slice Ao35 t301.length co35)) (fun _ hk => trivial), by repeat (first | (with_reducible first | exact HB.out | apply bwA | apply bwN | apply bwD | refine below_set ?_ (IsS79.ge HI299.out) | refine below_set ?_ GE296.out | refine below_set ?_ GE305.out) | exact HB.out)⟩

/-! ### laws_wcInts: function 23 -/
def laws_wcInts.l0 : Nat → List Int → List Int → Int → Int → Option (Bool)
 | 0, _, _, _, _ => none
 | k + 1, x1, x12, x13, x14 => if x14 < x13 then (if 0 ≤ x14 then (if x14 < (x12.length : Int) then (if x14 < (x1.length : Int) then (if (rd x1 x14) = (rd x12 x14) then (laws_wcInts.l0 k x1 x12 x13 (wrap64 (x14 + 1))) else (some false)) else (none)) else (none)) else (none)) else (some true)
def laws_wcInts.f (k : Nat) (l0 : List Int) (l1 : List Int) : Option (Bool) := if (l0.length : Int) = (l1.length : Int) then (laws_wcInts.l0 k l1 l0 (l0.length : Int) 0) else (some false)
theorem laws_wcInts.mono_l : ∀ k, (∀ y0 y1 y2 y3, LeO (laws_wcInts.l0 k y0 y1 y2 y3) (laws_wcInts.l0 (k + 1) y0 y1 y2 y3))
 | 0 => fun _ _ _ _ r h => by simp [laws_wcInts.l0] at h
 | k + 1 => by
  have ih0 := laws_wcInts.mono_l k
  ·intro y0 y1 y2 y3
   unfold laws_wcInts.l0
   repeat' first
   | (with_reducible exact ih0 _ _ _ _)
   | (with_reducible exact LeO.refl _)
   | (with_reducible exact LeO.none _)
   | (with_reducible refine LeO.ite ?_ ?_)
   | (with_reducible refine LeO.bind ?_ (fun _ => ?_))
   | exact ih0 _ _ _ _
   | exact LeO.none _
   | refine LeO.ite ?_ ?_
   | refine LeO.bind ?_ (fun _ => ?_)
theorem laws_wcInts.mono : ∀ a0 a1 k, LeO (laws_wcInts.f k a0 a1) (laws_wcInts.f (k + 1) a0 a1) := by
 intro a0 a1 k
 have ih0 := laws_wcInts.mono_l k
 unfold laws_wcInts.f
 repeat' first
   | (with_reducible exact ih0 _ _ _ _)
   | (with_reducible exact LeO.refl _)
   | (with_reducible exact LeO.none _)
   | (with_reducible refine LeO.ite ?_ ?_)
   | (with_reducible refine LeO.bind ?_ (fun _ => ?_))
   | exact ih0 _ _ _ _
   | exact LeO.none _
   | refine LeO.ite ?_ ?_
   | refine LeO.bind ?_ (fun _ => ?_)
set_option maxHeartbeats 8000000 in
set_option maxRecDepth 100000 in
theorem laws_wcInts.calls (k : Nat) (A0 : Option Addr) (c0 : Nat) (l0 : List Int) (A1 : Option Addr) (c1 : Nat) (l1 : List Int) (r : Bool) (w : World) (hr0 : Kd.C (Kd.int .i64) w A0 l0.length l0) (hc0 : l0.length ≤ c0) (hr1 : Kd.C (Kd.int .i64) w A1 l1.length l1) (hc1 : l1.length ≤ c1) (h : laws_wcInts.f k l0 l1 = some r) :
  Calls Try.prog 23 #[.slice A0 l0.length c0, .slice A1 l1.length c1] w fun e w' => e = .returned (.bool r) ∧ Drawn0 w w' := by
 have HR0 := Aside0.mk hr0
 have HC0 := Aside0.mk hc0
 clear hr0 hc0
 have HR1 := Aside0.mk hr1
 have HC1 := Aside0.mk hc1
 clear hr1 hc1
 have H : (if (l0.length : Int) = (l1.length : Int) then (laws_wcInts.l0 k l1 l0 (l0.length : Int) 0) else (some false)) = some r := h
 clear h
 by_cases c3 : (l0.length : Int) = (l1.length : Int)
 ·rw [if_pos c3] at H
  have c3b0 : ((l0.length : Int) == (l1.length : Int)) = true := beq_iff_eq.mpr c3
  have c3b1 : ((l0.length : Int) != (l1.length : Int)) = false := bne_eq_false_iff_eq.mpr c3
  have c3b2 : (l0.length == l1.length) = true := by first | simpa using c3 | (simp at c3 ⊢; omega)
  clear c3
  have H' := Aside0.mk H
  clear H
  go_enter Try.func23, Try.ntmps23
  go_wp2
  go_loopg [14] k (fun kq v14 w' => ∃ (x14_1 : Int), v14 = .int .i64 x14_1 ∧ Aside0 (laws_wcInts.l0 kq l1 l0 (l0.length : Int) x14_1 = some r) ∧ Aside0 (kq ≤ k) ∧ Drawn0 w w')
  case atStart => exact ⟨(0), (by first | rfl | (simp; done) | (simp [*]; done)), H', ⟨Nat.le_refl _⟩, by repeat (first | exact Drawn0.refl _ | apply Drawn0.step)⟩
  case round =>
   clear H'
   try clear c1
   try clear c2
   try clear p2
   try clear c3
   try clear c3b0
   try clear c3b1
   try clear c3b2
   obtain ⟨x14_1, rfl, HA, HK1, ⟨m1, rfl⟩⟩ := hrel
   cases gk with
   | zero => exact absurd HA.out (by simp [laws_wcInts.l0])
   | succ k1 =>
    have H := HA.out
    clear HA
    simp only [laws_wcInts.l0] at H
    by_cases c4 : x14_1 < (l0.length : Int)
    ·rw [if_pos c4] at H
     have c4b0 : decide (x14_1 < (l0.length : Int)) = true := decide_eq_true c4
     clear c4
     by_cases c5 : 0 ≤ x14_1
     ·rw [if_pos c5] at H
      have c5b0 : decide (0 ≤ x14_1) = true := decide_eq_true c5
      clear c5
      by_cases c6 : x14_1 < (l0.length : Int)
      ·rw [if_pos c6] at H
       have c6b0 : decide (x14_1 < (l0.length : Int)) = true := decide_eq_true c6
       clear c6
       by_cases c7 : x14_1 < (l1.length : Int)
       ·rw [if_pos c7] at H
        have c7b0 : decide (x14_1 < (l1.length : Int)) = true := decide_eq_true c7
        clear c7
        by_cases c8 : (rd l1 x14_1) = (rd l0 x14_1)
        ·rw [if_pos c8] at H
         have c8b0 : ((rd l1 x14_1) == (rd l0 x14_1)) = true := beq_iff_eq.mpr c8
         have c8b1 : ((rd l1 x14_1) != (rd l0 x14_1)) = false := bne_eq_false_iff_eq.mpr c8
         clear c8
         have H' := Aside0.mk H
         clear H
         have p322 : 0 ≤ (x14_1 : Int) := of_decide_eq_true (by first | (with_reducible assumption) | assumption)
         have q322 : x14_1 < (l0.length : Int) := of_decide_eq_true (by first | (with_reducible assumption) | assumption)
         obtain ⟨ad322, e322, hx322_0⟩ := Kd.at_int HR0.out x14_1 p322 q322
         cases e322
         replace p322 := eq_true p322
         replace q322 := eq_true q322
         have p323 : 0 ≤ (x14_1 : Int) := of_decide_eq_true (by first | (with_reducible assumption) | assumption)
         have q323 : x14_1 < (l1.length : Int) := of_decide_eq_true (by first | (with_reducible assumption) | assumption)
         obtain ⟨ad323, e323, hx323_0⟩ := Kd.at_int HR1.out x14_1 p323 q323
         cases e323
         replace p323 := eq_true p323
         replace q323 := eq_true q323
         go_wp2
         go_roundg k1
         case measure => have := HK1.out; omega
         case rel => exact ⟨(wrap64 (x14_1 + 1)), (by first | rfl | (simp; done) | (simp [*]; done)), H', ⟨by have := HK1.out; omega⟩, by repeat (first | exact Drawn0.refl _ | apply Drawn0.step)⟩
        ·rw [if_neg c8] at H
         have c8b0 : ((rd l1 x14_1) == (rd l0 x14_1)) = false := beq_eq_false_iff_ne.mpr c8
         have c8b1 : ((rd l1 x14_1) != (rd l0 x14_1)) = true := bne_iff_ne.mpr c8
         obtain rfl := Option.some.inj H
         have p322 : 0 ≤ (x14_1 : Int) := of_decide_eq_true (by first | (with_reducible assumption) | assumption)
         have q322 : x14_1 < (l0.length : Int) := of_decide_eq_true (by first | (with_reducible assumption) | assumption)
         obtain ⟨ad322, e322, hx322_0⟩ := Kd.at_int HR0.out x14_1 p322 q322
         cases e322
         replace p322 := eq_true p322
         replace q322 := eq_true q322
         have p323 : 0 ≤ (x14_1 : Int) := of_decide_eq_true (by first | (with_reducible assumption) | assumption)
         have q323 : x14_1 < (l1.length : Int) := of_decide_eq_true (by first | (with_reducible assumption) | assumption)
         obtain ⟨ad323, e323, hx323_0⟩ := Kd.at_int HR1.out x14_1 p323 q323
         cases e323
         replace p323 := eq_true p323
         replace q323 := eq_true q323
         go_wp2
         go_ret
         exact ⟨by first | rfl | (simp; done) | (simp [*]; done), by repeat (first | exact Drawn0.refl _ | apply Drawn0.step)⟩
       ·rw [if_neg c7] at H
        exact absurd H (by simp)
      ·rw [if_neg c6] at H
       exact absurd H (by simp)
     ·rw [if_neg c5] at H
      exact absurd H (by simp)
    ·rw [if_neg c4] at H
     have c4b0 : decide (x14_1 < (l0.length : Int)) = false := decide_eq_false c4
     clear c4
     obtain rfl := Option.some.inj H
     go_wp2
     go_ret
     exact ⟨by first | rfl | (simp; done) | (simp [*]; done), by repeat (first | exact Drawn0.refl _ | apply Drawn0.step)⟩
 ·rw [if_neg c3] at H
  have c3b0 : ((l0.length : Int) == (l1.length : Int)) = false := beq_eq_false_iff_ne.mpr c3
  have c3b1 : ((l0.length : Int) != (l1.length : Int)) = true := bne_iff_ne.mpr c3
  have c3b2 : (l0.length == l1.length) = false := by first | simpa using c3 | (simp at c3 ⊢; omega)
  obtain rfl := Option.some.inj H
  go_enter Try.func23, Try.ntmps23
  go_wp2
  go_ret
  exact ⟨by first | rfl | (simp; done) | (simp [*]; done), by repeat (first | exact Drawn0.refl _ | apply Drawn0.step)⟩

/-! ### slices_IndexFunc_int_int_109: function 109 -/
set_option maxHeartbeats 400000 in
theorem slices_IndexFunc_int_int_109.calls (g : Nat) (lb : Array Value) (eg : ∀ args w, (callFunc g args).run Try.prog w = .ok (.enter g args) w)
  (A0 : Option Addr) (c0 : Nat) (l0 : List Int) (p : Int → Option Bool) (r : Int) (w : World) (hr0 : Kd.C (Kd.int .i64) w A0 l0.length l0)
  (hp : ∀ (i : Int), 0 ≤ i → i < l0.length → ∀ b, p i = some b → ∀ W, Below w.heap.size w W → Calls Try.prog g (#[.int .i64 (rd l0 i)] ++ lb) W fun e w' => e = .returned (.bool b) ∧ Below W.heap.size W w')
  (h : Copy.idxO p l0.length 0 = some r) :
  Calls Try.prog 109 #[.slice A0 l0.length c0, .func (.func g) #[] lb] w fun e w' => e = .returned (.int .i64 r) ∧ Below w.heap.size w w' := by
 have hn : l0.length ≤ 9223372036854775807 := hr0.2.1
 have HR0 := Aside0.mk hr0
 have HP := Aside0.mk hp
 have H := Aside0.mk h
 clear hp hr0 h
 go_enter Try.func109, Try.ntmps109
 go_wp2
 go_loopg [5, 8] l0.length (fun gg _ s8 wr => ∃ kk : Int, 0 ≤ kk ∧ kk ≤ (l0.length : Int) ∧ Aside0 (l0.length ≤ gg + kk) ∧ s8 = .int .i64 kk ∧ Aside0 (Below w.heap.size w wr) ∧ Aside0 (Copy.idxO p (l0.length - kk.toNat) kk = some r))
 case atStart => exact ⟨0, by omega, by omega, ⟨by omega⟩, rfl, ⟨Below.refl _ _⟩, H⟩
 case round =>
  clear H
  obtain ⟨kk, h0, hkk, hg, rfl, HB, A⟩ := hrel
  by_cases hlt : kk < (l0.length : Int)
  ·have hltb : decide (kk < (l0.length : Int)) = true := decide_eq_true hlt
   obtain ⟨ad, e1, hx0⟩ := Kd.at_int (Kd.C_below HR0.out HB.out) kk h0 hlt
   cases e1
   have hd : l0.length - kk.toNat = (l0.length - (kk + 1).toNat) + 1 := by omega
   have A1 := A.out
   rw [hd, Copy.idxO] at A1
   clear A hd
   obtain ⟨b, hq, A1⟩ := Option.bind_eq_some_iff.mp A1
   have hcall := Aside0.mk (HP.out kk h0 hlt b hq _ HB.out)
   have H0 := Aside0.mk h0
   replace h0 := eq_true h0
   clear hq
   cases b with
   | true =>
    rw [if_pos rfl] at A1
    obtain rfl := Option.some.inj A1
    clear A1
    go_wp2_with (go_at_fn g; refine hcall.out.mono ?_; rintro e w' ⟨rfl, HB1⟩)
    go_ret
    exact ⟨rfl, below_then HB.out HB.out.size HB1⟩
   | false =>
    have A' := Aside0.mk A1
    clear A1
    have hw : wrap64 (kk + 1) = kk + 1 := by have := H0.out; unfold wrap64; omega
    have HW := Aside0.mk hw
    clear hw
    go_wp2_with (go_at_fn g; refine hcall.out.mono ?_; rintro e w' ⟨rfl, HB1⟩)
    go_roundg (l0.length - (kk + 1).toNat)
    case measure => have := hg.out; have := H0.out; omega
    case rel => exact ⟨kk + 1, by have := H0.out; omega, by omega, ⟨by have := H0.out; omega⟩, by first | rfl | rw [HW.out], ⟨below_then HB.out HB.out.size HB1⟩, ⟨by have := A'.out; simpa using this⟩⟩
  ·have hltb : decide (kk < (l0.length : Int)) = false := decide_eq_false hlt
   have this : kk.toNat = l0.length := by omega
   have A1 := A.out
   rw [this, Nat.sub_self, Copy.idxO] at A1
   obtain rfl := Option.some.inj A1
   clear A A1 this
   go_wp2
   go_ret
   exact ⟨rfl, HB.out⟩

/-! ### slices_ContainsFunc_int_int_99: function 99 -/
set_option maxHeartbeats 400000 in
theorem slices_ContainsFunc_int_int_99.calls (g : Nat) (lb : Array Value) (eg : ∀ args w, (callFunc g args).run Try.prog w = .ok (.enter g args) w)
  (A0 : Option Addr) (c0 : Nat) (l0 : List Int) (p : Int → Option Bool) (r : Int) (w : World) (hr0 : Kd.C (Kd.int .i64) w A0 l0.length l0)
  (hp : ∀ (i : Int), 0 ≤ i → i < l0.length → ∀ b, p i = some b → ∀ W, Below w.heap.size w W → Calls Try.prog g (#[.int .i64 (rd l0 i)] ++ lb) W fun e w' => e = .returned (.bool b) ∧ Below W.heap.size W w')
  (h : Copy.idxO p l0.length 0 = some r) :
  Calls Try.prog 99 #[.slice A0 l0.length c0, .func (.func g) #[] lb] w fun e w' => e = .returned (.bool (decide (0 ≤ r))) ∧ Below w.heap.size w w' := by
 have HC := Aside0.mk (slices_IndexFunc_int_int_109.calls g lb eg A0 c0 l0 p r w hr0 hp h)
 clear hp hr0 h
 go_enter Try.func99, Try.ntmps99
 go_wp2_with (go_at_call 109; refine HC.out.mono ?_; rintro e w' ⟨rfl, HB1⟩)
 go_ret
 exact ⟨rfl, HB1⟩

/-! ### impl_bitsValid: function 66 -/
def impl_bitsValid.p (l0 : List Int) (i : Int) : Option Bool := (impl_in.f (rd l0 i) 0 1).bind fun b => some (!b)
theorem impl_bitsValid_pred (l0 : List Int) (w : World) : ∀ (i : Int), 0 ≤ i → i < l0.length → ∀ b, impl_bitsValid.p l0 i = some b → ∀ W, Below w.heap.size w W → Calls Try.prog 100 (#[.int .i64 (rd l0 i)] ++ #[]) W fun e w' => e = .returned (.bool b) ∧ Below W.heap.size W w' := by
 intro i h0 h1 b hb W hW
 obtain ⟨b1, hb1, hb2⟩ := Option.bind_eq_some_iff.mp hb
 obtain rfl := Option.some.inj hb2
 clear hb hb2
 have HC := Aside0.mk (impl_in.calls (rd l0 i) 0 1 b1 W hb1)
 clear hb1 hW h0 h1
 show Calls Try.prog 100 #[.int .i64 (rd l0 i)] W _
 generalize rd l0 i = x at HC ⊢
 cases b1
 all_goals
  go_enter Try.func100, Try.ntmps100
  go_wp2_with (go_at_call 60; refine HC.out.mono ?_; rintro e w' ⟨rfl, ⟨nd, rfl⟩⟩)
  go_ret
  exact ⟨by first | rfl | simp, by first | exact (Drawn0.below ⟨nd, rfl⟩) | exact Drawn0.below (Drawn0.mk ⟨_, rfl⟩)⟩
def impl_bitsValid.f (l0 : List Int) : Option Bool := (Copy.idxO (impl_bitsValid.p l0) l0.length 0).bind fun r => some (!(decide (0 ≤ r)))
set_option maxHeartbeats 400000 in
theorem impl_bitsValid.calls (A0 : Option Addr) (c0 : Nat) (l0 : List Int) (r : Bool) (w : World) (hr0 : Kd.C (Kd.int .i64) w A0 l0.length l0) (hc0 : l0.length ≤ c0) (h : impl_bitsValid.f l0 = some r) :
  Calls Try.prog 66 #[.slice A0 l0.length c0] w fun e w' => e = .returned (.bool r) ∧ Below w.heap.size w w' := by
 have eg : ∀ args w, (callFunc 100 args).run Try.prog w = .ok (.enter 100 args) w := enters_of Try.func100 (by kernel_rfl) rfl
 unfold impl_bitsValid.f at h
 obtain ⟨ri, hi, h⟩ := Option.bind_eq_some_iff.mp h
 obtain rfl := Option.some.inj h
 have HC := slices_ContainsFunc_int_int_99.calls 100 #[] eg A0 c0 l0 _ ri w hr0 (impl_bitsValid_pred l0 w) hi
 clear hi h hr0 eg
 generalize decide (0 ≤ ri) = b at HC ⊢
 have HC' := Aside0.mk HC
 clear HC
 cases b
 all_goals
  go_enter Try.func66, Try.ntmps66
  go_wp2_with (go_at_call 99; refine HC'.out.mono ?_; rintro e w' ⟨rfl, HB1⟩)
  go_ret
  exact ⟨by first | rfl | simp, HB1⟩

end Go.Proofs.Ytkfmgfdbdgjfiaa.QFnForced
