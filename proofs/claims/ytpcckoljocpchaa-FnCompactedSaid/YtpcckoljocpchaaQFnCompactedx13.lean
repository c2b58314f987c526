-- Written by a program of this session (mk.py). Lean checks it.
import Derived.Test.YtpcckoljocpchaaQFnCompactedx0
import Derived.Test.YtpcckoljocpchaaQFnCompactedx2
import Derived.Test.YtpcckoljocpchaaQFnCompactedx3
import Derived.Test.YtpcckoljocpchaaQFnCompactedx5
import Derived.Test.YtpcckoljocpchaaQFnCompactedx8
import Derived.Test.YtpcckoljocpchaaQFnCompactedx11
import Derived.Test.YtpcckoljocpchaaQFnCompactedx12
namespace Go.Proofs.Ytpcckoljocpchaa.QFnCompacted
open Go.RowKit Go.Proofs.YtpcckoljocpchaaW.PrintWords Go.Proofs.YtpcckoljocpchaaW.PrintLast Go.Proofs.YtpcckoljocpchaaW.PrintMore
attribute [local go_sem] max2_int min2_int max_two min_two max_three min_three max_four min_four   -- for this text's walks alone
set_option linter.unusedVariables false
set_option linter.unusedSimpArgs false

/-! ### laws_FnCompacted: function 9 -/
def laws_FnCompacted.j0 : Nat → Int → Int → Int → Bool → Int → List (S56) → Int → List (S56) → Int → List (S56) → Option (Bool)
 | 0, _, _, _, _, _, _, _, _, _, _ => none
 | k + 1, x4, x6, x8, x44, x313000, x313001, x319000, x319001, x325000, x325001 => if x44 = true then (if x6 = x8 then (if (x319001.length : Int) = (x325001.length : Int) then (some (x6 == (-1))) else (some false)) else (some false)) else ((impl_ForksOf.f k x313000 x313001 x4).bind fun t325 => (if (x319001.length : Int) = t325 then ((impl_DiagramValid.f x319000 x319001).bind fun t326 => (if t326 = true then ((impl_DiagramCount.f k x319000 x319001 x6).bind fun t327 => ((impl_DiagramCount.f k x313000 x313001 x4).bind fun t328 => (if t327 = t328 then ((impl_DiagramRow.f k x319000 x319001 x6).bind fun t329 => ((impl_DiagramRow.f k x313000 x313001 x4).bind fun t332 => ((laws_wcInts.f k t329 t332).bind fun t335 => (some t335)))) else (some false)))) else (some false))) else (some false)))
def laws_FnCompacted.f (k : Nat) (l0 : List Int) : Option (Bool) := if (l0.length : Int) > 1048576 then (some true) else ((spec_DrawCompacted.f k l0).bind fun bt307 => ((impl_Compacted.f k bt307.1 bt307.2.1 bt307.2.2).bind fun bt313 => ((spec_Compacted.f k bt307.1 bt307.2.1 bt307.2.2).bind fun bt319 => (if bt313.2.2 = bt319.2.2 then (if (bt313.2.1.length : Int) = (bt319.2.1.length : Int) then (laws_FnCompacted.j0 k bt307.2.2 bt313.2.2 bt319.2.2 (decide (bt313.2.2 < 0)) bt307.1 bt307.2.1 bt313.1 bt313.2.1 bt319.1 bt319.2.1) else (laws_FnCompacted.j0 k bt307.2.2 bt313.2.2 bt319.2.2 true bt307.1 bt307.2.1 bt313.1 bt313.2.1 bt319.1 bt319.2.1)) else (laws_FnCompacted.j0 k bt307.2.2 bt313.2.2 bt319.2.2 true bt307.1 bt307.2.1 bt313.1 bt313.2.1 bt319.1 bt319.2.1)))))
theorem laws_FnCompacted.mono_l : ∀ k, (∀ y0 y1 y2 y3 y4 y5 y6 y7 y8 y9, LeO (laws_FnCompacted.j0 k y0 y1 y2 y3 y4 y5 y6 y7 y8 y9) (laws_FnCompacted.j0 (k + 1) y0 y1 y2 y3 y4 y5 y6 y7 y8 y9))
 | 0 => fun _ _ _ _ _ _ _ _ _ _ r h => by simp [laws_FnCompacted.j0] at h
 | k + 1 => by
  have ih0 := laws_FnCompacted.mono_l k
  ·intro y0 y1 y2 y3 y4 y5 y6 y7 y8 y9
   unfold laws_FnCompacted.j0
   repeat' first
   | (with_reducible exact ih0 _ _ _ _ _ _ _ _ _ _)
   | (with_reducible exact impl_Compacted.mono _ _ _ _)
   | (with_reducible exact impl_DiagramCount.mono _ _ _ _)
   | (with_reducible exact impl_DiagramRow.mono _ _ _ _)
   | (with_reducible exact impl_ForksOf.mono _ _ _ _)
   | (with_reducible exact laws_wcInts.mono _ _ _)
   | (with_reducible exact spec_Compacted.mono _ _ _ _)
   | (with_reducible exact spec_DrawCompacted.mono _ _)
   | (with_reducible exact LeO.refl _)
   | (with_reducible exact LeO.none _)
   | (with_reducible refine LeO.ite ?_ ?_)
   | (with_reducible refine LeO.bind ?_ (fun _ => ?_))
theorem laws_FnCompacted.mono : ∀ a0 k, LeO (laws_FnCompacted.f k a0) (laws_FnCompacted.f (k + 1) a0) := by
 intro a0 k
 have ih0 := laws_FnCompacted.mono_l k
 unfold laws_FnCompacted.f
 repeat' first
   | (with_reducible exact ih0 _ _ _ _ _ _ _ _ _ _)
   | (with_reducible exact impl_Compacted.mono _ _ _ _)
   | (with_reducible exact impl_DiagramCount.mono _ _ _ _)
   | (with_reducible exact impl_DiagramRow.mono _ _ _ _)
   | (with_reducible exact impl_ForksOf.mono _ _ _ _)
   | (with_reducible exact laws_wcInts.mono _ _ _)
   | (with_reducible exact spec_Compacted.mono _ _ _ _)
   | (with_reducible exact spec_DrawCompacted.mono _ _)
   | (with_reducible exact LeO.refl _)
   | (with_reducible exact LeO.none _)
   | (with_reducible refine LeO.ite ?_ ?_)
   | (with_reducible refine LeO.bind ?_ (fun _ => ?_))
def laws_FnCompacted.T8 : Bool × List (List Nat × List Nat) := (true, [([], []), ([0], [0]), ([1], [1]), ([], []), ([], []), ([3, 4], [3, 4]), ([2, 5], [2, 5]), ([6, 5], [6]), ([7], [7]), ([8, 7, 7], [7, 8]), ([7, 9], [7, 9]), ([10, 9], [10]), ([11], [11]), ([11], [11]), ([12, 13, 11, 11], [11, 12, 13]), ([11], [11]), ([11], [11]), ([15, 16, 14, 11], [11, 15, 16]), ([14, 17, 11], [11, 14, 17]), ([11, 18], [11, 18]), ([19, 17], [19]), ([20], [20]), ([20], [20]), ([21, 22, 20, 20], [20, 21, 22]), ([20], [20]), ([20], [20]), ([24, 25, 23, 20], [20, 24, 25]), ([23, 26, 26, 20], [20, 23, 26]), ([20, 27], [20, 27]), ([28, 27, 0, 1, 2, 3, 4, 5, 6, 7, 8, 9, 10, 11, 12, 13, 14, 15, 16, 17, 18, 19, 20, 21, 22, 23, 24, 25, 26, 27, 28], [28])])
def laws_FnCompacted.B8 : List Nat := [0, 1, 3, 0, 0, 24, 63, 127, 255, 511, 1023, 2047, 4095, 4095, 16383, 4095, 4095, 131071, 262143, 524287, 1048575, 2097151, 2097151, 8388607, 2097151, 2097151, 67108863, 134217727, 268435455, 536870911]
theorem laws_FnCompacted.tab8 : rtab .any (opsOf Try.f9 8) = laws_FnCompacted.T8 := by kernel_rfl
theorem laws_FnCompacted.bits8 : waitsOk laws_FnCompacted.T8.2 laws_FnCompacted.B8 = true := by kernel_rfl
set_option maxHeartbeats 8000000 in
set_option maxRecDepth 100000 in
theorem laws_FnCompacted.calls (k : Nat) (A0 : Option Addr) (c0 : Nat) (l0 : List Int) (r : Bool) (w : World) (hr0 : Kd.C (Kd.int .u8) w A0 l0.length l0) (hc0 : l0.length ≤ c0) (h : laws_FnCompacted.f k l0 = some r) :
  Calls Try.prog 9 #[.slice A0 l0.length c0] w fun e w' => e = .returned (.bool r) ∧ Below w.heap.size w w' := by
 have hu48 := Try.underlying48
 have HR0 := Aside0.mk hr0
 have HC0 := Aside0.mk hc0
 clear hr0 hc0
 have HB := Aside0.mk (Below.refl w.heap.size w)
 have H : (if (l0.length : Int) > 1048576 then (some true) else ((spec_DrawCompacted.f k l0).bind fun bt307 => ((impl_Compacted.f k bt307.1 bt307.2.1 bt307.2.2).bind fun bt313 => ((spec_Compacted.f k bt307.1 bt307.2.1 bt307.2.2).bind fun bt319 => (if bt313.2.2 = bt319.2.2 then (if (bt313.2.1.length : Int) = (bt319.2.1.length : Int) then (laws_FnCompacted.j0 k bt307.2.2 bt313.2.2 bt319.2.2 (decide (bt313.2.2 < 0)) bt307.1 bt307.2.1 bt313.1 bt313.2.1 bt319.1 bt319.2.1) else (laws_FnCompacted.j0 k bt307.2.2 bt313.2.2 bt319.2.2 true bt307.1 bt307.2.1 bt313.1 bt313.2.1 bt319.1 bt319.2.1)) else (laws_FnCompacted.j0 k bt307.2.2 bt313.2.2 bt319.2.2 true bt307.1 bt307.2.1 bt313.1 bt313.2.1 bt319.1 bt319.2.1)))))) = some r := h
 clear h
 by_cases c2 : (l0.length : Int) > 1048576
 ·rw [if_pos c2] at H
  have c2b0 : decide (1048576 < (l0.length : Int)) = true := decide_eq_true c2
  have c2b1 : decide (1048576 < l0.length) = true := decide_eq_true (by omega)
  clear c2
  obtain rfl := Option.some.inj H
  go_enter Try.func9, Try.ntmps9
  go_wp2
  go_ret
  exact ⟨ers, by repeat (first | (with_reducible first | exact HB.out | apply bwA | apply bwN | apply bwD) | exact HB.out)⟩
 ·rw [if_neg c2] at H
  have c2b0 : decide (1048576 < (l0.length : Int)) = false := decide_eq_false c2
  have c2b1 : decide (1048576 < l0.length) = false := decide_eq_false (by omega)
  clear c2
  replace H := Option.bind_eq_some_iff.mp H
  obtain ⟨⟨t307, t308, t311⟩, A30, H⟩ := H
  replace H : ((impl_Compacted.f k t307 t308 t311).bind fun bt313 => ((spec_Compacted.f k t307 t308 t311).bind fun bt319 => (if bt313.2.2 = bt319.2.2 then (if (bt313.2.1.length : Int) = (bt319.2.1.length : Int) then (laws_FnCompacted.j0 k t311 bt313.2.2 bt319.2.2 (decide (bt313.2.2 < 0)) t307 t308 bt313.1 bt313.2.1 bt319.1 bt319.2.1) else (laws_FnCompacted.j0 k t311 bt313.2.2 bt319.2.2 true t307 t308 bt313.1 bt313.2.1 bt319.1 bt319.2.1)) else (laws_FnCompacted.j0 k t311 bt313.2.2 bt319.2.2 true t307 t308 bt313.1 bt313.2.1 bt319.1 bt319.2.1)))) = some r := H
  have A3 := Aside0.mk A30
  clear A30
  replace H := Option.bind_eq_some_iff.mp H
  obtain ⟨⟨t313, t314, t317⟩, A40, H⟩ := H
  replace H : ((spec_Compacted.f k t307 t308 t311).bind fun bt319 => (if t317 = bt319.2.2 then (if (t314.length : Int) = (bt319.2.1.length : Int) then (laws_FnCompacted.j0 k t311 t317 bt319.2.2 (decide (t317 < 0)) t307 t308 t313 t314 bt319.1 bt319.2.1) else (laws_FnCompacted.j0 k t311 t317 bt319.2.2 true t307 t308 t313 t314 bt319.1 bt319.2.1)) else (laws_FnCompacted.j0 k t311 t317 bt319.2.2 true t307 t308 t313 t314 bt319.1 bt319.2.1))) = some r := H
  have A4 := Aside0.mk A40
  clear A40
  replace H := Option.bind_eq_some_iff.mp H
  obtain ⟨⟨t319, t320, t323⟩, A50, H⟩ := H
  replace H : (if t317 = t323 then (if (t314.length : Int) = (t320.length : Int) then (laws_FnCompacted.j0 k t311 t317 t323 (decide (t317 < 0)) t307 t308 t313 t314 t319 t320) else (laws_FnCompacted.j0 k t311 t317 t323 true t307 t308 t313 t314 t319 t320)) else (laws_FnCompacted.j0 k t311 t317 t323 true t307 t308 t313 t314 t319 t320)) = some r := H
  have A5 := Aside0.mk A50
  clear A50
  have HC6 := Aside0.mk H
  clear H
  go_enter Try.func9, Try.ntmps9
  go_upto_region 6 with (first | ((with_reducible refine gate_callee (f := 42) rfl ?_); refine goesL_ (some 14) rfl rfl Try.func42 (by kernel_rfl) rfl #[.slice A0 l0.length c0] rfl lmB ?_; (with_reducible refine (spec_DrawCompacted.calls k _ _ l0 t307 t308 t311 _ ?side1 ?side2 A3.out).mono ?_); (case side1 => repeat (first | exact HR0.out | (with_reducible refine Kd.C_alloc ?_ _) | (with_reducible refine Kd.C_drewN ?_ _) | (with_reducible refine Kd.C_drew ?_))); (case side2 => exact HC0.out); rintro e w7 ⟨v309, rfl, ho0, hb⟩; refine ⟨_, rfl, ?_⟩; have n0_ := Aside0.mk (Kd.R_lower ho0 (below_size (by repeat (first | (with_reducible first | exact HB.out | apply bwA | apply bwN | apply bwD) | exact HB.out)))); have n1_ := Aside0.mk (below_step (by repeat (first | (with_reducible first | exact HB.out | apply bwA | apply bwN | apply bwD) | exact HB.out)) hb); clear HB; have HO310 := n0_; have HB := n1_; clear n0_ n1_; (try clear hb); (try clear hb2); (try clear hk); (try clear hi); (try clear ho0)) | ((with_reducible refine gate_dst (N := 3) rfl ?_); (try (refine gate_guard (by rfl) ?_; dsimp only)); refine box_event ?hg (N := 3) ?hd (cs := #[.int .i64 0, .slice none 0 0]) (t := 48) ?hr ?_; (case hd => rfl); (case hg => rfl); (case hr => first | (go_simp; done) | (go_simp; rfl)); intro gb312 hg w8 hbox hb; have n0_ := Aside0.mk (Kd.R_below (rvR HO310.out) hb); have n1_ := Aside0.mk (below_step (by repeat (first | (with_reducible first | exact HB.out | apply bwA | apply bwN | apply bwD) | exact HB.out)) hb); have n2_ := Aside0.mk (hbox); have n3_ := Aside0.mk ((by rw [hg]; exact (below_size (by repeat (first | (with_reducible first | exact HB.out | apply bwA | apply bwN | apply bwD) | exact HB.out))) : w.heap.size ≤ gb312)); have n4_ := Aside0.mk ((by rw [hg]; exact (below_size (by repeat (first | (with_reducible first | exact HB.out | apply bwA | apply bwN | apply bwD) | exact HB.out))) : w.heap.size ≤ gb312)); clear HO310; clear HB; have HO310 := n0_; have HB := n1_; have BK312 := n2_; have GW312 := n3_; have GE312 := n4_; clear n0_ n1_ n2_ n3_ n4_; clear hb hbox hg; have hcz9_0 : w8.cell? ⟨gb312, 0, none⟩ = some (.int .i64 0) := (blk_cell BK312.out 0).trans rfl; have hcz9_1 : w8.cell? ⟨gb312, 1, none⟩ = some (.slice none 0 0) := (blk_cell BK312.out 1).trans rfl; have hfz9_0 := blk_frozen BK312.out 0; have hfz9_1 := blk_frozen BK312.out 1; obtain ⟨Ao10, co10, eo10⟩ := Kd.R_slice HO310.out; subst eo10) | ((with_reducible refine gate_callee (f := 34) rfl ?_); refine goesL_ (some 20) rfl rfl Try.func34 (by kernel_rfl) rfl #[.agg #[.int .i64 t307, .slice Ao10 t308.length co10], .int .i64 t311] rfl lmB ?_; (with_reducible refine (impl_Compacted.calls k t307 _ _ t308 t311 t313 t314 t317 _ ?side1 ?side2 A4.out).mono ?_); (case side1 => refine (Kd.R_reads' (e := 56) (base := w.heap.size) (ok := fun k_ => True) (n := t308.length) (c := co10) ?_).2.2; exact (by (with_reducible repeat first | apply rvA | apply rvN | apply rvD); exact (Kd.R_mono (Kd.R_far (p := ⟨gb312, 1, none⟩) (Kd.R_far (p := ⟨gb312, 0, none⟩) (Kd.R_types HO310.out BK312.out (by decide)) (fun _ hk => hk.2) (.int .i64 t307)) (fun _ hk => hk.2) (.slice Ao10 t308.length co10)) (fun _ h_ => h_.1)))); (case side2 => exact (Kd.R_reads' HO310.out).2.1); rintro e w11 ⟨v315, rfl, ho0, hb⟩; refine ⟨_, rfl, ?_⟩; have n0_ := Aside0.mk (Kd.R_elder' (by (with_reducible repeat first | apply rvA | apply rvN | apply rvD); exact (Kd.R_mono (Kd.R_far (p := ⟨gb312, 1, none⟩) (Kd.R_far (p := ⟨gb312, 0, none⟩) (Kd.R_types HO310.out BK312.out (by decide)) (fun _ hk => hk.2) (.int .i64 t307)) (fun _ hk => hk.2) (.slice Ao10 t308.length co10)) (fun _ h_ => h_.1))) (Kd.R_base ho0) hb); have n1_ := Aside0.mk (Kd.R_lower (Kd.R_new' ho0 (Kd.R_lt (by (with_reducible repeat first | apply rvA | apply rvN | apply rvD); exact (Kd.R_mono (Kd.R_far (p := ⟨gb312, 1, none⟩) (Kd.R_far (p := ⟨gb312, 0, none⟩) (Kd.R_types HO310.out BK312.out (by decide)) (fun _ hk => hk.2) (.int .i64 t307)) (fun _ hk => hk.2) (.slice Ao10 t308.length co10)) (fun _ h_ => h_.1))))) (below_size (by repeat (first | (with_reducible first | exact HB.out | apply bwA | apply bwN | apply bwD | refine below_set ?_ GE312.out) | exact HB.out)))); have n2_ := Aside0.mk (blk_below (g := gb312) (o := .cells #[.int .i64 t307, .slice Ao10 t308.length co10] 48 (0, 0)) (by (with_reducible repeat first | apply bkN | apply bkD | apply bkA); refine blk_put (cs := #[.int .i64 t307, .slice none 0 0]) ?_ 1 _ rfl; (with_reducible repeat first | apply bkN | apply bkD | apply bkA); refine blk_put (cs := #[.int .i64 0, .slice none 0 0]) ?_ 0 _ rfl; (with_reducible repeat first | apply bkN | apply bkD | apply bkA); exact BK312.out) hb); have n3_ := Aside0.mk (below_step (by repeat (first | (with_reducible first | exact HB.out | apply bwA | apply bwN | apply bwD | refine below_set ?_ GE312.out) | exact HB.out)) hb); clear HO310; clear BK312; clear HB; have HO310 := n0_; have HO316 := n1_; have BK312 := n2_; have HB := n3_; clear n0_ n1_ n2_ n3_; (try clear hb); (try clear hb2); (try clear hk); (try clear hi); (try clear ho0)) | ((with_reducible refine gate_dst (N := 5) rfl ?_); (try (refine gate_guard (by rfl) ?_; dsimp only)); refine box_event ?hg (N := 5) ?hd (cs := #[.int .i64 0, .slice none 0 0]) (t := 48) ?hr ?_; (case hd => rfl); (case hg => rfl); (case hr => first | (go_simp; done) | (go_simp; rfl)); intro gb318 hg w12 hbox hb; have n0_ := Aside0.mk (Kd.R_below (rvR HO310.out) hb); have n1_ := Aside0.mk (Kd.R_below (rvR HO316.out) hb); have n2_ := Aside0.mk (blk_below (g := gb312) (o := .cells #[.int .i64 t307, .slice Ao10 t308.length co10] 48 (0, 0)) (bvK BK312.out) hb); have n3_ := Aside0.mk (below_step (by repeat (first | (with_reducible first | exact HB.out | apply bwA | apply bwN | apply bwD | refine below_set ?_ GE312.out) | exact HB.out)) hb); have n4_ := Aside0.mk (hbox); have n5_ := Aside0.mk ((by rw [hg]; exact (below_size (by repeat (first | (with_reducible first | exact HB.out | apply bwA | apply bwN | apply bwD | refine below_set ?_ GE312.out) | exact HB.out))) : w.heap.size ≤ gb318)); have n6_ := Aside0.mk ((by rw [hg]; exact (below_size (by repeat (first | (with_reducible first | exact HB.out | apply bwA | apply bwN | apply bwD | refine below_set ?_ GE312.out) | exact HB.out))) : w.heap.size ≤ gb318)); have n7_ := Aside0.mk ((by rw [hg]; exact Nat.ne_of_lt (blk_lt (g := gb312) (o := .cells #[.int .i64 t307, .slice Ao10 t308.length co10] 48 (0, 0)) (bvK BK312.out)) : gb312 ≠ gb318)); have n8_ := Aside0.mk ((by rw [hg]; exact Nat.ne_of_gt (blk_lt (g := gb312) (o := .cells #[.int .i64 t307, .slice Ao10 t308.length co10] 48 (0, 0)) (bvK BK312.out)) : gb318 ≠ gb312)); clear HO310; clear HO316; clear BK312; clear HB; have HO310 := n0_; have HO316 := n1_; have BK312 := n2_; have HB := n3_; have BK318 := n4_; have GW318 := n5_; have GE318 := n6_; have NB312_318 := n7_; have NB318_312 := n8_; clear n0_ n1_ n2_ n3_ n4_ n5_ n6_ n7_ n8_; clear hb hbox hg; have hnb13 := NB318_312.out; have hnc13 := NB312_318.out; have hcz14_0 : w12.cell? ⟨gb318, 0, none⟩ = some (.int .i64 0) := (blk_cell BK318.out 0).trans rfl; have hcz14_1 : w12.cell? ⟨gb318, 1, none⟩ = some (.slice none 0 0) := (blk_cell BK318.out 1).trans rfl; have hfz14_0 := blk_frozen BK318.out 0; have hfz14_1 := blk_frozen BK318.out 1; obtain ⟨Ao15, co15, eo15⟩ := Kd.R_slice HO316.out; subst eo15; have hcz16_0 : w12.cell? ⟨gb312, 0, none⟩ = some (.int .i64 t307) := (blk_cell BK312.out 0).trans rfl; have hcz16_1 : w12.cell? ⟨gb312, 1, none⟩ = some (.slice Ao10 t308.length co10) := (blk_cell BK312.out 1).trans rfl; have hfz16_0 := blk_frozen BK312.out 0; have hfz16_1 := blk_frozen BK312.out 1) | ((with_reducible refine gate_callee (f := 37) rfl ?_); refine goesL_ (some 26) rfl rfl Try.func37 (by kernel_rfl) rfl #[.agg #[.int .i64 t307, .slice Ao10 t308.length co10], .int .i64 t311] rfl lmB ?_; (with_reducible refine (spec_Compacted.calls k t307 _ _ t308 t311 t319 t320 t323 _ ?side1 ?side2 A5.out).mono ?_); (case side1 => refine (Kd.R_reads' (e := 56) (base := w.heap.size) (ok := fun k_ => (True ∧ some k_ ≠ (.slice Ao15 t314.length co15 : Value).ownBlock)) (n := t308.length) (c := co10) ?_).2.2; exact (by (with_reducible repeat first | apply rvA | apply rvN | apply rvD); exact (Kd.R_mono (Kd.R_far (p := ⟨gb318, 1, none⟩) (Kd.R_far (p := ⟨gb318, 0, none⟩) (Kd.R_types HO310.out BK318.out (by decide)) (fun _ hk => hk.2) (.int .i64 t313)) (fun _ hk => hk.2) (.slice Ao15 t314.length co15)) (fun _ h_ => h_.1)))); (case side2 => exact (Kd.R_reads' HO310.out).2.1); rintro e w17 ⟨v321, rfl, ho0, hb⟩; refine ⟨_, rfl, ?_⟩; have n0_ := Aside0.mk (Kd.R_elder' (by (with_reducible repeat first | apply rvA | apply rvN | apply rvD); exact (Kd.R_mono (Kd.R_far (p := ⟨gb318, 1, none⟩) (Kd.R_far (p := ⟨gb318, 0, none⟩) (Kd.R_types HO310.out BK318.out (by decide)) (fun _ hk => hk.2) (.int .i64 t313)) (fun _ hk => hk.2) (.slice Ao15 t314.length co15)) (fun _ h_ => h_.1))) (Kd.R_base ho0) hb); have n1_ := Aside0.mk (Kd.R_elder' (by (with_reducible repeat first | apply rvA | apply rvN | apply rvD); exact (Kd.R_mono (Kd.R_far (p := ⟨gb318, 1, none⟩) (Kd.R_far (p := ⟨gb318, 0, none⟩) (Kd.R_types HO316.out BK318.out (by decide)) (fun _ hk => hk.2) (.int .i64 t313)) (fun _ hk => hk.2) (.slice Ao15 t314.length co15)) (fun _ h_ => h_.1))) (Kd.R_base ho0) hb); have n2_ := Aside0.mk (Kd.R_lower (Kd.R_new' (Kd.R_new' ho0 (Kd.R_lt (by (with_reducible repeat first | apply rvA | apply rvN | apply rvD); exact (Kd.R_mono (Kd.R_far (p := ⟨gb318, 1, none⟩) (Kd.R_far (p := ⟨gb318, 0, none⟩) (Kd.R_types HO310.out BK318.out (by decide)) (fun _ hk => hk.2) (.int .i64 t313)) (fun _ hk => hk.2) (.slice Ao15 t314.length co15)) (fun _ h_ => h_.1))))) (Kd.R_lt (by (with_reducible repeat first | apply rvA | apply rvN | apply rvD); exact (Kd.R_mono (Kd.R_far (p := ⟨gb318, 1, none⟩) (Kd.R_far (p := ⟨gb318, 0, none⟩) (Kd.R_types HO316.out BK318.out (by decide)) (fun _ hk => hk.2) (.int .i64 t313)) (fun _ hk => hk.2) (.slice Ao15 t314.length co15)) (fun _ h_ => h_.1))))) (below_size (by repeat (first | (with_reducible first | exact HB.out | apply bwA | apply bwN | apply bwD | refine below_set ?_ GE312.out | refine below_set ?_ GE318.out) | exact HB.out)))); have n3_ := Aside0.mk (blk_below (g := gb312) (o := .cells #[.int .i64 t307, .slice Ao10 t308.length co10] 48 (0, 0)) (by (with_reducible repeat first | apply bkN | apply bkD | apply bkA); refine blk_far ?_ NB312_318.out _; (with_reducible repeat first | apply bkN | apply bkD | apply bkA); refine blk_far ?_ NB312_318.out _; (with_reducible repeat first | apply bkN | apply bkD | apply bkA); exact BK312.out) hb); have n4_ := Aside0.mk (blk_below (g := gb318) (o := .cells #[.int .i64 t313, .slice Ao15 t314.length co15] 48 (0, 0)) (by (with_reducible repeat first | apply bkN | apply bkD | apply bkA); refine blk_put (cs := #[.int .i64 t313, .slice none 0 0]) ?_ 1 _ rfl; (with_reducible repeat first | apply bkN | apply bkD | apply bkA); refine blk_put (cs := #[.int .i64 0, .slice none 0 0]) ?_ 0 _ rfl; (with_reducible repeat first | apply bkN | apply bkD | apply bkA); exact BK318.out) hb); have n5_ := Aside0.mk (below_step (by repeat (first | (with_reducible first | exact HB.out | apply bwA | apply bwN | apply bwD | refine below_set ?_ GE312.out | refine below_set ?_ GE318.out) | exact HB.out)) hb); clear HO310; clear HO316; clear BK312; clear BK318; clear HB; have HO310 := n0_; have HO316 := n1_; have HO322 := n2_; have BK312 := n3_; have BK318 := n4_; have HB := n5_; clear n0_ n1_ n2_ n3_ n4_ n5_; (try clear hb); (try clear hb2); (try clear hk); (try clear hi); (try clear ho0)) | ((with_reducible refine gate_dst (N := 7) rfl ?_); (try (refine gate_guard (by rfl) ?_; dsimp only)); refine box_event ?hg (N := 7) ?hd (cs := #[.int .i64 0, .slice none 0 0]) (t := 48) ?hr ?_; (case hd => rfl); (case hg => rfl); (case hr => first | (go_simp; done) | (go_simp; rfl)); intro gb324 hg w18 hbox hb; have n0_ := Aside0.mk (Kd.R_below (rvR HO310.out) hb); have n1_ := Aside0.mk (Kd.R_below (rvR HO316.out) hb); have n2_ := Aside0.mk (Kd.R_below (rvR HO322.out) hb); have n3_ := Aside0.mk (blk_below (g := gb312) (o := .cells #[.int .i64 t307, .slice Ao10 t308.length co10] 48 (0, 0)) (bvK BK312.out) hb); have n4_ := Aside0.mk (blk_below (g := gb318) (o := .cells #[.int .i64 t313, .slice Ao15 t314.length co15] 48 (0, 0)) (bvK BK318.out) hb); have n5_ := Aside0.mk (below_step (by repeat (first | (with_reducible first | exact HB.out | apply bwA | apply bwN | apply bwD | refine below_set ?_ GE312.out | refine below_set ?_ GE318.out) | exact HB.out)) hb); have n6_ := Aside0.mk (hbox); have n7_ := Aside0.mk ((by rw [hg]; exact (below_size (by repeat (first | (with_reducible first | exact HB.out | apply bwA | apply bwN | apply bwD | refine below_set ?_ GE312.out | refine below_set ?_ GE318.out) | exact HB.out))) : w.heap.size ≤ gb324)); have n8_ := Aside0.mk ((by rw [hg]; exact (below_size (by repeat (first | (with_reducible first | exact HB.out | apply bwA | apply bwN | apply bwD | refine below_set ?_ GE312.out | refine below_set ?_ GE318.out) | exact HB.out))) : w.heap.size ≤ gb324)); have n9_ := Aside0.mk ((by rw [hg]; exact Nat.ne_of_lt (blk_lt (g := gb312) (o := .cells #[.int .i64 t307, .slice Ao10 t308.length co10] 48 (0, 0)) (bvK BK312.out)) : gb312 ≠ gb324)); have n10_ := Aside0.mk ((by rw [hg]; exact Nat.ne_of_gt (blk_lt (g := gb312) (o := .cells #[.int .i64 t307, .slice Ao10 t308.length co10] 48 (0, 0)) (bvK BK312.out)) : gb324 ≠ gb312)); have n11_ := Aside0.mk ((by rw [hg]; exact Nat.ne_of_lt (blk_lt (g := gb318) (o := .cells #[.int .i64 t313, .slice Ao15 t314.length co15] 48 (0, 0)) (bvK BK318.out)) : gb318 ≠ gb324)); have n12_ := Aside0.mk ((by rw [hg]; exact Nat.ne_of_gt (blk_lt (g := gb318) (o := .cells #[.int .i64 t313, .slice Ao15 t314.length co15] 48 (0, 0)) (bvK BK318.out)) : gb324 ≠ gb318)); clear HO310; clear HO316; clear HO322; clear BK312; clear BK318; clear HB; have HO310 := n0_; have HO316 := n1_; have HO322 := n2_; have BK312 := n3_; have BK318 := n4_; have HB := n5_; have BK324 := n6_; have GW324 := n7_; have GE324 := n8_; have NB312_324 := n9_; have NB324_312 := n10_; have NB318_324 := n11_; have NB324_318 := n12_; clear n0_ n1_ n2_ n3_ n4_ n5_ n6_ n7_ n8_ n9_ n10_ n11_ n12_; clear hb hbox hg; have hnb19 := NB324_312.out; have hnc19 := NB312_324.out; have hnb20 := NB324_318.out; have hnc20 := NB318_324.out; have hcz21_0 : w18.cell? ⟨gb324, 0, none⟩ = some (.int .i64 0) := (blk_cell BK324.out 0).trans rfl; have hcz21_1 : w18.cell? ⟨gb324, 1, none⟩ = some (.slice none 0 0) := (blk_cell BK324.out 1).trans rfl; have hfz21_0 := blk_frozen BK324.out 0; have hfz21_1 := blk_frozen BK324.out 1; obtain ⟨Ao22, co22, eo22⟩ := Kd.R_slice HO322.out; subst eo22))
  (try simp only [Act.put, List.setIfInBounds_toArray, List.set_cons_zero, List.set_cons_succ])
  go_cut [44] (fun v44 wc => ∃ (kq : Nat) (x44_5 : Bool), v44 = .bool x44_5 ∧ Aside0 (laws_FnCompacted.j0 kq t311 t317 t323 x44_5 t307 t308 t313 t314 t319 t320 = some r) ∧ Aside0 (kq ≤ k) ∧ Aside0 (Kd.R k56 56 wc w.heap.size (fun k_ => some k_ ≠ ((.slice Ao15 t314.length co15) : Value).ownBlock ∧ some k_ ≠ ((.slice Ao22 t320.length co22) : Value).ownBlock) (.slice Ao10 t308.length co10) t308) ∧ Aside0 (Kd.R k56 56 wc w.heap.size (fun k_ => some k_ ≠ ((.slice Ao10 t308.length co10) : Value).ownBlock ∧ some k_ ≠ ((.slice Ao22 t320.length co22) : Value).ownBlock) (.slice Ao15 t314.length co15) t314) ∧ Aside0 (Kd.R k56 56 wc w.heap.size (fun k_ => some k_ ≠ ((.slice Ao10 t308.length co10) : Value).ownBlock ∧ some k_ ≠ ((.slice Ao15 t314.length co15) : Value).ownBlock) (.slice Ao22 t320.length co22) t320) ∧ Aside0 (wc.heap[gb312]? = some (.cells #[.int .i64 t307, (.slice Ao10 t308.length co10)] 48 (0, 0))) ∧ Aside0 (wc.heap[gb318]? = some (.cells #[.int .i64 t313, (.slice Ao15 t314.length co15)] 48 (0, 0))) ∧ Aside0 (wc.heap[gb324]? = some (.cells #[.int .i64 t319, (.slice Ao22 t320.length co22)] 48 (0, 0))) ∧ Aside0 (Below w.heap.size w wc))
  case first =>
   have H := HC6.out
   clear HC6
   by_cases c23 : t317 = t323
   ·rw [if_pos c23] at H
    have c23b0 : (t317 == t323) = true := beq_iff_eq.mpr c23
    have c23b1 : (t317 != t323) = false := bne_eq_false_iff_eq.mpr c23
    clear c23
    (first | rw [c23b0] | (simp only [i64_w, i32_w]; rw [c23b0]) | skip)
    by_cases c24 : (t314.length : Int) = (t320.length : Int)
    ·rw [if_pos c24] at H
     have c24b0 : ((t314.length : Int) == (t320.length : Int)) = true := beq_iff_eq.mpr c24
     have c24b1 : ((t314.length : Int) != (t320.length : Int)) = false := bne_eq_false_iff_eq.mpr c24
     have c24b2 : (t314.length == t320.length) = true := by first | simpa using c24 | (simp at c24 ⊢; omega)
     clear c24
     have H' := Aside0.mk H
     clear H
     have hnb25 := NB318_312.out
     have hnc25 := NB312_318.out
     have hnb26 := NB318_324.out
     have hnc26 := NB324_318.out
     have hcz27_0 : w18.cell? ⟨gb318, 0, none⟩ = some (.int .i64 t313) := (blk_cell BK318.out 0).trans rfl
     have hcz27_1 : w18.cell? ⟨gb318, 1, none⟩ = some (.slice Ao15 t314.length co15) := (blk_cell BK318.out 1).trans rfl
     have hfz27_0 := blk_frozen BK318.out 0
     have hfz27_1 := blk_frozen BK318.out 1
     have hnb28 := NB324_312.out
     have hnc28 := NB312_324.out
     have hcz29_0 : w18.cell? ⟨gb324, 0, none⟩ = some (.int .i64 0) := (blk_cell BK324.out 0).trans rfl
     have hcz29_1 : w18.cell? ⟨gb324, 1, none⟩ = some (.slice none 0 0) := (blk_cell BK324.out 1).trans rfl
     have hfz29_0 := blk_frozen BK324.out 0
     have hfz29_1 := blk_frozen BK324.out 1
     go_wp2
     go_meet
     case rel => exact ⟨_, (decide (t317 < 0)), rsd, H', ⟨by first | omega | exact Nat.le_refl _⟩, ⟨by (with_reducible repeat first | apply rvA | apply rvN | apply rvD); exact Kd.R_mono (Kd.R_far (p := ⟨gb324, 1, none⟩) (Kd.R_far (p := ⟨gb324, 0, none⟩) (Kd.R_types HO310.out BK324.out (by decide)) (fun _ hk => hk.2) (.int .i64 t319)) (fun _ hk => hk.2) (.slice Ao22 t320.length co22)) (fun _ hk => ⟨hk.1.1.2, hk.1.2⟩)⟩, ⟨by (with_reducible repeat first | apply rvA | apply rvN | apply rvD); exact Kd.R_mono (Kd.R_far (p := ⟨gb324, 1, none⟩) (Kd.R_far (p := ⟨gb324, 0, none⟩) (Kd.R_types HO316.out BK324.out (by decide)) (fun _ hk => hk.2) (.int .i64 t319)) (fun _ hk => hk.2) (.slice Ao22 t320.length co22)) (fun _ hk => ⟨hk.1.1.2, hk.1.2⟩)⟩, ⟨by (with_reducible repeat first | apply rvA | apply rvN | apply rvD); exact Kd.R_mono (Kd.R_far (p := ⟨gb324, 1, none⟩) (Kd.R_far (p := ⟨gb324, 0, none⟩) (Kd.R_types HO322.out BK324.out (by decide)) (fun _ hk => hk.2) (.int .i64 t319)) (fun _ hk => hk.2) (.slice Ao22 t320.length co22)) (fun _ hk => ⟨hk.1.1.2, hk.1.2⟩)⟩, ⟨by (with_reducible repeat first | apply bkN | apply bkD | apply bkA); refine blk_far ?_ NB312_324.out _; (with_reducible repeat first | apply bkN | apply bkD | apply bkA); refine blk_far ?_ NB312_324.out _; (with_reducible repeat first | apply bkN | apply bkD | apply bkA); exact BK312.out⟩, ⟨by (with_reducible repeat first | apply bkN | apply bkD | apply bkA); refine blk_far ?_ NB318_324.out _; (with_reducible repeat first | apply bkN | apply bkD | apply bkA); refine blk_far ?_ NB318_324.out _; (with_reducible repeat first | apply bkN | apply bkD | apply bkA); exact BK318.out⟩, ⟨by (with_reducible repeat first | apply bkN | apply bkD | apply bkA); refine blk_put (cs := #[.int .i64 t319, .slice none 0 0]) ?_ 1 _ rfl; (with_reducible repeat first | apply bkN | apply bkD | apply bkA); refine blk_put (cs := #[.int .i64 0, .slice none 0 0]) ?_ 0 _ rfl; (with_reducible repeat first | apply bkN | apply bkD | apply bkA); exact BK324.out⟩, ⟨by repeat (first | (with_reducible first | exact HB.out | apply bwA | apply bwN | apply bwD | refine below_set ?_ GE312.out | refine below_set ?_ GE318.out | refine below_set ?_ GE324.out) | exact HB.out)⟩⟩
    ·rw [if_neg c24] at H
     have c24b0 : ((t314.length : Int) == (t320.length : Int)) = false := beq_eq_false_iff_ne.mpr c24
     have c24b1 : ((t314.length : Int) != (t320.length : Int)) = true := bne_iff_ne.mpr c24
     have c24b2 : (t314.length == t320.length) = false := by first | simpa using c24 | (simp at c24 ⊢; omega)
     have H' := Aside0.mk H
     clear H
     have hnb30 := NB318_312.out
     have hnc30 := NB312_318.out
     have hnb31 := NB318_324.out
     have hnc31 := NB324_318.out
     have hcz32_0 : w18.cell? ⟨gb318, 0, none⟩ = some (.int .i64 t313) := (blk_cell BK318.out 0).trans rfl
     have hcz32_1 : w18.cell? ⟨gb318, 1, none⟩ = some (.slice Ao15 t314.length co15) := (blk_cell BK318.out 1).trans rfl
     have hfz32_0 := blk_frozen BK318.out 0
     have hfz32_1 := blk_frozen BK318.out 1
     have hnb33 := NB324_312.out
     have hnc33 := NB312_324.out
     have hcz34_0 : w18.cell? ⟨gb324, 0, none⟩ = some (.int .i64 0) := (blk_cell BK324.out 0).trans rfl
     have hcz34_1 : w18.cell? ⟨gb324, 1, none⟩ = some (.slice none 0 0) := (blk_cell BK324.out 1).trans rfl
     have hfz34_0 := blk_frozen BK324.out 0
     have hfz34_1 := blk_frozen BK324.out 1
     go_wp2
     go_meet
     case rel => exact ⟨_, (true), rsd, H', ⟨by first | omega | exact Nat.le_refl _⟩, ⟨by (with_reducible repeat first | apply rvA | apply rvN | apply rvD); exact Kd.R_mono (Kd.R_far (p := ⟨gb324, 1, none⟩) (Kd.R_far (p := ⟨gb324, 0, none⟩) (Kd.R_types HO310.out BK324.out (by decide)) (fun _ hk => hk.2) (.int .i64 t319)) (fun _ hk => hk.2) (.slice Ao22 t320.length co22)) (fun _ hk => ⟨hk.1.1.2, hk.1.2⟩)⟩, ⟨by (with_reducible repeat first | apply rvA | apply rvN | apply rvD); exact Kd.R_mono (Kd.R_far (p := ⟨gb324, 1, none⟩) (Kd.R_far (p := ⟨gb324, 0, none⟩) (Kd.R_types HO316.out BK324.out (by decide)) (fun _ hk => hk.2) (.int .i64 t319)) (fun _ hk => hk.2) (.slice Ao22 t320.length co22)) (fun _ hk => ⟨hk.1.1.2, hk.1.2⟩)⟩, ⟨by (with_reducible repeat first | apply rvA | apply rvN | apply rvD); exact Kd.R_mono (Kd.R_far (p := ⟨gb324, 1, none⟩) (Kd.R_far (p := ⟨gb324, 0, none⟩) (Kd.R_types HO322.out BK324.out (by decide)) (fun _ hk => hk.2) (.int .i64 t319)) (fun _ hk => hk.2) (.slice Ao22 t320.length co22)) (fun _ hk => ⟨hk.1.1.2, hk.1.2⟩)⟩, ⟨by (with_reducible repeat first | apply bkN | apply bkD | apply bkA); refine blk_far ?_ NB312_324.out _; (with_reducible repeat first | apply bkN | apply bkD | apply bkA); refine blk_far ?_ NB312_324.out _; (with_reducible repeat first | apply bkN | apply bkD | apply bkA); exact BK312.out⟩, ⟨by (with_reducible repeat first | apply bkN | apply bkD | apply bkA); refine blk_far ?_ NB318_324.out _; (with_reducible repeat first | apply bkN | apply bkD | apply bkA); refine blk_far ?_ NB318_324.out _; (with_reducible repeat first | apply bkN | apply bkD | apply bkA); exact BK318.out⟩, ⟨by (with_reducible repeat first | apply bkN | apply bkD | apply bkA); refine blk_put (cs := #[.int .i64 t319, .slice none 0 0]) ?_ 1 _ rfl; (with_reducible repeat first | apply bkN | apply bkD | apply bkA); refine blk_put (cs := #[.int .i64 0, .slice none 0 0]) ?_ 0 _ rfl; (with_reducible repeat first | apply bkN | apply bkD | apply bkA); exact BK324.out⟩, ⟨by repeat (first | (with_reducible first | exact HB.out | apply bwA | apply bwN | apply bwD | refine below_set ?_ GE312.out | refine below_set ?_ GE318.out | refine below_set ?_ GE324.out) | exact HB.out)⟩⟩
   ·rw [if_neg c23] at H
    have c23b0 : (t317 == t323) = false := beq_eq_false_iff_ne.mpr c23
    have c23b1 : (t317 != t323) = true := bne_iff_ne.mpr c23
    (first | rw [c23b0] | (simp only [i64_w, i32_w]; rw [c23b0]) | skip)
    have H' := Aside0.mk H
    clear H
    go_wp2
    go_meet
    case rel => exact ⟨_, (true), rsd, H', ⟨by first | omega | exact Nat.le_refl _⟩, ⟨by (with_reducible repeat first | apply rvA | apply rvN | apply rvD); exact Kd.R_mono (Kd.R_far (p := ⟨gb324, 1, none⟩) (Kd.R_far (p := ⟨gb324, 0, none⟩) (Kd.R_types HO310.out BK324.out (by decide)) (fun _ hk => hk.2) (.int .i64 t319)) (fun _ hk => hk.2) (.slice Ao22 t320.length co22)) (fun _ hk => ⟨hk.1.1.2, hk.1.2⟩)⟩, ⟨by (with_reducible repeat first | apply rvA | apply rvN | apply rvD); exact Kd.R_mono (Kd.R_far (p := ⟨gb324, 1, none⟩) (Kd.R_far (p := ⟨gb324, 0, none⟩) (Kd.R_types HO316.out BK324.out (by decide)) (fun _ hk => hk.2) (.int .i64 t319)) (fun _ hk => hk.2) (.slice Ao22 t320.length co22)) (fun _ hk => ⟨hk.1.1.2, hk.1.2⟩)⟩, ⟨by (with_reducible repeat first | apply rvA | apply rvN | apply rvD); exact Kd.R_mono (Kd.R_far (p := ⟨gb324, 1, none⟩) (Kd.R_far (p := ⟨gb324, 0, none⟩) (Kd.R_types HO322.out BK324.out (by decide)) (fun _ hk => hk.2) (.int .i64 t319)) (fun _ hk => hk.2) (.slice Ao22 t320.length co22)) (fun _ hk => ⟨hk.1.1.2, hk.1.2⟩)⟩, ⟨by (with_reducible repeat first | apply bkN | apply bkD | apply bkA); refine blk_far ?_ NB312_324.out _; (with_reducible repeat first | apply bkN | apply bkD | apply bkA); refine blk_far ?_ NB312_324.out _; (with_reducible repeat first | apply bkN | apply bkD | apply bkA); exact BK312.out⟩, ⟨by (with_reducible repeat first | apply bkN | apply bkD | apply bkA); refine blk_far ?_ NB318_324.out _; (with_reducible repeat first | apply bkN | apply bkD | apply bkA); refine blk_far ?_ NB318_324.out _; (with_reducible repeat first | apply bkN | apply bkD | apply bkA); exact BK318.out⟩, ⟨by (with_reducible repeat first | apply bkN | apply bkD | apply bkA); refine blk_put (cs := #[.int .i64 t319, .slice none 0 0]) ?_ 1 _ rfl; (with_reducible repeat first | apply bkN | apply bkD | apply bkA); refine blk_put (cs := #[.int .i64 0, .slice none 0 0]) ?_ 0 _ rfl; (with_reducible repeat first | apply bkN | apply bkD | apply bkA); exact BK324.out⟩, ⟨by repeat (first | (with_reducible first | exact HB.out | apply bwA | apply bwN | apply bwD | refine below_set ?_ GE312.out | refine below_set ?_ GE318.out | refine below_set ?_ GE324.out) | exact HB.out)⟩⟩
  case rest =>
   clear HC6
   try clear c1
   try clear c2
   try clear c2b0
   try clear c2b1
   try clear p2
   try clear c3
   try clear c4
   try clear c9
   try clear c13
   try clear c19
   try clear c20
   try clear c23
   try clear c23b0
   try clear c23b1
   try clear c24
   try clear c24b0
   try clear c24b1
   try clear c24b2
   try clear c25
   try clear c26
   try clear c28
   try clear c30
   try clear c31
   try clear c33
   try clear c34
   try clear hcz14_0
   try clear hcz14_1
   try clear hcz16_0
   try clear hcz16_1
   try clear hcz21_0
   try clear hcz21_1
   try clear hcz27_0
   try clear hcz27_1
   try clear hcz29_0
   try clear hcz29_1
   try clear hcz32_0
   try clear hcz32_1
   try clear hcz34_0
   try clear hcz34_1
   try clear hcz9_0
   try clear hcz9_1
   try clear hfz14_0
   try clear hfz14_1
   try clear hfz16_0
   try clear hfz16_1
   try clear hfz21_0
   try clear hfz21_1
   try clear hfz27_0
   try clear hfz27_1
   try clear hfz29_0
   try clear hfz29_1
   try clear hfz32_0
   try clear hfz32_1
   try clear hfz34_0
   try clear hfz34_1
   try clear hfz9_0
   try clear hfz9_1
   obtain ⟨kq, x44_5, rfl, HA, HJ5, HO_313001, HO_319001, HO_325001, BK312, BK318, BK324, HB⟩ := hcut
   cases kq with
   | zero => exact absurd HA.out (by simp [laws_FnCompacted.j0])
   | succ kj5 =>
    have H := HA.out
    clear HA
    simp only [laws_FnCompacted.j0] at H
    by_cases c35 : x44_5 = true
    ·subst c35
     have H1 : (if t317 = t323 then (if (t314.length : Int) = (t320.length : Int) then (some (t317 == (-1))) else (some false)) else (some false)) = some r := by rw [if_pos rfl] at H; exact H
     clear H
     have H := H1
     clear H1
     by_cases c36 : t317 = t323
     ·rw [if_pos c36] at H
      have c36b0 : (t317 == t323) = true := beq_iff_eq.mpr c36
      have c36b1 : (t317 != t323) = false := bne_eq_false_iff_eq.mpr c36
      clear c36
      by_cases c37 : (t314.length : Int) = (t320.length : Int)
      ·rw [if_pos c37] at H
       have c37b0 : ((t314.length : Int) == (t320.length : Int)) = true := beq_iff_eq.mpr c37
       have c37b1 : ((t314.length : Int) != (t320.length : Int)) = false := bne_eq_false_iff_eq.mpr c37
       have c37b2 : (t314.length == t320.length) = true := by first | simpa using c37 | (simp at c37 ⊢; omega)
       clear c37
       obtain rfl := Option.some.inj H
       have hnb38 := NB318_312.out
       have hnc38 := NB312_318.out
       have hnb39 := NB318_324.out
       have hnc39 := NB324_318.out
       have hcz40_0 : wc.cell? ⟨gb318, 0, none⟩ = some (.int .i64 t313) := (blk_cell BK318.out 0).trans rfl
       have hcz40_1 : wc.cell? ⟨gb318, 1, none⟩ = some (.slice Ao15 t314.length co15) := (blk_cell BK318.out 1).trans rfl
       have hfz40_0 := blk_frozen BK318.out 0
       have hfz40_1 := blk_frozen BK318.out 1
       have hnb41 := NB324_312.out
       have hnc41 := NB312_324.out
       have hcz42_0 : wc.cell? ⟨gb324, 0, none⟩ = some (.int .i64 t319) := (blk_cell BK324.out 0).trans rfl
       have hcz42_1 : wc.cell? ⟨gb324, 1, none⟩ = some (.slice Ao22 t320.length co22) := (blk_cell BK324.out 1).trans rfl
       have hfz42_0 := blk_frozen BK324.out 0
       have hfz42_1 := blk_frozen BK324.out 1
       go_wp2
       go_ret
       exact ⟨ers, by repeat (first | (with_reducible first | exact HB.out | apply bwA | apply bwN | apply bwD | refine below_set ?_ GE312.out | refine below_set ?_ GE318.out | refine below_set ?_ GE324.out) | exact HB.out)⟩
      ·rw [if_neg c37] at H
       have c37b0 : ((t314.length : Int) == (t320.length : Int)) = false := beq_eq_false_iff_ne.mpr c37
       have c37b1 : ((t314.length : Int) != (t320.length : Int)) = true := bne_iff_ne.mpr c37
       have c37b2 : (t314.length == t320.length) = false := by first | simpa using c37 | (simp at c37 ⊢; omega)
       obtain rfl := Option.some.inj H
       have hnb43 := NB318_312.out
       have hnc43 := NB312_318.out
       have hnb44 := NB318_324.out
       have hnc44 := NB324_318.out
       have hcz45_0 : wc.cell? ⟨gb318, 0, none⟩ = some (.int .i64 t313) := (blk_cell BK318.out 0).trans rfl
       have hcz45_1 : wc.cell? ⟨gb318, 1, none⟩ = some (.slice Ao15 t314.length co15) := (blk_cell BK318.out 1).trans rfl
       have hfz45_0 := blk_frozen BK318.out 0
       have hfz45_1 := blk_frozen BK318.out 1
       have hnb46 := NB324_312.out
       have hnc46 := NB312_324.out
       have hcz47_0 : wc.cell? ⟨gb324, 0, none⟩ = some (.int .i64 t319) := (blk_cell BK324.out 0).trans rfl
       have hcz47_1 : wc.cell? ⟨gb324, 1, none⟩ = some (.slice Ao22 t320.length co22) := (blk_cell BK324.out 1).trans rfl
       have hfz47_0 := blk_frozen BK324.out 0
       have hfz47_1 := blk_frozen BK324.out 1
       go_wp2
       go_ret
       exact ⟨ers, by repeat (first | (with_reducible first | exact HB.out | apply bwA | apply bwN | apply bwD | refine below_set ?_ GE312.out | refine below_set ?_ GE318.out | refine below_set ?_ GE324.out) | exact HB.out)⟩
     ·rw [if_neg c36] at H
      have c36b0 : (t317 == t323) = false := beq_eq_false_iff_ne.mpr c36
      have c36b1 : (t317 != t323) = true := bne_iff_ne.mpr c36
      obtain rfl := Option.some.inj H
      go_wp2
      go_ret
      exact ⟨ers, by repeat (first | (with_reducible first | exact HB.out | apply bwA | apply bwN | apply bwD | refine below_set ?_ GE312.out | refine below_set ?_ GE318.out | refine below_set ?_ GE324.out) | exact HB.out)⟩
    ·replace c35 := Bool.eq_false_iff.mpr c35
     subst c35
     have H1 : ((impl_ForksOf.f kj5 t307 t308 t311).bind fun t325 => (if (t314.length : Int) = t325 then ((impl_DiagramValid.f t313 t314).bind fun t326 => (if t326 = true then ((impl_DiagramCount.f kj5 t313 t314 t317).bind fun t327 => ((impl_DiagramCount.f kj5 t307 t308 t311).bind fun t328 => (if t327 = t328 then ((impl_DiagramRow.f kj5 t313 t314 t317).bind fun t329 => ((impl_DiagramRow.f kj5 t307 t308 t311).bind fun t332 => ((laws_wcInts.f kj5 t329 t332).bind fun t335 => (some t335)))) else (some false)))) else (some false))) else (some false))) = some r := by rw [if_neg (show ¬ (false = true) by decide)] at H; exact H
     clear H
     have H := H1
     clear H1
     replace H := Option.bind_eq_some_iff.mp H
     obtain ⟨t325, A480, H⟩ := H
     replace H : (if (t314.length : Int) = t325 then ((impl_DiagramValid.f t313 t314).bind fun t326 => (if t326 = true then ((impl_DiagramCount.f kj5 t313 t314 t317).bind fun t327 => ((impl_DiagramCount.f kj5 t307 t308 t311).bind fun t328 => (if t327 = t328 then ((impl_DiagramRow.f kj5 t313 t314 t317).bind fun t329 => ((impl_DiagramRow.f kj5 t307 t308 t311).bind fun t332 => ((laws_wcInts.f kj5 t329 t332).bind fun t335 => (some t335)))) else (some false)))) else (some false))) else (some false)) = some r := H
     have A48 := Aside0.mk A480
     clear A480
     by_cases c49 : (t314.length : Int) = t325
     ·rw [if_pos c49] at H
      have c49b0 : ((t314.length : Int) == t325) = true := beq_iff_eq.mpr c49
      have c49b1 : ((t314.length : Int) != t325) = false := bne_eq_false_iff_eq.mpr c49
      clear c49
      replace H := Option.bind_eq_some_iff.mp H
      obtain ⟨t326, A500, H⟩ := H
      replace H : (if t326 = true then ((impl_DiagramCount.f kj5 t313 t314 t317).bind fun t327 => ((impl_DiagramCount.f kj5 t307 t308 t311).bind fun t328 => (if t327 = t328 then ((impl_DiagramRow.f kj5 t313 t314 t317).bind fun t329 => ((impl_DiagramRow.f kj5 t307 t308 t311).bind fun t332 => ((laws_wcInts.f kj5 t329 t332).bind fun t335 => (some t335)))) else (some false)))) else (some false)) = some r := H
      have A50 := Aside0.mk A500
      clear A500
      by_cases c51 : t326 = true
      ·subst c51
       have H1 : ((impl_DiagramCount.f kj5 t313 t314 t317).bind fun t327 => ((impl_DiagramCount.f kj5 t307 t308 t311).bind fun t328 => (if t327 = t328 then ((impl_DiagramRow.f kj5 t313 t314 t317).bind fun t329 => ((impl_DiagramRow.f kj5 t307 t308 t311).bind fun t332 => ((laws_wcInts.f kj5 t329 t332).bind fun t335 => (some t335)))) else (some false)))) = some r := by rw [if_pos rfl] at H; exact H
       clear H
       have H := H1
       clear H1
       replace H := Option.bind_eq_some_iff.mp H
       obtain ⟨t327, A520, H⟩ := H
       replace H : ((impl_DiagramCount.f kj5 t307 t308 t311).bind fun t328 => (if t327 = t328 then ((impl_DiagramRow.f kj5 t313 t314 t317).bind fun t329 => ((impl_DiagramRow.f kj5 t307 t308 t311).bind fun t332 => ((laws_wcInts.f kj5 t329 t332).bind fun t335 => (some t335)))) else (some false))) = some r := H
       have A52 := Aside0.mk A520
       clear A520
       replace H := Option.bind_eq_some_iff.mp H
       obtain ⟨t328, A530, H⟩ := H
       replace H : (if t327 = t328 then ((impl_DiagramRow.f kj5 t313 t314 t317).bind fun t329 => ((impl_DiagramRow.f kj5 t307 t308 t311).bind fun t332 => ((laws_wcInts.f kj5 t329 t332).bind fun t335 => (some t335)))) else (some false)) = some r := H
       have A53 := Aside0.mk A530
       clear A530
       by_cases c54 : t327 = t328
       ·rw [if_pos c54] at H
        have c54b0 : (t327 == t328) = true := beq_iff_eq.mpr c54
        have c54b1 : (t327 != t328) = false := bne_eq_false_iff_eq.mpr c54
        clear c54
        replace H := Option.bind_eq_some_iff.mp H
        obtain ⟨t329, A550, H⟩ := H
        replace H : ((impl_DiagramRow.f kj5 t307 t308 t311).bind fun t332 => ((laws_wcInts.f kj5 t329 t332).bind fun t335 => (some t335))) = some r := H
        have A55 := Aside0.mk A550
        clear A550
        replace H := Option.bind_eq_some_iff.mp H
        obtain ⟨t332, A560, H⟩ := H
        replace H : ((laws_wcInts.f kj5 t329 t332).bind fun t335 => (some t335)) = some r := H
        have A56 := Aside0.mk A560
        clear A560
        replace H := Option.bind_eq_some_iff.mp H
        obtain ⟨t335, A570, H⟩ := H
        replace H : (some t335) = some r := H
        have A57 := Aside0.mk A570
        clear A570
        obtain rfl := Option.some.inj H
        try go_wp2
        have n0_ := Aside0.mk (Kd.R_drew HO_313001.out)
        have n1_ := Aside0.mk (Kd.R_drew HO_319001.out)
        have n2_ := Aside0.mk (Kd.R_drew HO_325001.out)
        have n3_ := Aside0.mk (blk_drew BK312.out)
        have n4_ := Aside0.mk (blk_drew BK318.out)
        have n5_ := Aside0.mk (blk_drew BK324.out)
        have n6_ := Aside0.mk (below_drew1 HB.out)
        clear HO_313001
        clear HO_319001
        clear HO_325001
        clear BK312
        clear BK318
        clear BK324
        clear HB
        have HO_313001 := n0_
        have HO_319001 := n1_
        have HO_325001 := n2_
        have BK312 := n3_
        have BK318 := n4_
        have BK324 := n5_
        have HB := n6_
        clear n0_ n1_ n2_ n3_ n4_ n5_ n6_
        refine start_ (n := 30) (S := fun w' => w'.cell? ⟨gb318, 0, none⟩ = some (.int .i64 t313) ∧ w'.cell? ⟨gb318, 1, none⟩ = some (.slice Ao15 t314.length co15) ∧ w'.cell? ⟨gb312, 0, none⟩ = some (.int .i64 t307) ∧ w'.cell? ⟨gb312, 1, none⟩ = some (.slice Ao10 t308.length co10)) (ds := []) (Pt.bm 30 0) (by kernel_rfl) rfl rfl ⟨(blk_cell BK318.out 0).trans rfl, (blk_cell BK318.out 1).trans rfl, (blk_cell BK312.out 0).trans rfl, (blk_cell BK312.out 1).trans rfl⟩ (fun hHeld => ?_); refine with_tabW laws_FnCompacted.tab8 laws_FnCompacted.bits8 (fun HT_ HW_ => ?_)
        generalize wc.drew = w58 at HO_313001 HO_319001 HO_325001 BK312 BK318 BK324 HB hHeld ⊢
        refine Pt.pu 0 (some 61) (Pt.bm 30 1) (any_of HT_.out (by kernel_rfl)) ?_
        refine Pt.pu 4 (some 65) (Pt.bm 30 17) (any_of HT_.out (by kernel_rfl)) ?_
        refine Pt.tk 1 (some 62) (Pt.bm 30 19) rfl rfl (take_ofW HT_.out HW_.out (by kernel_rfl)) hHeld (Or.inl ⟨by rfl, by rintro w' ⟨s0, s1, s2, s3⟩; go_simp; with_reducible rfl⟩) ?_
        refine Pt.pu 2 (some 63) (Pt.bm 30 23) (any_of HT_.out (by kernel_rfl)) ?_
        refine Pt.tk 3 (some 64) (Pt.bm 30 31) rfl rfl (take_ofW HT_.out HW_.out (by kernel_rfl)) hHeld (Or.inl ⟨by rfl, by rintro w' ⟨s0, s1, s2, s3⟩; go_simp; with_reducible rfl⟩) ?_
        refine one_ (i := 5) (N := some 66) (Pt.bm 30 63) rfl rfl (one_of HT_.out (by kernel_rfl)) (by decide) (fun K hK => ?_)
        refine goes_ Try.func43 (by kernel_rfl) rfl #[.agg #[.int .i64 t307, .slice Ao10 t308.length co10], .int .i64 t311] (by rfl) rfl rfl lmB ?_
        with_reducible refine (impl_ForksOf.calls kj5 t307 _ _ t308 t311 t325 _ ?side1 ?side2 A48.out).mono ?_
        (case side1 => repeat (first | exact (Kd.R_reads' HO_313001.out).2.2 | (with_reducible refine Kd.C_alloc ?_ _) | (with_reducible refine Kd.C_drewN ?_ _) | (with_reducible refine Kd.C_drew ?_)))
        (case side2 => exact (Kd.R_reads' HO_313001.out).2.1)
        rintro e w59 ⟨rfl, hb⟩
        refine ⟨_, rfl, ?_⟩
        have n0_ := Aside0.mk (Kd.R_below (rvR HO_313001.out) hb)
        have n1_ := Aside0.mk (Kd.R_below (rvR HO_319001.out) hb)
        have n2_ := Aside0.mk (Kd.R_below (rvR HO_325001.out) hb)
        have n3_ := Aside0.mk (blk_below (g := gb312) (o := .cells #[.int .i64 t307, .slice Ao10 t308.length co10] 48 (0, 0)) (bvK BK312.out) hb)
        have n4_ := Aside0.mk (blk_below (g := gb318) (o := .cells #[.int .i64 t313, .slice Ao15 t314.length co15] 48 (0, 0)) (bvK BK318.out) hb)
        have n5_ := Aside0.mk (blk_below (g := gb324) (o := .cells #[.int .i64 t319, .slice Ao22 t320.length co22] 48 (0, 0)) (bvK BK324.out) hb)
        have n6_ := Aside0.mk (below_step (by repeat (first | (with_reducible first | exact HB.out | apply bwA | apply bwN | apply bwD | refine below_set ?_ GE312.out | refine below_set ?_ GE318.out | refine below_set ?_ GE324.out) | exact HB.out)) hb)
        clear HO_313001
        clear HO_319001
        clear HO_325001
        clear BK312
        clear BK318
        clear BK324
        clear HB
        have HO_313001 := n0_
        have HO_319001 := n1_
        have HO_325001 := n2_
        have BK312 := n3_
        have BK318 := n4_
        have BK324 := n5_
        have HB := n6_
        clear n0_ n1_ n2_ n3_ n4_ n5_ n6_
        (try clear hb)
        (try clear hb2)
        (try clear hk)
        (try clear hi)
        refine hK.out _ _ ⟨(blk_cell BK318.out 0).trans rfl, (blk_cell BK318.out 1).trans rfl, (blk_cell BK312.out 0).trans rfl, (blk_cell BK312.out 1).trans rfl⟩ (fun hHeld => ?_)
        clear hK K
        refine norm_ (a' := ?_) ?_ ?_
        rotate_left
        ·show Act.put _ (some 66) _ = _
         simp only [Act.put, List.setIfInBounds_toArray, List.set_cons_zero, List.set_cons_succ, i64_w, i32_w]
         rfl
        refine Pt.pu 6 (some 67) (Pt.bm 30 127) (any_of HT_.out (by kernel_rfl)) ?_
        refine Pt.pu 7 (some 68) (Pt.bm 30 255) (any_of HT_.out (by kernel_rfl)) ?_
        refine Pt.tk 8 (some 69) (Pt.bm 30 511) rfl rfl (take_ofW HT_.out HW_.out (by kernel_rfl)) hHeld (Or.inl ⟨by rfl, by rintro w' ⟨s0, s1, s2, s3⟩; go_simp; with_reducible rfl⟩) ?_
        refine one_ (i := 9) (N := some 70) (Pt.bm 30 1023) rfl rfl (one_of HT_.out (by kernel_rfl)) (by decide) (fun K hK => ?_)
        refine goes_ Try.func44 (by kernel_rfl) rfl #[.agg #[.int .i64 t313, .slice Ao15 t314.length co15]] (by rfl) rfl rfl lmB ?_
        with_reducible refine (impl_DiagramValid.calls t313 _ _ t314 true _ ?side1 ?side2 A50.out).mono ?_
        (case side1 => repeat (first | exact (Kd.R_reads' HO_319001.out).2.2 | (with_reducible refine Kd.C_alloc ?_ _) | (with_reducible refine Kd.C_drewN ?_ _) | (with_reducible refine Kd.C_drew ?_)))
        (case side2 => exact (Kd.R_reads' HO_319001.out).2.1)
        rintro e w60 ⟨rfl, hb⟩
        refine ⟨_, rfl, ?_⟩
        have n0_ := Aside0.mk (Kd.R_below (rvR HO_313001.out) hb)
        have n1_ := Aside0.mk (Kd.R_below (rvR HO_319001.out) hb)
        have n2_ := Aside0.mk (Kd.R_below (rvR HO_325001.out) hb)
        have n3_ := Aside0.mk (blk_below (g := gb312) (o := .cells #[.int .i64 t307, .slice Ao10 t308.length co10] 48 (0, 0)) (bvK BK312.out) hb)
        have n4_ := Aside0.mk (blk_below (g := gb318) (o := .cells #[.int .i64 t313, .slice Ao15 t314.length co15] 48 (0, 0)) (bvK BK318.out) hb)
        have n5_ := Aside0.mk (blk_below (g := gb324) (o := .cells #[.int .i64 t319, .slice Ao22 t320.length co22] 48 (0, 0)) (bvK BK324.out) hb)
        have n6_ := Aside0.mk (below_step (by repeat (first | (with_reducible first | exact HB.out | apply bwA | apply bwN | apply bwD | refine below_set ?_ GE312.out | refine below_set ?_ GE318.out | refine below_set ?_ GE324.out) | exact HB.out)) hb)
        clear HO_313001
        clear HO_319001
        clear HO_325001
        clear BK312
        clear BK318
        clear BK324
        clear HB
        have HO_313001 := n0_
        have HO_319001 := n1_
        have HO_325001 := n2_
        have BK312 := n3_
        have BK318 := n4_
        have BK324 := n5_
        have HB := n6_
        clear n0_ n1_ n2_ n3_ n4_ n5_ n6_
        (try clear hb)
        (try clear hb2)
        (try clear hk)
        (try clear hi)
        refine hK.out _ _ ⟨(blk_cell BK318.out 0).trans rfl, (blk_cell BK318.out 1).trans rfl, (blk_cell BK312.out 0).trans rfl, (blk_cell BK312.out 1).trans rfl⟩ (fun hHeld => ?_)
        clear hK K
        refine norm_ (a' := ?_) ?_ ?_
        rotate_left
        ·show Act.put _ (some 70) _ = _
         simp only [Act.put, List.setIfInBounds_toArray, List.set_cons_zero, List.set_cons_succ, i64_w, i32_w]
         rfl
        refine Pt.pu 10 (some 71) (Pt.bm 30 2047) (any_of HT_.out (by kernel_rfl)) ?_
        refine Pt.pu 11 (some 72) (Pt.bm 30 4095) (any_of HT_.out (by kernel_rfl)) ?_
        refine Pt.pu 13 (some 74) (Pt.bm 30 12287) (any_of HT_.out (by kernel_rfl)) ?_
        refine Pt.pu 16 (some 77) (Pt.bm 30 77823) (any_of HT_.out (by kernel_rfl)) ?_
        refine Pt.tk 12 (some 73) (Pt.bm 30 81919) rfl rfl (take_ofW HT_.out HW_.out (by kernel_rfl)) hHeld (Or.inl ⟨by rfl, by rintro w' ⟨s0, s1, s2, s3⟩; go_simp; with_reducible rfl⟩) ?_
        refine Pt.tk 15 (some 76) (Pt.bm 30 114687) rfl rfl (take_ofW HT_.out HW_.out (by kernel_rfl)) hHeld (Or.inl ⟨by rfl, by rintro w' ⟨s0, s1, s2, s3⟩; go_simp; with_reducible rfl⟩) ?_
        refine one_ (i := 14) (N := some 75) (Pt.bm 30 131071) rfl rfl (one_of HT_.out (by kernel_rfl)) (by decide) (fun K hK => ?_)
        refine goes_ Try.func45 (by kernel_rfl) rfl #[.agg #[.int .i64 t313, .slice Ao15 t314.length co15], .int .i64 t317] (by rfl) rfl rfl lmB ?_
        with_reducible refine (impl_DiagramCount.calls kj5 t313 _ _ t314 t317 t327 _ ?side1 ?side2 A52.out).mono ?_
        (case side1 => repeat (first | exact (Kd.R_reads' HO_319001.out).2.2 | (with_reducible refine Kd.C_alloc ?_ _) | (with_reducible refine Kd.C_drewN ?_ _) | (with_reducible refine Kd.C_drew ?_)))
        (case side2 => exact (Kd.R_reads' HO_319001.out).2.1)
        rintro e w61 ⟨rfl, hb⟩
        refine ⟨_, rfl, ?_⟩
        have n0_ := Aside0.mk (Kd.R_below (rvR HO_313001.out) hb)
        have n1_ := Aside0.mk (Kd.R_below (rvR HO_319001.out) hb)
        have n2_ := Aside0.mk (Kd.R_below (rvR HO_325001.out) hb)
        have n3_ := Aside0.mk (blk_below (g := gb312) (o := .cells #[.int .i64 t307, .slice Ao10 t308.length co10] 48 (0, 0)) (bvK BK312.out) hb)
        have n4_ := Aside0.mk (blk_below (g := gb318) (o := .cells #[.int .i64 t313, .slice Ao15 t314.length co15] 48 (0, 0)) (bvK BK318.out) hb)
        have n5_ := Aside0.mk (blk_below (g := gb324) (o := .cells #[.int .i64 t319, .slice Ao22 t320.length co22] 48 (0, 0)) (bvK BK324.out) hb)
        have n6_ := Aside0.mk (below_step (by repeat (first | (with_reducible first | exact HB.out | apply bwA | apply bwN | apply bwD | refine below_set ?_ GE312.out | refine below_set ?_ GE318.out | refine below_set ?_ GE324.out) | exact HB.out)) hb)
        clear HO_313001
        clear HO_319001
        clear HO_325001
        clear BK312
        clear BK318
        clear BK324
        clear HB
        have HO_313001 := n0_
        have HO_319001 := n1_
        have HO_325001 := n2_
        have BK312 := n3_
        have BK318 := n4_
        have BK324 := n5_
        have HB := n6_
        clear n0_ n1_ n2_ n3_ n4_ n5_ n6_
        (try clear hb)
        (try clear hb2)
        (try clear hk)
        (try clear hi)
        refine hK.out _ _ ⟨(blk_cell BK318.out 0).trans rfl, (blk_cell BK318.out 1).trans rfl, (blk_cell BK312.out 0).trans rfl, (blk_cell BK312.out 1).trans rfl⟩ (fun hHeld => ?_)
        clear hK K
        refine norm_ (a' := ?_) ?_ ?_
        rotate_left
        ·show Act.put _ (some 75) _ = _
         simp only [Act.put, List.setIfInBounds_toArray, List.set_cons_zero, List.set_cons_succ, i64_w, i32_w]
         rfl
        refine one_ (i := 17) (N := some 78) (Pt.bm 30 262143) rfl rfl (one_of HT_.out (by kernel_rfl)) (by decide) (fun K hK => ?_)
        refine goes_ Try.func45 (by kernel_rfl) rfl #[.agg #[.int .i64 t307, .slice Ao10 t308.length co10], .int .i64 t311] (by rfl) rfl rfl lmB ?_
        with_reducible refine (impl_DiagramCount.calls kj5 t307 _ _ t308 t311 t328 _ ?side1 ?side2 A53.out).mono ?_
        (case side1 => repeat (first | exact (Kd.R_reads' HO_313001.out).2.2 | (with_reducible refine Kd.C_alloc ?_ _) | (with_reducible refine Kd.C_drewN ?_ _) | (with_reducible refine Kd.C_drew ?_)))
        (case side2 => exact (Kd.R_reads' HO_313001.out).2.1)
        rintro e w62 ⟨rfl, hb⟩
        refine ⟨_, rfl, ?_⟩
        have n0_ := Aside0.mk (Kd.R_below (rvR HO_313001.out) hb)
        have n1_ := Aside0.mk (Kd.R_below (rvR HO_319001.out) hb)
        have n2_ := Aside0.mk (Kd.R_below (rvR HO_325001.out) hb)
        have n3_ := Aside0.mk (blk_below (g := gb312) (o := .cells #[.int .i64 t307, .slice Ao10 t308.length co10] 48 (0, 0)) (bvK BK312.out) hb)
        have n4_ := Aside0.mk (blk_below (g := gb318) (o := .cells #[.int .i64 t313, .slice Ao15 t314.length co15] 48 (0, 0)) (bvK BK318.out) hb)
        have n5_ := Aside0.mk (blk_below (g := gb324) (o := .cells #[.int .i64 t319, .slice Ao22 t320.length co22] 48 (0, 0)) (bvK BK324.out) hb)
        have n6_ := Aside0.mk (below_step (by repeat (first | (with_reducible first | exact HB.out | apply bwA | apply bwN | apply bwD | refine below_set ?_ GE312.out | refine below_set ?_ GE318.out | refine below_set ?_ GE324.out) | exact HB.out)) hb)
        clear HO_313001
        clear HO_319001
        clear HO_325001
        clear BK312
        clear BK318
        clear BK324
        clear HB
        have HO_313001 := n0_
        have HO_319001 := n1_
        have HO_325001 := n2_
        have BK312 := n3_
        have BK318 := n4_
        have BK324 := n5_
        have HB := n6_
        clear n0_ n1_ n2_ n3_ n4_ n5_ n6_
        (try clear hb)
        (try clear hb2)
        (try clear hk)
        (try clear hi)
        refine hK.out _ _ ⟨(blk_cell BK318.out 0).trans rfl, (blk_cell BK318.out 1).trans rfl, (blk_cell BK312.out 0).trans rfl, (blk_cell BK312.out 1).trans rfl⟩ (fun hHeld => ?_)
        clear hK K
        refine norm_ (a' := ?_) ?_ ?_
        rotate_left
        ·show Act.put _ (some 78) _ = _
         simp only [Act.put, List.setIfInBounds_toArray, List.set_cons_zero, List.set_cons_succ, i64_w, i32_w]
         rfl
        refine Pt.pu 18 (some 79) (Pt.bm 30 524287) (any_of HT_.out (by kernel_rfl)) ?_
        refine Pt.pu 19 (some 80) (Pt.bm 30 1048575) (any_of HT_.out (by kernel_rfl)) ?_
        refine Pt.pu 20 (some 81) (Pt.bm 30 2097151) (any_of HT_.out (by kernel_rfl)) ?_
        refine Pt.pu 22 (some 83) (Pt.bm 30 6291455) (any_of HT_.out (by kernel_rfl)) ?_
        refine Pt.pu 25 (some 86) (Pt.bm 30 39845887) (any_of HT_.out (by kernel_rfl)) ?_
        refine Pt.tk 21 (some 82) (Pt.bm 30 41943039) rfl rfl (take_ofW HT_.out HW_.out (by kernel_rfl)) hHeld (Or.inl ⟨by rfl, by rintro w' ⟨s0, s1, s2, s3⟩; go_simp; with_reducible rfl⟩) ?_
        refine Pt.tk 24 (some 85) (Pt.bm 30 58720255) rfl rfl (take_ofW HT_.out HW_.out (by kernel_rfl)) hHeld (Or.inl ⟨by rfl, by rintro w' ⟨s0, s1, s2, s3⟩; go_simp; with_reducible rfl⟩) ?_
        refine one_ (i := 23) (N := some 84) (Pt.bm 30 67108863) rfl rfl (one_of HT_.out (by kernel_rfl)) (by decide) (fun K hK => ?_)
        refine goes_ Try.func46 (by kernel_rfl) rfl #[.agg #[.int .i64 t313, .slice Ao15 t314.length co15], .int .i64 t317] (by rfl) rfl rfl lmB ?_
        with_reducible refine (impl_DiagramRow.calls kj5 t313 _ _ t314 t317 t329 _ ?side1 ?side2 A55.out).mono ?_
        (case side1 => repeat (first | exact (Kd.R_reads' HO_319001.out).2.2 | (with_reducible refine Kd.C_alloc ?_ _) | (with_reducible refine Kd.C_drewN ?_ _) | (with_reducible refine Kd.C_drew ?_)))
        (case side2 => exact (Kd.R_reads' HO_319001.out).2.1)
        rintro e w63 ⟨v330, rfl, ho0, hb⟩
        refine ⟨_, rfl, ?_⟩
        have n0_ := Aside0.mk (Kd.R_below (rvR HO_313001.out) hb)
        have n1_ := Aside0.mk (Kd.R_below (rvR HO_319001.out) hb)
        have n2_ := Aside0.mk (Kd.R_below (rvR HO_325001.out) hb)
        have n3_ := Aside0.mk (Kd.R_lower ho0 (below_size (by repeat (first | (with_reducible first | exact HB.out | apply bwA | apply bwN | apply bwD | refine below_set ?_ GE312.out | refine below_set ?_ GE318.out | refine below_set ?_ GE324.out) | exact HB.out))))
        have n4_ := Aside0.mk (blk_below (g := gb312) (o := .cells #[.int .i64 t307, .slice Ao10 t308.length co10] 48 (0, 0)) (bvK BK312.out) hb)
        have n5_ := Aside0.mk (blk_below (g := gb318) (o := .cells #[.int .i64 t313, .slice Ao15 t314.length co15] 48 (0, 0)) (bvK BK318.out) hb)
        have n6_ := Aside0.mk (blk_below (g := gb324) (o := .cells #[.int .i64 t319, .slice Ao22 t320.length co22] 48 (0, 0)) (bvK BK324.out) hb)
        have n7_ := Aside0.mk (below_step (by repeat (first | (with_reducible first | exact HB.out | apply bwA | apply bwN | apply bwD | refine below_set ?_ GE312.out | refine below_set ?_ GE318.out | refine below_set ?_ GE324.out) | exact HB.out)) hb)
        clear HO_313001
        clear HO_319001
        clear HO_325001
        clear BK312
        clear BK318
        clear BK324
        clear HB
        have HO_313001 := n0_
        have HO_319001 := n1_
        have HO_325001 := n2_
        have HO331 := n3_
        have BK312 := n4_
        have BK318 := n5_
        have BK324 := n6_
        have HB := n7_
        clear n0_ n1_ n2_ n3_ n4_ n5_ n6_ n7_
        (try clear hb)
        (try clear hb2)
        (try clear hk)
        (try clear hi)
        (try clear ho0)
        refine hK.out _ _ ⟨(blk_cell BK318.out 0).trans rfl, (blk_cell BK318.out 1).trans rfl, (blk_cell BK312.out 0).trans rfl, (blk_cell BK312.out 1).trans rfl⟩ (fun hHeld => ?_)
        clear hK K
        refine norm_ (a' := ?_) ?_ ?_
        rotate_left
        ·show Act.put _ (some 84) _ = _
         simp only [Act.put, List.setIfInBounds_toArray, List.set_cons_zero, List.set_cons_succ, i64_w, i32_w]
         rfl
        refine one_ (i := 26) (N := some 87) (Pt.bm 30 134217727) rfl rfl (one_of HT_.out (by kernel_rfl)) (by decide) (fun K hK => ?_)
        refine goes_ Try.func46 (by kernel_rfl) rfl #[.agg #[.int .i64 t307, .slice Ao10 t308.length co10], .int .i64 t311] (by rfl) rfl rfl lmB ?_
        with_reducible refine (impl_DiagramRow.calls kj5 t307 _ _ t308 t311 t332 _ ?side1 ?side2 A56.out).mono ?_
        (case side1 => repeat (first | exact (Kd.R_reads' HO_313001.out).2.2 | (with_reducible refine Kd.C_alloc ?_ _) | (with_reducible refine Kd.C_drewN ?_ _) | (with_reducible refine Kd.C_drew ?_)))
        (case side2 => exact (Kd.R_reads' HO_313001.out).2.1)
        rintro e w64 ⟨v333, rfl, ho0, hb⟩
        refine ⟨_, rfl, ?_⟩
        have n0_ := Aside0.mk (Kd.R_below (rvR HO_313001.out) hb)
        have n1_ := Aside0.mk (Kd.R_below (rvR HO_319001.out) hb)
        have n2_ := Aside0.mk (Kd.R_below (rvR HO_325001.out) hb)
        have n3_ := Aside0.mk (Kd.R_elder' (rvR HO331.out) (Kd.R_base ho0) hb)
        have n4_ := Aside0.mk (Kd.R_lower (Kd.R_new' ho0 (Kd.R_lt (rvR HO331.out))) (below_size (by repeat (first | (with_reducible first | exact HB.out | apply bwA | apply bwN | apply bwD | refine below_set ?_ GE312.out | refine below_set ?_ GE318.out | refine below_set ?_ GE324.out) | exact HB.out))))
        have n5_ := Aside0.mk (blk_below (g := gb312) (o := .cells #[.int .i64 t307, .slice Ao10 t308.length co10] 48 (0, 0)) (bvK BK312.out) hb)
        have n6_ := Aside0.mk (blk_below (g := gb318) (o := .cells #[.int .i64 t313, .slice Ao15 t314.length co15] 48 (0, 0)) (bvK BK318.out) hb)
        have n7_ := Aside0.mk (blk_below (g := gb324) (o := .cells #[.int .i64 t319, .slice Ao22 t320.length co22] 48 (0, 0)) (bvK BK324.out) hb)
        have n8_ := Aside0.mk (below_step (by repeat (first | (with_reducible first | exact HB.out | apply bwA | apply bwN | apply bwD | refine below_set ?_ GE312.out | refine below_set ?_ GE318.out | refine below_set ?_ GE324.out) | exact HB.out)) hb)
        clear HO_313001
        clear HO_319001
        clear HO_325001
        clear HO331
        clear BK312
        clear BK318
        clear BK324
        clear HB
        have HO_313001 := n0_
        have HO_319001 := n1_
        have HO_325001 := n2_
        have HO331 := n3_
        have HO334 := n4_
        have BK312 := n5_
        have BK318 := n6_
        have BK324 := n7_
        have HB := n8_
        clear n0_ n1_ n2_ n3_ n4_ n5_ n6_ n7_ n8_
        (try clear hb)
        (try clear hb2)
        (try clear hk)
        (try clear hi)
        (try clear ho0)
        obtain ⟨Ao65, co65, eo65⟩ := Kd.R_slice HO331.out
        (first | subst eo65 | (injection eo65 with f1_ f2_ f3_; have f4_ := f1_.symm; have f5_ := f3_.symm; clear f1_ f2_ f3_; subst f4_; subst f5_))
        obtain ⟨Ao66, co66, eo66⟩ := Kd.R_slice HO334.out
        (first | subst eo66 | (injection eo66 with f1_ f2_ f3_; have f4_ := f1_.symm; have f5_ := f3_.symm; clear f1_ f2_ f3_; subst f4_; subst f5_))
        refine hK.out _ _ ⟨(blk_cell BK318.out 0).trans rfl, (blk_cell BK318.out 1).trans rfl, (blk_cell BK312.out 0).trans rfl, (blk_cell BK312.out 1).trans rfl⟩ (fun hHeld => ?_)
        clear hK K
        refine norm_ (a' := ?_) ?_ ?_
        rotate_left
        ·show Act.put _ (some 87) _ = _
         simp only [Act.put, List.setIfInBounds_toArray, List.set_cons_zero, List.set_cons_succ, i64_w, i32_w]
         rfl
        refine one_ (i := 27) (N := some 88) (Pt.bm 30 268435455) rfl rfl (one_of HT_.out (by kernel_rfl)) (by decide) (fun K hK => ?_)
        refine goes_ Try.func21 (by kernel_rfl) rfl #[.slice Ao65 t329.length co65, .slice Ao66 t332.length co66] (by rfl) rfl rfl lmB ?_
        with_reducible refine (laws_wcInts.calls kj5 _ _ t329 _ _ t332 t335 _ ?side1 ?side2 ?side3 ?side4 A57.out).mono ?_
        (case side1 => repeat (first | exact (Kd.R_reads' HO331.out).2.2 | (with_reducible refine Kd.C_alloc ?_ _) | (with_reducible refine Kd.C_drewN ?_ _) | (with_reducible refine Kd.C_drew ?_)))
        (case side2 => exact (Kd.R_reads' HO331.out).2.1)
        (case side3 => repeat (first | exact (Kd.R_reads' HO334.out).2.2 | (with_reducible refine Kd.C_alloc ?_ _) | (with_reducible refine Kd.C_drewN ?_ _) | (with_reducible refine Kd.C_drew ?_)))
        (case side4 => exact (Kd.R_reads' HO334.out).2.1)
        rintro e w' ⟨rfl, ⟨nd, rfl⟩⟩
        refine ⟨_, rfl, ?_⟩
        refine hK.out _ _ ⟨(blk_cell BK318.out 0).trans rfl, (blk_cell BK318.out 1).trans rfl, (blk_cell BK312.out 0).trans rfl, (blk_cell BK312.out 1).trans rfl⟩ (fun hHeld => ?_)
        clear hK K
        refine norm_ (a' := ?_) ?_ ?_
        rotate_left
        ·show Act.put _ (some 88) _ = _
         simp only [Act.put, List.setIfInBounds_toArray, List.set_cons_zero, List.set_cons_succ, i64_w, i32_w]
         rfl
        refine Pt.pu 28 (some 89) (Pt.bm 30 536870911) (any_of HT_.out (by kernel_rfl)) ?_
        refine Pt.pu 29 (some 2) (Pt.bm 30 1073741823) (any_of HT_.out (by kernel_rfl)) ?_
        refine done_ (done_of HT_.out (by kernel_rfl)) ?_
        try go_wp2
        go_ret
        exact ⟨ers, by repeat (first | (with_reducible first | exact HB.out | apply bwA | apply bwN | apply bwD | refine below_set ?_ GE312.out | refine below_set ?_ GE318.out | refine below_set ?_ GE324.out) | exact HB.out)⟩
       ·rw [if_neg c54] at H
        have c54b0 : (t327 == t328) = false := beq_eq_false_iff_ne.mpr c54
        have c54b1 : (t327 != t328) = true := bne_iff_ne.mpr c54
        obtain rfl := Option.some.inj H
        try go_wp2
        have n0_ := Aside0.mk (Kd.R_drew HO_313001.out)
        have n1_ := Aside0.mk (Kd.R_drew HO_319001.out)
        have n2_ := Aside0.mk (Kd.R_drew HO_325001.out)
        have n3_ := Aside0.mk (blk_drew BK312.out)
        have n4_ := Aside0.mk (blk_drew BK318.out)
        have n5_ := Aside0.mk (blk_drew BK324.out)
        have n6_ := Aside0.mk (below_drew1 HB.out)
        clear HO_313001
        clear HO_319001
        clear HO_325001
        clear BK312
        clear BK318
        clear BK324
        clear HB
        have HO_313001 := n0_
        have HO_319001 := n1_
        have HO_325001 := n2_
        have BK312 := n3_
        have BK318 := n4_
        have BK324 := n5_
        have HB := n6_
        clear n0_ n1_ n2_ n3_ n4_ n5_ n6_
        refine start_ (n := 30) (S := fun w' => w'.cell? ⟨gb318, 0, none⟩ = some (.int .i64 t313) ∧ w'.cell? ⟨gb318, 1, none⟩ = some (.slice Ao15 t314.length co15) ∧ w'.cell? ⟨gb312, 0, none⟩ = some (.int .i64 t307) ∧ w'.cell? ⟨gb312, 1, none⟩ = some (.slice Ao10 t308.length co10)) (ds := []) (Pt.bm 30 0) (by kernel_rfl) rfl rfl ⟨(blk_cell BK318.out 0).trans rfl, (blk_cell BK318.out 1).trans rfl, (blk_cell BK312.out 0).trans rfl, (blk_cell BK312.out 1).trans rfl⟩ (fun hHeld => ?_); refine with_tabW laws_FnCompacted.tab8 laws_FnCompacted.bits8 (fun HT_ HW_ => ?_)
        generalize wc.drew = w67 at HO_313001 HO_319001 HO_325001 BK312 BK318 BK324 HB hHeld ⊢
        refine Pt.pu 0 (some 61) (Pt.bm 30 1) (any_of HT_.out (by kernel_rfl)) ?_
        refine Pt.pu 4 (some 65) (Pt.bm 30 17) (any_of HT_.out (by kernel_rfl)) ?_
        refine Pt.tk 1 (some 62) (Pt.bm 30 19) rfl rfl (take_ofW HT_.out HW_.out (by kernel_rfl)) hHeld (Or.inl ⟨by rfl, by rintro w' ⟨s0, s1, s2, s3⟩; go_simp; with_reducible rfl⟩) ?_
        refine Pt.pu 2 (some 63) (Pt.bm 30 23) (any_of HT_.out (by kernel_rfl)) ?_
        refine Pt.tk 3 (some 64) (Pt.bm 30 31) rfl rfl (take_ofW HT_.out HW_.out (by kernel_rfl)) hHeld (Or.inl ⟨by rfl, by rintro w' ⟨s0, s1, s2, s3⟩; go_simp; with_reducible rfl⟩) ?_
        refine one_ (i := 5) (N := some 66) (Pt.bm 30 63) rfl rfl (one_of HT_.out (by kernel_rfl)) (by decide) (fun K hK => ?_)
        refine goes_ Try.func43 (by kernel_rfl) rfl #[.agg #[.int .i64 t307, .slice Ao10 t308.length co10], .int .i64 t311] (by rfl) rfl rfl lmB ?_
        with_reducible refine (impl_ForksOf.calls kj5 t307 _ _ t308 t311 t325 _ ?side1 ?side2 A48.out).mono ?_
        (case side1 => repeat (first | exact (Kd.R_reads' HO_313001.out).2.2 | (with_reducible refine Kd.C_alloc ?_ _) | (with_reducible refine Kd.C_drewN ?_ _) | (with_reducible refine Kd.C_drew ?_)))
        (case side2 => exact (Kd.R_reads' HO_313001.out).2.1)
        rintro e w68 ⟨rfl, hb⟩
        refine ⟨_, rfl, ?_⟩
        have n0_ := Aside0.mk (Kd.R_below (rvR HO_313001.out) hb)
        have n1_ := Aside0.mk (Kd.R_below (rvR HO_319001.out) hb)
        have n2_ := Aside0.mk (Kd.R_below (rvR HO_325001.out) hb)
        have n3_ := Aside0.mk (blk_below (g := gb312) (o := .cells #[.int .i64 t307, .slice Ao10 t308.length co10] 48 (0, 0)) (bvK BK312.out) hb)
        have n4_ := Aside0.mk (blk_below (g := gb318) (o := .cells #[.int .i64 t313, .slice Ao15 t314.length co15] 48 (0, 0)) (bvK BK318.out) hb)
        have n5_ := Aside0.mk (blk_below (g := gb324) (o := .cells #[.int .i64 t319, .slice Ao22 t320.length co22] 48 (0, 0)) (bvK BK324.out) hb)
        have n6_ := Aside0.mk (below_step (by repeat (first | (with_reducible first | exact HB.out | apply bwA | apply bwN | apply bwD | refine below_set ?_ GE312.out | refine below_set ?_ GE318.out | refine below_set ?_ GE324.out) | exact HB.out)) hb)
        clear HO_313001
        clear HO_319001
        clear HO_325001
        clear BK312
        clear BK318
        clear BK324
        clear HB
        have HO_313001 := n0_
        have HO_319001 := n1_
        have HO_325001 := n2_
        have BK312 := n3_
        have BK318 := n4_
        have BK324 := n5_
        have HB := n6_
        clear n0_ n1_ n2_ n3_ n4_ n5_ n6_
        (try clear hb)
        (try clear hb2)
        (try clear hk)
        (try clear hi)
        refine hK.out _ _ ⟨(blk_cell BK318.out 0).trans rfl, (blk_cell BK318.out 1).trans rfl, (blk_cell BK312.out 0).trans rfl, (blk_cell BK312.out 1).trans rfl⟩ (fun hHeld => ?_)
        clear hK K
        refine norm_ (a' := ?_) ?_ ?_
        rotate_left
        ·show Act.put _ (some 66) _ = _
         simp only [Act.put, List.setIfInBounds_toArray, List.set_cons_zero, List.set_cons_succ, i64_w, i32_w]
         rfl
        refine Pt.pu 6 (some 67) (Pt.bm 30 127) (any_of HT_.out (by kernel_rfl)) ?_
        refine Pt.pu 7 (some 68) (Pt.bm 30 255) (any_of HT_.out (by kernel_rfl)) ?_
        refine Pt.tk 8 (some 69) (Pt.bm 30 511) rfl rfl (take_ofW HT_.out HW_.out (by kernel_rfl)) hHeld (Or.inl ⟨by rfl, by rintro w' ⟨s0, s1, s2, s3⟩; go_simp; with_reducible rfl⟩) ?_
        refine one_ (i := 9) (N := some 70) (Pt.bm 30 1023) rfl rfl (one_of HT_.out (by kernel_rfl)) (by decide) (fun K hK => ?_)
        refine goes_ Try.func44 (by kernel_rfl) rfl #[.agg #[.int .i64 t313, .slice Ao15 t314.length co15]] (by rfl) rfl rfl lmB ?_
        with_reducible refine (impl_DiagramValid.calls t313 _ _ t314 true _ ?side1 ?side2 A50.out).mono ?_
        (case side1 => repeat (first | exact (Kd.R_reads' HO_319001.out).2.2 | (with_reducible refine Kd.C_alloc ?_ _) | (with_reducible refine Kd.C_drewN ?_ _) | (with_reducible refine Kd.C_drew ?_)))
        (case side2 => exact (Kd.R_reads' HO_319001.out).2.1)
        rintro e w69 ⟨rfl, hb⟩
        refine ⟨_, rfl, ?_⟩
        have n0_ := Aside0.mk (Kd.R_below (rvR HO_313001.out) hb)
        have n1_ := Aside0.mk (Kd.R_below (rvR HO_319001.out) hb)
        have n2_ := Aside0.mk (Kd.R_below (rvR HO_325001.out) hb)
        have n3_ := Aside0.mk (blk_below (g := gb312) (o := .cells #[.int .i64 t307, .slice Ao10 t308.length co10] 48 (0, 0)) (bvK BK312.out) hb)
        have n4_ := Aside0.mk (blk_below (g := gb318) (o := .cells #[.int .i64 t313, .slice Ao15 t314.length co15] 48 (0, 0)) (bvK BK318.out) hb)
        have n5_ := Aside0.mk (blk_below (g := gb324) (o := .cells #[.int .i64 t319, .slice Ao22 t320.length co22] 48 (0, 0)) (bvK BK324.out) hb)
        have n6_ := Aside0.mk (below_step (by repeat (first | (with_reducible first | exact HB.out | apply bwA | apply bwN | apply bwD | refine below_set ?_ GE312.out | refine below_set ?_ GE318.out | refine below_set ?_ GE324.out) | exact HB.out)) hb)
        clear HO_313001
        clear HO_319001
        clear HO_325001
        clear BK312
        clear BK318
        clear BK324
        clear HB
        have HO_313001 := n0_
        have HO_319001 := n1_
        have HO_325001 := n2_
        have BK312 := n3_
        have BK318 := n4_
        have BK324 := n5_
        have HB := n6_
        clear n0_ n1_ n2_ n3_ n4_ n5_ n6_
        (try clear hb)
        (try clear hb2)
        (try clear hk)
        (try clear hi)
        refine hK.out _ _ ⟨(blk_cell BK318.out 0).trans rfl, (blk_cell BK318.out 1).trans rfl, (blk_cell BK312.out 0).trans rfl, (blk_cell BK312.out 1).trans rfl⟩ (fun hHeld => ?_)
        clear hK K
        refine norm_ (a' := ?_) ?_ ?_
        rotate_left
        ·show Act.put _ (some 70) _ = _
         simp only [Act.put, List.setIfInBounds_toArray, List.set_cons_zero, List.set_cons_succ, i64_w, i32_w]
         rfl
        refine Pt.pu 10 (some 71) (Pt.bm 30 2047) (any_of HT_.out (by kernel_rfl)) ?_
        refine Pt.pu 11 (some 72) (Pt.bm 30 4095) (any_of HT_.out (by kernel_rfl)) ?_
        refine Pt.pu 13 (some 74) (Pt.bm 30 12287) (any_of HT_.out (by kernel_rfl)) ?_
        refine Pt.pu 16 (some 77) (Pt.bm 30 77823) (any_of HT_.out (by kernel_rfl)) ?_
        refine Pt.tk 12 (some 73) (Pt.bm 30 81919) rfl rfl (take_ofW HT_.out HW_.out (by kernel_rfl)) hHeld (Or.inl ⟨by rfl, by rintro w' ⟨s0, s1, s2, s3⟩; go_simp; with_reducible rfl⟩) ?_
        refine Pt.tk 15 (some 76) (Pt.bm 30 114687) rfl rfl (take_ofW HT_.out HW_.out (by kernel_rfl)) hHeld (Or.inl ⟨by rfl, by rintro w' ⟨s0, s1, s2, s3⟩; go_simp; with_reducible rfl⟩) ?_
        refine one_ (i := 14) (N := some 75) (Pt.bm 30 131071) rfl rfl (one_of HT_.out (by kernel_rfl)) (by decide) (fun K hK => ?_)
        refine goes_ Try.func45 (by kernel_rfl) rfl #[.agg #[.int .i64 t313, .slice Ao15 t314.length co15], .int .i64 t317] (by rfl) rfl rfl lmB ?_
        with_reducible refine (impl_DiagramCount.calls kj5 t313 _ _ t314 t317 t327 _ ?side1 ?side2 A52.out).mono ?_
        (case side1 => repeat (first | exact (Kd.R_reads' HO_319001.out).2.2 | (with_reducible refine Kd.C_alloc ?_ _) | (with_reducible refine Kd.C_drewN ?_ _) | (with_reducible refine Kd.C_drew ?_)))
        (case side2 => exact (Kd.R_reads' HO_319001.out).2.1)
        rintro e w70 ⟨rfl, hb⟩
        refine ⟨_, rfl, ?_⟩
        have n0_ := Aside0.mk (Kd.R_below (rvR HO_313001.out) hb)
        have n1_ := Aside0.mk (Kd.R_below (rvR HO_319001.out) hb)
        have n2_ := Aside0.mk (Kd.R_below (rvR HO_325001.out) hb)
        have n3_ := Aside0.mk (blk_below (g := gb312) (o := .cells #[.int .i64 t307, .slice Ao10 t308.length co10] 48 (0, 0)) (bvK BK312.out) hb)
        have n4_ := Aside0.mk (blk_below (g := gb318) (o := .cells #[.int .i64 t313, .slice Ao15 t314.length co15] 48 (0, 0)) (bvK BK318.out) hb)
        have n5_ := Aside0.mk (blk_below (g := gb324) (o := .cells #[.int .i64 t319, .slice Ao22 t320.length co22] 48 (0, 0)) (bvK BK324.out) hb)
        have n6_ := Aside0.mk (below_step (by repeat (first | (with_reducible first | exact HB.out | apply bwA | apply bwN | apply bwD | refine below_set ?_ GE312.out | refine below_set ?_ GE318.out | refine below_set ?_ GE324.out) | exact HB.out)) hb)
        clear HO_313001
        clear HO_319001
        clear HO_325001
        clear BK312
        clear BK318
        clear BK324
        clear HB
        have HO_313001 := n0_
        have HO_319001 := n1_
        have HO_325001 := n2_
        have BK312 := n3_
        have BK318 := n4_
        have BK324 := n5_
        have HB := n6_
        clear n0_ n1_ n2_ n3_ n4_ n5_ n6_
        (try clear hb)
        (try clear hb2)
        (try clear hk)
        (try clear hi)
        refine hK.out _ _ ⟨(blk_cell BK318.out 0).trans rfl, (blk_cell BK318.out 1).trans rfl, (blk_cell BK312.out 0).trans rfl, (blk_cell BK312.out 1).trans rfl⟩ (fun hHeld => ?_)
        clear hK K
        refine norm_ (a' := ?_) ?_ ?_
        rotate_left
        ·show Act.put _ (some 75) _ = _
         simp only [Act.put, List.setIfInBounds_toArray, List.set_cons_zero, List.set_cons_succ, i64_w, i32_w]
         rfl
        refine one_ (i := 17) (N := some 78) (Pt.bm 30 262143) rfl rfl (one_of HT_.out (by kernel_rfl)) (by decide) (fun K hK => ?_)
        refine goes_ Try.func45 (by kernel_rfl) rfl #[.agg #[.int .i64 t307, .slice Ao10 t308.length co10], .int .i64 t311] (by rfl) rfl rfl lmB ?_
        with_reducible refine (impl_DiagramCount.calls kj5 t307 _ _ t308 t311 t328 _ ?side1 ?side2 A53.out).mono ?_
        (case side1 => repeat (first | exact (Kd.R_reads' HO_313001.out).2.2 | (with_reducible refine Kd.C_alloc ?_ _) | (with_reducible refine Kd.C_drewN ?_ _) | (with_reducible refine Kd.C_drew ?_)))
        (case side2 => exact (Kd.R_reads' HO_313001.out).2.1)
        rintro e w71 ⟨rfl, hb⟩
        refine ⟨_, rfl, ?_⟩
        have n0_ := Aside0.mk (Kd.R_below (rvR HO_313001.out) hb)
        have n1_ := Aside0.mk (Kd.R_below (rvR HO_319001.out) hb)
        have n2_ := Aside0.mk (Kd.R_below (rvR HO_325001.out) hb)
        have n3_ := Aside0.mk (blk_below (g := gb312) (o := .cells #[.int .i64 t307, .slice Ao10 t308.length co10] 48 (0, 0)) (bvK BK312.out) hb)
        have n4_ := Aside0.mk (blk_below (g := gb318) (o := .cells #[.int .i64 t313, .slice Ao15 t314.length co15] 48 (0, 0)) (bvK BK318.out) hb)
        have n5_ := Aside0.mk (blk_below (g := gb324) (o := .cells #[.int .i64 t319, .slice Ao22 t320.length co22] 48 (0, 0)) (bvK BK324.out) hb)
        have n6_ := Aside0.mk (below_step (by repeat (first | (with_reducible first | exact HB.out | apply bwA | apply bwN | apply bwD | refine below_set ?_ GE312.out | refine below_set ?_ GE318.out | refine below_set ?_ GE324.out) | exact HB.out)) hb)
        clear HO_313001
        clear HO_319001
        clear HO_325001
        clear BK312
        clear BK318
        clear BK324
        clear HB
        have HO_313001 := n0_
        have HO_319001 := n1_
        have HO_325001 := n2_
        have BK312 := n3_
        have BK318 := n4_
        have BK324 := n5_
        have HB := n6_
        clear n0_ n1_ n2_ n3_ n4_ n5_ n6_
        (try clear hb)
        (try clear hb2)
        (try clear hk)
        (try clear hi)
        refine hK.out _ _ ⟨(blk_cell BK318.out 0).trans rfl, (blk_cell BK318.out 1).trans rfl, (blk_cell BK312.out 0).trans rfl, (blk_cell BK312.out 1).trans rfl⟩ (fun hHeld => ?_)
        clear hK K
        refine norm_ (a' := ?_) ?_ ?_
        rotate_left
        ·show Act.put _ (some 78) _ = _
         simp only [Act.put, List.setIfInBounds_toArray, List.set_cons_zero, List.set_cons_succ, i64_w, i32_w]
         rfl
        refine Pt.pu 18 (some 79) (Pt.bm 30 524287) (any_of HT_.out (by kernel_rfl)) ?_
        refine Pt.pu 19 (some 80) (Pt.bm 30 1048575) (any_of HT_.out (by kernel_rfl)) ?_
        refine Pt.pu 20 (some 81) (Pt.bm 30 2097151) (any_of HT_.out (by kernel_rfl)) ?_
        refine Pt.pn 21 (some 82) (Pt.bm 30 4194303) (any_of HT_.out (by kernel_rfl)) ?_
        refine Pt.pn 22 (some 83) (Pt.bm 30 8388607) (any_of HT_.out (by kernel_rfl)) ?_
        refine Pt.pn 23 (some 84) (Pt.bm 30 16777215) (any_of HT_.out (by kernel_rfl)) ?_
        refine Pt.pn 24 (some 85) (Pt.bm 30 33554431) (any_of HT_.out (by kernel_rfl)) ?_
        refine Pt.pn 25 (some 86) (Pt.bm 30 67108863) (any_of HT_.out (by kernel_rfl)) ?_
        refine Pt.pn 26 (some 87) (Pt.bm 30 134217727) (any_of HT_.out (by kernel_rfl)) ?_
        refine Pt.pn 27 (some 88) (Pt.bm 30 268435455) (any_of HT_.out (by kernel_rfl)) ?_
        refine Pt.pu 28 (some 89) (Pt.bm 30 536870911) (any_of HT_.out (by kernel_rfl)) ?_
        refine Pt.pu 29 (some 2) (Pt.bm 30 1073741823) (any_of HT_.out (by kernel_rfl)) ?_
        refine done_ (done_of HT_.out (by kernel_rfl)) ?_
        try go_wp2
        go_ret
        exact ⟨ers, by repeat (first | (with_reducible first | exact HB.out | apply bwA | apply bwN | apply bwD | refine below_set ?_ GE312.out | refine below_set ?_ GE318.out | refine below_set ?_ GE324.out) | exact HB.out)⟩
      ·replace c51 := Bool.eq_false_iff.mpr c51
       subst c51
       have H1 : (some false) = some r := by rw [if_neg (show ¬ (false = true) by decide)] at H; exact H
       clear H
       have H := H1
       clear H1
       obtain rfl := Option.some.inj H
       try go_wp2
       have n0_ := Aside0.mk (Kd.R_drew HO_313001.out)
       have n1_ := Aside0.mk (Kd.R_drew HO_319001.out)
       have n2_ := Aside0.mk (Kd.R_drew HO_325001.out)
       have n3_ := Aside0.mk (blk_drew BK312.out)
       have n4_ := Aside0.mk (blk_drew BK318.out)
       have n5_ := Aside0.mk (blk_drew BK324.out)
       have n6_ := Aside0.mk (below_drew1 HB.out)
       clear HO_313001
       clear HO_319001
       clear HO_325001
       clear BK312
       clear BK318
       clear BK324
       clear HB
       have HO_313001 := n0_
       have HO_319001 := n1_
       have HO_325001 := n2_
       have BK312 := n3_
       have BK318 := n4_
       have BK324 := n5_
       have HB := n6_
       clear n0_ n1_ n2_ n3_ n4_ n5_ n6_
       refine start_ (n := 30) (S := fun w' => w'.cell? ⟨gb318, 0, none⟩ = some (.int .i64 t313) ∧ w'.cell? ⟨gb318, 1, none⟩ = some (.slice Ao15 t314.length co15) ∧ w'.cell? ⟨gb312, 0, none⟩ = some (.int .i64 t307) ∧ w'.cell? ⟨gb312, 1, none⟩ = some (.slice Ao10 t308.length co10)) (ds := []) (Pt.bm 30 0) (by kernel_rfl) rfl rfl ⟨(blk_cell BK318.out 0).trans rfl, (blk_cell BK318.out 1).trans rfl, (blk_cell BK312.out 0).trans rfl, (blk_cell BK312.out 1).trans rfl⟩ (fun hHeld => ?_); refine with_tabW laws_FnCompacted.tab8 laws_FnCompacted.bits8 (fun HT_ HW_ => ?_)
       generalize wc.drew = w72 at HO_313001 HO_319001 HO_325001 BK312 BK318 BK324 HB hHeld ⊢
       refine Pt.pu 0 (some 61) (Pt.bm 30 1) (any_of HT_.out (by kernel_rfl)) ?_
       refine Pt.pu 4 (some 65) (Pt.bm 30 17) (any_of HT_.out (by kernel_rfl)) ?_
       refine Pt.tk 1 (some 62) (Pt.bm 30 19) rfl rfl (take_ofW HT_.out HW_.out (by kernel_rfl)) hHeld (Or.inl ⟨by rfl, by rintro w' ⟨s0, s1, s2, s3⟩; go_simp; with_reducible rfl⟩) ?_
       refine Pt.pu 2 (some 63) (Pt.bm 30 23) (any_of HT_.out (by kernel_rfl)) ?_
       refine Pt.tk 3 (some 64) (Pt.bm 30 31) rfl rfl (take_ofW HT_.out HW_.out (by kernel_rfl)) hHeld (Or.inl ⟨by rfl, by rintro w' ⟨s0, s1, s2, s3⟩; go_simp; with_reducible rfl⟩) ?_
       refine one_ (i := 5) (N := some 66) (Pt.bm 30 63) rfl rfl (one_of HT_.out (by kernel_rfl)) (by decide) (fun K hK => ?_)
       refine goes_ Try.func43 (by kernel_rfl) rfl #[.agg #[.int .i64 t307, .slice Ao10 t308.length co10], .int .i64 t311] (by rfl) rfl rfl lmB ?_
       with_reducible refine (impl_ForksOf.calls kj5 t307 _ _ t308 t311 t325 _ ?side1 ?side2 A48.out).mono ?_
       (case side1 => repeat (first | exact (Kd.R_reads' HO_313001.out).2.2 | (with_reducible refine Kd.C_alloc ?_ _) | (with_reducible refine Kd.C_drewN ?_ _) | (with_reducible refine Kd.C_drew ?_)))
       (case side2 => exact (Kd.R_reads' HO_313001.out).2.1)
       rintro e w73 ⟨rfl, hb⟩
       refine ⟨_, rfl, ?_⟩
       have n0_ := Aside0.mk (Kd.R_below (rvR HO_313001.out) hb)
       have n1_ := Aside0.mk (Kd.R_below (rvR HO_319001.out) hb)
       have n2_ := Aside0.mk (Kd.R_below (rvR HO_325001.out) hb)
       have n3_ := Aside0.mk (blk_below (g := gb312) (o := .cells #[.int .i64 t307, .slice Ao10 t308.length co10] 48 (0, 0)) (bvK BK312.out) hb)
       have n4_ := Aside0.mk (blk_below (g := gb318) (o := .cells #[.int .i64 t313, .slice Ao15 t314.length co15] 48 (0, 0)) (bvK BK318.out) hb)
       have n5_ := Aside0.mk (blk_below (g := gb324) (o := .cells #[.int .i64 t319, .slice Ao22 t320.length co22] 48 (0, 0)) (bvK BK324.out) hb)
       have n6_ := Aside0.mk (below_step (by repeat (first | (with_reducible first | exact HB.out | apply bwA | apply bwN | apply bwD | refine below_set ?_ GE312.out | refine below_set ?_ GE318.out | refine below_set ?_ GE324.out) | exact HB.out)) hb)
       clear HO_313001
       clear HO_319001
       clear HO_325001
       clear BK312
       clear BK318
       clear BK324
       clear HB
       have HO_313001 := n0_
       have HO_319001 := n1_
       have HO_325001 := n2_
       have BK312 := n3_
       have BK318 := n4_
       have BK324 := n5_
       have HB := n6_
       clear n0_ n1_ n2_ n3_ n4_ n5_ n6_
       (try clear hb)
       (try clear hb2)
       (try clear hk)
       (try clear hi)
       refine hK.out _ _ ⟨(blk_cell BK318.out 0).trans rfl, (blk_cell BK318.out 1).trans rfl, (blk_cell BK312.out 0).trans rfl, (blk_cell BK312.out 1).trans rfl⟩ (fun hHeld => ?_)
       clear hK K
       refine norm_ (a' := ?_) ?_ ?_
       rotate_left
       ·show Act.put _ (some 66) _ = _
        simp only [Act.put, List.setIfInBounds_toArray, List.set_cons_zero, List.set_cons_succ, i64_w, i32_w]
        rfl
       refine Pt.pu 6 (some 67) (Pt.bm 30 127) (any_of HT_.out (by kernel_rfl)) ?_
       refine Pt.pu 7 (some 68) (Pt.bm 30 255) (any_of HT_.out (by kernel_rfl)) ?_
       refine Pt.tk 8 (some 69) (Pt.bm 30 511) rfl rfl (take_ofW HT_.out HW_.out (by kernel_rfl)) hHeld (Or.inl ⟨by rfl, by rintro w' ⟨s0, s1, s2, s3⟩; go_simp; with_reducible rfl⟩) ?_
       refine one_ (i := 9) (N := some 70) (Pt.bm 30 1023) rfl rfl (one_of HT_.out (by kernel_rfl)) (by decide) (fun K hK => ?_)
       refine goes_ Try.func44 (by kernel_rfl) rfl #[.agg #[.int .i64 t313, .slice Ao15 t314.length co15]] (by rfl) rfl rfl lmB ?_
       with_reducible refine (impl_DiagramValid.calls t313 _ _ t314 false _ ?side1 ?side2 A50.out).mono ?_
       (case side1 => repeat (first | exact (Kd.R_reads' HO_319001.out).2.2 | (with_reducible refine Kd.C_alloc ?_ _) | (with_reducible refine Kd.C_drewN ?_ _) | (with_reducible refine Kd.C_drew ?_)))
       (case side2 => exact (Kd.R_reads' HO_319001.out).2.1)
       rintro e w74 ⟨rfl, hb⟩
       refine ⟨_, rfl, ?_⟩
       have n0_ := Aside0.mk (Kd.R_below (rvR HO_313001.out) hb)
       have n1_ := Aside0.mk (Kd.R_below (rvR HO_319001.out) hb)
       have n2_ := Aside0.mk (Kd.R_below (rvR HO_325001.out) hb)
       have n3_ := Aside0.mk (blk_below (g := gb312) (o := .cells #[.int .i64 t307, .slice Ao10 t308.length co10] 48 (0, 0)) (bvK BK312.out) hb)
       have n4_ := Aside0.mk (blk_below (g := gb318) (o := .cells #[.int .i64 t313, .slice Ao15 t314.length co15] 48 (0, 0)) (bvK BK318.out) hb)
       have n5_ := Aside0.mk (blk_below (g := gb324) (o := .cells #[.int .i64 t319, .slice Ao22 t320.length co22] 48 (0, 0)) (bvK BK324.out) hb)
       have n6_ := Aside0.mk (below_step (by repeat (first | (with_reducible first | exact HB.out | apply bwA | apply bwN | apply bwD | refine below_set ?_ GE312.out | refine below_set ?_ GE318.out | refine below_set ?_ GE324.out) | exact HB.out)) hb)
       clear HO_313001
       clear HO_319001
       clear HO_325001
       clear BK312
       clear BK318
       clear BK324
       clear HB
       have HO_313001 := n0_
       have HO_319001 := n1_
       have HO_325001 := n2_
       have BK312 := n3_
       have BK318 := n4_
       have BK324 := n5_
       have HB := n6_
       clear n0_ n1_ n2_ n3_ n4_ n5_ n6_
       (try clear hb)
       (try clear hb2)
       (try clear hk)
       (try clear hi)
       refine hK.out _ _ ⟨(blk_cell BK318.out 0).trans rfl, (blk_cell BK318.out 1).trans rfl, (blk_cell BK312.out 0).trans rfl, (blk_cell BK312.out 1).trans rfl⟩ (fun hHeld => ?_)
       clear hK K
       refine norm_ (a' := ?_) ?_ ?_
       rotate_left
       ·show Act.put _ (some 70) _ = _
        simp only [Act.put, List.setIfInBounds_toArray, List.set_cons_zero, List.set_cons_succ, i64_w, i32_w]
        rfl
       refine Pt.pu 10 (some 71) (Pt.bm 30 2047) (any_of HT_.out (by kernel_rfl)) ?_
       refine Pt.pu 11 (some 72) (Pt.bm 30 4095) (any_of HT_.out (by kernel_rfl)) ?_
       refine Pt.pn 12 (some 73) (Pt.bm 30 8191) (any_of HT_.out (by kernel_rfl)) ?_
       refine Pt.pn 13 (some 74) (Pt.bm 30 16383) (any_of HT_.out (by kernel_rfl)) ?_
       refine Pt.pn 14 (some 75) (Pt.bm 30 32767) (any_of HT_.out (by kernel_rfl)) ?_
       refine Pt.pn 15 (some 76) (Pt.bm 30 65535) (any_of HT_.out (by kernel_rfl)) ?_
       refine Pt.pn 16 (some 77) (Pt.bm 30 131071) (any_of HT_.out (by kernel_rfl)) ?_
       refine Pt.pn 17 (some 78) (Pt.bm 30 262143) (any_of HT_.out (by kernel_rfl)) ?_
       refine Pt.pn 18 (some 79) (Pt.bm 30 524287) (any_of HT_.out (by kernel_rfl)) ?_
       refine Pt.pu 19 (some 80) (Pt.bm 30 1048575) (any_of HT_.out (by kernel_rfl)) ?_
       refine Pt.pu 20 (some 81) (Pt.bm 30 2097151) (any_of HT_.out (by kernel_rfl)) ?_
       refine Pt.pn 21 (some 82) (Pt.bm 30 4194303) (any_of HT_.out (by kernel_rfl)) ?_
       refine Pt.pn 22 (some 83) (Pt.bm 30 8388607) (any_of HT_.out (by kernel_rfl)) ?_
       refine Pt.pn 23 (some 84) (Pt.bm 30 16777215) (any_of HT_.out (by kernel_rfl)) ?_
       refine Pt.pn 24 (some 85) (Pt.bm 30 33554431) (any_of HT_.out (by kernel_rfl)) ?_
       refine Pt.pn 25 (some 86) (Pt.bm 30 67108863) (any_of HT_.out (by kernel_rfl)) ?_
       refine Pt.pn 26 (some 87) (Pt.bm 30 134217727) (any_of HT_.out (by kernel_rfl)) ?_
       refine Pt.pn 27 (some 88) (Pt.bm 30 268435455) (any_of HT_.out (by kernel_rfl)) ?_
       refine Pt.pu 28 (some 89) (Pt.bm 30 536870911) (any_of HT_.out (by kernel_rfl)) ?_
       refine Pt.pu 29 (some 2) (Pt.bm 30 1073741823) (any_of HT_.out (by kernel_rfl)) ?_
       refine done_ (done_of HT_.out (by kernel_rfl)) ?_
       try go_wp2
       go_ret
       exact ⟨ers, by repeat (first | (with_reducible first | exact HB.out | apply bwA | apply bwN | apply bwD | refine below_set ?_ GE312.out | refine below_set ?_ GE318.out | refine below_set ?_ GE324.out) | exact HB.out)⟩
     ·rw [if_neg c49] at H
      have c49b0 : ((t314.length : Int) == t325) = false := beq_eq_false_iff_ne.mpr c49
      have c49b1 : ((t314.length : Int) != t325) = true := bne_iff_ne.mpr c49
      obtain rfl := Option.some.inj H
      try go_wp2
      have n0_ := Aside0.mk (Kd.R_drew HO_313001.out)
      have n1_ := Aside0.mk (Kd.R_drew HO_319001.out)
      have n2_ := Aside0.mk (Kd.R_drew HO_325001.out)
      have n3_ := Aside0.mk (blk_drew BK312.out)
      have n4_ := Aside0.mk (blk_drew BK318.out)
      have n5_ := Aside0.mk (blk_drew BK324.out)
      have n6_ := Aside0.mk (below_drew1 HB.out)
      clear HO_313001
      clear HO_319001
      clear HO_325001
      clear BK312
      clear BK318
      clear BK324
      clear HB
      have HO_313001 := n0_
      have HO_319001 := n1_
      have HO_325001 := n2_
      have BK312 := n3_
      have BK318 := n4_
      have BK324 := n5_
      have HB := n6_
      clear n0_ n1_ n2_ n3_ n4_ n5_ n6_
      refine start_ (n := 30) (S := fun w' => w'.cell? ⟨gb318, 0, none⟩ = some (.int .i64 t313) ∧ w'.cell? ⟨gb318, 1, none⟩ = some (.slice Ao15 t314.length co15) ∧ w'.cell? ⟨gb312, 0, none⟩ = some (.int .i64 t307) ∧ w'.cell? ⟨gb312, 1, none⟩ = some (.slice Ao10 t308.length co10)) (ds := []) (Pt.bm 30 0) (by kernel_rfl) rfl rfl ⟨(blk_cell BK318.out 0).trans rfl, (blk_cell BK318.out 1).trans rfl, (blk_cell BK312.out 0).trans rfl, (blk_cell BK312.out 1).trans rfl⟩ (fun hHeld => ?_); refine with_tabW laws_FnCompacted.tab8 laws_FnCompacted.bits8 (fun HT_ HW_ => ?_)
      generalize wc.drew = w75 at HO_313001 HO_319001 HO_325001 BK312 BK318 BK324 HB hHeld ⊢
      refine Pt.pu 0 (some 61) (Pt.bm 30 1) (any_of HT_.out (by kernel_rfl)) ?_
      refine Pt.pu 4 (some 65) (Pt.bm 30 17) (any_of HT_.out (by kernel_rfl)) ?_
      refine Pt.tk 1 (some 62) (Pt.bm 30 19) rfl rfl (take_ofW HT_.out HW_.out (by kernel_rfl)) hHeld (Or.inl ⟨by rfl, by rintro w' ⟨s0, s1, s2, s3⟩; go_simp; with_reducible rfl⟩) ?_
      refine Pt.pu 2 (some 63) (Pt.bm 30 23) (any_of HT_.out (by kernel_rfl)) ?_
      refine Pt.tk 3 (some 64) (Pt.bm 30 31) rfl rfl (take_ofW HT_.out HW_.out (by kernel_rfl)) hHeld (Or.inl ⟨by rfl, by rintro w' ⟨s0, s1, s2, s3⟩; go_simp; with_reducible rfl⟩) ?_
      refine one_ (i := 5) (N := some 66) (Pt.bm 30 63) rfl rfl (one_of HT_.out (by kernel_rfl)) (by decide) (fun K hK => ?_)
      refine goes_ Try.func43 (by kernel_rfl) rfl #[.agg #[.int .i64 t307, .slice Ao10 t308.length co10], .int .i64 t311] (by rfl) rfl rfl lmB ?_
      with_reducible refine (impl_ForksOf.calls kj5 t307 _ _ t308 t311 t325 _ ?side1 ?side2 A48.out).mono ?_
      (case side1 => repeat (first | exact (Kd.R_reads' HO_313001.out).2.2 | (with_reducible refine Kd.C_alloc ?_ _) | (with_reducible refine Kd.C_drewN ?_ _) | (with_reducible refine Kd.C_drew ?_)))
      (case side2 => exact (Kd.R_reads' HO_313001.out).2.1)
      rintro e w76 ⟨rfl, hb⟩
      refine ⟨_, rfl, ?_⟩
      have n0_ := Aside0.mk (Kd.R_below (rvR HO_313001.out) hb)
      have n1_ := Aside0.mk (Kd.R_below (rvR HO_319001.out) hb)
      have n2_ := Aside0.mk (Kd.R_below (rvR HO_325001.out) hb)
      have n3_ := Aside0.mk (blk_below (g := gb312) (o := .cells #[.int .i64 t307, .slice Ao10 t308.length co10] 48 (0, 0)) (bvK BK312.out) hb)
      have n4_ := Aside0.mk (blk_below (g := gb318) (o := .cells #[.int .i64 t313, .slice Ao15 t314.length co15] 48 (0, 0)) (bvK BK318.out) hb)
      have n5_ := Aside0.mk (blk_below (g := gb324) (o := .cells #[.int .i64 t319, .slice Ao22 t320.length co22] 48 (0, 0)) (bvK BK324.out) hb)
      have n6_ := Aside0.mk (below_step (by repeat (first | (with_reducible first | exact HB.out | apply bwA | apply bwN | apply bwD | refine below_set ?_ GE312.out | refine below_set ?_ GE318.out | refine below_set ?_ GE324.out) | exact HB.out)) hb)
      clear HO_313001
      clear HO_319001
      clear HO_325001
      clear BK312
      clear BK318
      clear BK324
      clear HB
      have HO_313001 := n0_
      have HO_319001 := n1_
      have HO_325001 := n2_
      have BK312 := n3_
      have BK318 := n4_
      have BK324 := n5_
      have HB := n6_
      clear n0_ n1_ n2_ n3_ n4_ n5_ n6_
      (try clear hb)
      (try clear hb2)
      (try clear hk)
      (try clear hi)
      refine hK.out _ _ ⟨(blk_cell BK318.out 0).trans rfl, (blk_cell BK318.out 1).trans rfl, (blk_cell BK312.out 0).trans rfl, (blk_cell BK312.out 1).trans rfl⟩ (fun hHeld => ?_)
      clear hK K
      refine norm_ (a' := ?_) ?_ ?_
      rotate_left
      ·show Act.put _ (some 66) _ = _
       simp only [Act.put, List.setIfInBounds_toArray, List.set_cons_zero, List.set_cons_succ, i64_w, i32_w]
       rfl
      refine Pt.pu 6 (some 67) (Pt.bm 30 127) (any_of HT_.out (by kernel_rfl)) ?_
      refine Pt.pu 7 (some 68) (Pt.bm 30 255) (any_of HT_.out (by kernel_rfl)) ?_
      refine Pt.pn 8 (some 69) (Pt.bm 30 511) (any_of HT_.out (by kernel_rfl)) ?_
      refine Pt.pn 9 (some 70) (Pt.bm 30 1023) (any_of HT_.out (by kernel_rfl)) ?_
      refine Pt.pu 10 (some 71) (Pt.bm 30 2047) (any_of HT_.out (by kernel_rfl)) ?_
      refine Pt.pu 11 (some 72) (Pt.bm 30 4095) (any_of HT_.out (by kernel_rfl)) ?_
      refine Pt.pn 12 (some 73) (Pt.bm 30 8191) (any_of HT_.out (by kernel_rfl)) ?_
      refine Pt.pn 13 (some 74) (Pt.bm 30 16383) (any_of HT_.out (by kernel_rfl)) ?_
      refine Pt.pn 14 (some 75) (Pt.bm 30 32767) (any_of HT_.out (by kernel_rfl)) ?_
      refine Pt.pn 15 (some 76) (Pt.bm 30 65535) (any_of HT_.out (by kernel_rfl)) ?_
      refine Pt.pn 16 (some 77) (Pt.bm 30 131071) (any_of HT_.out (by kernel_rfl)) ?_
      refine Pt.pn 17 (some 78) (Pt.bm 30 262143) (any_of HT_.out (by kernel_rfl)) ?_
      refine Pt.pn 18 (some 79) (Pt.bm 30 524287) (any_of HT_.out (by kernel_rfl)) ?_
      refine Pt.pu 19 (some 80) (Pt.bm 30 1048575) (any_of HT_.out (by kernel_rfl)) ?_
      refine Pt.pu 20 (some 81) (Pt.bm 30 2097151) (any_of HT_.out (by kernel_rfl)) ?_
      refine Pt.pn 21 (some 82) (Pt.bm 30 4194303) (any_of HT_.out (by kernel_rfl)) ?_
      refine Pt.pn 22 (some 83) (Pt.bm 30 8388607) (any_of HT_.out (by kernel_rfl)) ?_
      refine Pt.pn 23 (some 84) (Pt.bm 30 16777215) (any_of HT_.out (by kernel_rfl)) ?_
      refine Pt.pn 24 (some 85) (Pt.bm 30 33554431) (any_of HT_.out (by kernel_rfl)) ?_
      refine Pt.pn 25 (some 86) (Pt.bm 30 67108863) (any_of HT_.out (by kernel_rfl)) ?_
      refine Pt.pn 26 (some 87) (Pt.bm 30 134217727) (any_of HT_.out (by kernel_rfl)) ?_
      refine Pt.pn 27 (some 88) (Pt.bm 30 268435455) (any_of HT_.out (by kernel_rfl)) ?_
      refine Pt.pu 28 (some 89) (Pt.bm 30 536870911) (any_of HT_.out (by kernel_rfl)) ?_
      refine Pt.pu 29 (some 2) (Pt.bm 30 1073741823) (any_of HT_.out (by kernel_rfl)) ?_
      refine done_ (done_of HT_.out (by kernel_rfl)) ?_
      try go_wp2
      go_ret
      exact ⟨ers, by repeat (first | (with_reducible first | exact HB.out | apply bwA | apply bwN | apply bwD | refine below_set ?_ GE312.out | refine below_set ?_ GE318.out | refine below_set ?_ GE324.out) | exact HB.out)⟩

/-- THE ONE PURE STATEMENT of laws_FnCompacted: yours. -/
def laws_FnCompacted.Pure : Prop := ∀ (l0 : List Int), l0.length ≤ maxLen → l0.length * 1 ≤ 140737488351232 → (∀ x ∈ l0, (Lit.int .u8 x).wf = true) → ∃ k, laws_FnCompacted.f k l0 = some true
theorem laws_FnCompacted.walk (P : laws_FnCompacted.Pure) (a0 : Option Addr) (len0 cap0 : Nat) (z0 : List Int) (w : World) (w0 : (a0 = none ∧ len0 = 0 ∧ cap0 = 0 ∧ z0 = []) ∨ ∃ x, a0 = some x ∧ len0 ≤ cap0 ∧ cap0 ≤ maxLen ∧ z0.length = cap0 ∧ (∀ i, i < z0.length → w.cell? (x.add i) = some (.int .u8 (z0.getD i 0))) ∧ ∀ n ∈ z0, (Lit.int .u8 n).wf = true) (y0 : len0 * 1 ≤ 140737488351232) :
  Calls Try.prog 9 #[.slice a0 len0 cap0] w fun e w' => e = .returned (.bool true) ∧ Below w.heap.size w w' := by
 obtain ⟨l0, rfl, hr0, hm0, hw0, hc0⟩ := ReadsInt.ofRowC w0
 obtain ⟨k, h⟩ := P l0 hm0 y0 hw0
 refine (laws_FnCompacted.calls k _ _ l0 true w (Kd.C_of_reads (d := (0 : Int)) (h1 := fun _ => rfl) hr0) hc0 h).mono ?_
 rintro e w' ⟨rfl, hd⟩
 exact ⟨rfl, hd⟩

end Go.Proofs.Ytpcckoljocpchaa.QFnCompacted
