-- Written by a program of this session (mk.py). Lean checks it.
import Derived.Test.YtpcckoljocpchaaQFnAddPickx0
import Derived.Test.YtpcckoljocpchaaQFnAddPickx5
import Derived.Test.YtpcckoljocpchaaQFnAddPickx6
import Derived.Test.YtpcckoljocpchaaQFnAddPickx7
import Derived.Test.YtpcckoljocpchaaQFnAddPickx8
import Derived.Test.YtpcckoljocpchaaQFnAddPickx10
namespace Go.Proofs.Ytpcckoljocpchaa.QFnAddPick
open Go.RowKit Go.Proofs.YtpcckoljocpchaaW.PrintWords Go.Proofs.YtpcckoljocpchaaW.PrintLast Go.Proofs.YtpcckoljocpchaaW.PrintMore
attribute [local go_sem] max2_int min2_int max_two min_two max_three min_three max_four min_four   -- for this text's walks alone
set_option linter.unusedVariables false
set_option linter.unusedSimpArgs false

/-! ### spec_DrawAddPick: function 19 -/
def spec_DrawAddPick.f (k : Nat) (l0 : List Int) : Option (Int × (List (S92)) × Int × Int × Int) := (spec_DrawAddAnd.f k l0).bind fun bt270 => ((spec_l40Open.f l0).bind fun bt277 => ((spec_l7Some.f k bt277.1 bt277.2 bt270.1 bt270.2.1).bind fun bt280 => (some (bt270.1, bt270.2.1, bt280.1, bt270.2.2.1, bt270.2.2.2))))
theorem spec_DrawAddPick.mono : ∀ a0 k, LeO (spec_DrawAddPick.f k a0) (spec_DrawAddPick.f (k + 1) a0) := by
 intro a0 k
 unfold spec_DrawAddPick.f
 repeat' first
   | (with_reducible exact spec_DrawAddAnd.mono _ _)
   | (with_reducible exact spec_l7Some.mono _ _ _ _ _)
   | (with_reducible exact LeO.refl _)
   | (with_reducible exact LeO.none _)
   | (with_reducible refine LeO.ite ?_ ?_)
   | (with_reducible refine LeO.bind ?_ (fun _ => ?_))
   | exact spec_DrawAddAnd.mono _ _
   | exact spec_l7Some.mono _ _ _ _ _
   | exact LeO.none _
   | refine LeO.ite ?_ ?_
   | refine LeO.bind ?_ (fun _ => ?_)
def spec_DrawAddPick.T3 : Bool × List (List Nat × List Nat) := (true, [([], []), ([], []), ([], []), ([1, 2], [1, 2]), ([], []), ([], []), ([0, 3, 0], [0]), ([3, 6, 0, 1, 2, 3, 6], [3]), ([4, 7, 0, 1, 2, 3, 4, 6, 7], [4]), ([5, 8, 0, 1, 2, 3, 4, 5, 6, 7, 8], [5])])
def spec_DrawAddPick.B3 : List Nat := [0, 0, 0, 6, 0, 0, 15, 79, 223, 511]
theorem spec_DrawAddPick.tab3 : rtab .any (opsOf Try.f19 3) = spec_DrawAddPick.T3 := by kernel_rfl
theorem spec_DrawAddPick.bits3 : waitsOk spec_DrawAddPick.T3.2 spec_DrawAddPick.B3 = true := by kernel_rfl
set_option maxHeartbeats 8000000 in
set_option maxRecDepth 100000 in
theorem spec_DrawAddPick.calls (k : Nat) (A0 : Option Addr) (c0 : Nat) (l0 : List Int) (r1 : Int) (r2 : List (S92)) (r3 : Int) (r4 : Int) (r5 : Int) (w : World) (hr0 : Kd.C (Kd.int .u8) w A0 l0.length l0) (hc0 : l0.length ≤ c0) (h : spec_DrawAddPick.f k l0 = some (r1, r2, r3, r4, r5)) :
  Calls Try.prog 19 #[.slice A0 l0.length c0] w fun e w' => ∃ v1_ : Value, e = .returned (.tuple #[.agg #[.int .i64 r1, v1_], .int .i64 r3, .int .i64 r4, .int .i64 r5]) ∧ Kd.R k92 92 w' w.heap.size (fun _ => True) v1_ r2 ∧ Below w.heap.size w w' := by
 have hu28 := Try.underlying28
 have HR0 := Aside0.mk hr0
 have HC0 := Aside0.mk hc0
 clear hr0 hc0
 have HB := Aside0.mk (Below.refl w.heap.size w)
 have H : ((spec_DrawAddAnd.f k l0).bind fun bt270 => ((spec_l40Open.f l0).bind fun bt277 => ((spec_l7Some.f k bt277.1 bt277.2 bt270.1 bt270.2.1).bind fun bt280 => (some (bt270.1, bt270.2.1, bt280.1, bt270.2.2.1, bt270.2.2.2))))) = some (r1, r2, r3, r4, r5) := h
 clear h
 replace H := Option.bind_eq_some_iff.mp H
 obtain ⟨⟨t270, t271, t274, t275⟩, A20, H⟩ := H
 replace H : ((spec_l40Open.f l0).bind fun bt277 => ((spec_l7Some.f k bt277.1 bt277.2 t270 t271).bind fun bt280 => (some (t270, t271, bt280.1, t274, t275)))) = some (r1, r2, r3, r4, r5) := H
 have A2 := Aside0.mk A20
 clear A20
 replace H := Option.bind_eq_some_iff.mp H
 obtain ⟨⟨t277, t278⟩, A30, H⟩ := H
 replace H : ((spec_l7Some.f k t277 t278 t270 t271).bind fun bt280 => (some (t270, t271, bt280.1, t274, t275))) = some (r1, r2, r3, r4, r5) := H
 have A3 := Aside0.mk A30
 clear A30
 replace H := Option.bind_eq_some_iff.mp H
 obtain ⟨⟨t280, t281⟩, A40, H⟩ := H
 replace H : (some (t270, t271, t280, t274, t275)) = some (r1, r2, r3, r4, r5) := H
 have A4 := Aside0.mk A40
 clear A40
 simp only [Option.some.injEq, Prod.mk.injEq] at H
 obtain ⟨rfl, rfl, rfl, rfl, rfl⟩ := H
 go_enter Try.func19, Try.ntmps19
 try go_wp2_with (first | ((with_reducible refine gate_dst (N := 2) rfl ?_); refine box_event ?hg (N := 2) ?hd (cs := #[.int .i64 0, .slice none 0 0]) (t := 28) ?hr ?_; (case hd => rfl); (case hg => rfl); (case hr => first | (go_simp; done) | (go_simp; rfl)); intro gb269 hg w5 hbox hb; have n0_ := Aside0.mk (below_step hbB hb); have n1_ := Aside0.mk (hbox); have n2_ := Aside0.mk ((gwb hg (below_size hbB) : w.heap.size ≤ gb269)); have n3_ := n2_; clear HB; have HB := n0_; have BK269 := n1_; have GW269 := n2_; have GE269 := n3_; clear n0_ n1_ n2_ n3_; clear hb hbox hg) | ((with_reducible refine gate_callee (f := 66) rfl ?_); refine goesL_ (some 12) rfl rfl Try.func66 (by kernel_rfl) rfl #[.slice A0 l0.length c0] rfl lmB ?_; (with_reducible refine (spec_DrawAddAnd.calls k _ _ l0 t270 t271 t274 t275 _ ?side1 ?side2 A2.out).mono ?_); (case side1 => exact kcR (Kd.C_below HR0.out HB.out)); (case side2 => exact HC0.out); rintro e w6 ⟨v272, rfl, ho0, hb⟩; refine ⟨_, rfl, ?_⟩; have n0_ := Aside0.mk (Kd.R_lower ho0 (below_size hbC)); have n1_ := Aside0.mk (blk_below (g := gb269) (o := .cells #[.int .i64 0, .slice none 0 0] 28 (0, 0)) (bvK BK269.out) hb); have n2_ := Aside0.mk (below_step hbC hb); clear BK269; clear HB; have HO273 := n0_; have BK269 := n1_; have HB := n2_; clear n0_ n1_ n2_; (try clear hb); (try clear hb2); (try clear hk); (try clear hi); (try clear ho0)) | ((with_reducible refine gate_dst (N := 6) rfl ?_); refine box_event ?hg (N := 6) ?hd (cs := #[.int .i64 0, .slice none 0 0]) (t := 28) ?hr ?_; (case hd => rfl); (case hg => rfl); (case hr => first | (go_simp; done) | (go_simp; rfl)); intro gb276 hg w7 hbox hb; have n0_ := Aside0.mk (Kd.R_below (rvR HO273.out) hb); have n1_ := Aside0.mk (blk_below (g := gb269) (o := .cells #[.int .i64 0, .slice none 0 0] 28 (0, 0)) (bvK BK269.out) hb); have n2_ := Aside0.mk (below_step hbC hb); have n3_ := Aside0.mk (hbox); have n4_ := Aside0.mk ((gwb hg (below_size hbC) : w.heap.size ≤ gb276)); have n5_ := n4_; have n6_ := Aside0.mk ((by rw [hg]; exact Nat.ne_of_lt (blk_lt (g := gb269) (o := .cells #[.int .i64 0, .slice none 0 0] 28 (0, 0)) (bvK BK269.out)) : gb269 ≠ gb276)); have n7_ := Aside0.mk ((by rw [hg]; exact Nat.ne_of_gt (blk_lt (g := gb269) (o := .cells #[.int .i64 0, .slice none 0 0] 28 (0, 0)) (bvK BK269.out)) : gb276 ≠ gb269)); clear HO273; clear BK269; clear HB; have HO273 := n0_; have BK269 := n1_; have HB := n2_; have BK276 := n3_; have GW276 := n4_; have GE276 := n5_; have NB269_276 := n6_; have NB276_269 := n7_; clear n0_ n1_ n2_ n3_ n4_ n5_ n6_ n7_; clear hb hbox hg; have hnb8 := NB276_269.out; have hnc8 := NB269_276.out; have hcz9_0 : w7.cell? ⟨gb276, 0, none⟩ = some (.int .i64 0) := (blk_cell BK276.out 0).trans rfl; have hcz9_1 : w7.cell? ⟨gb276, 1, none⟩ = some (.slice none 0 0) := (blk_cell BK276.out 1).trans rfl; have hfz9_0 := blk_frozen BK276.out 0; have hfz9_1 := blk_frozen BK276.out 1; obtain ⟨Ao10, co10, eo10⟩ := Kd.R_slice HO273.out; subst eo10) | ((with_reducible refine gate_callee (f := 67) rfl ?_); refine goesL_ (some 17) rfl rfl Try.func67 (by kernel_rfl) rfl #[.slice A0 l0.length c0] rfl lmB ?_; (with_reducible refine (spec_l40Open.calls _ _ l0 t277 t278 w _ ?side1 ?side2 ?side3 A3.out).mono ?_); (case side1 => repeat (first | (with_reducible first | exact HB.out | apply bwA | apply bwN | apply bwD | refine below_set ?_ GE269.out | refine below_set ?_ GE276.out) | exact HB.out)); (case side2 => exact HR0.out); (case side3 => exact HC0.out); rintro e w11 ⟨g279, rfl, hi, hb, hb2⟩; refine ⟨_, rfl, ?_⟩; have n0_ := Aside0.mk (Kd.R_below (by (with_reducible repeat (first | apply Kd.R_alloc | apply Kd.R_drewN | apply Kd.R_drew)); exact (Kd.R_mono (Kd.R_far (p := ⟨gb276, 1, none⟩) (Kd.R_far (p := ⟨gb276, 0, none⟩) (Kd.R_types HO273.out BK276.out (by decide)) (fun _ hk => hk.2) (.int .i64 t270)) (fun _ hk => hk.2) (.slice Ao10 t271.length co10)) (fun _ h_ => h_.1))) hb2); have n1_ := Aside0.mk (blk_below (g := gb269) (o := .cells #[.int .i64 0, .slice none 0 0] 28 (0, 0)) (by (with_reducible repeat (first | refine blk_drewN ?_ _ | refine blk_drew ?_ | refine blk_alloc ?_ _)); refine blk_far ?_ NB269_276.out _; (with_reducible repeat (first | refine blk_drewN ?_ _ | refine blk_drew ?_ | refine blk_alloc ?_ _)); refine blk_far ?_ NB269_276.out _; (with_reducible repeat (first | refine blk_drewN ?_ _ | refine blk_drew ?_ | refine blk_alloc ?_ _)); exact BK269.out) hb2); have n2_ := Aside0.mk (blk_below (g := gb276) (o := .cells #[.int .i64 t270, .slice Ao10 t271.length co10] 28 (0, 0)) (by (with_reducible repeat (first | refine blk_drewN ?_ _ | refine blk_drew ?_ | refine blk_alloc ?_ _)); refine blk_put (cs := #[.int .i64 t270, .slice none 0 0]) ?_ 1 _ rfl; (with_reducible repeat (first | refine blk_drewN ?_ _ | refine blk_drew ?_ | refine blk_alloc ?_ _)); refine blk_put (cs := #[.int .i64 0, .slice none 0 0]) ?_ 0 _ rfl; (with_reducible repeat (first | refine blk_drewN ?_ _ | refine blk_drew ?_ | refine blk_alloc ?_ _)); exact BK276.out) hb2); have n3_ := Aside0.mk (hb); have n4_ := Aside0.mk (hi); have n5_ := Aside0.mk (IsS121.ne_blk hi (blk_below (g := gb269) (o := .cells #[.int .i64 0, .slice none 0 0] 28 (0, 0)) (by (with_reducible repeat (first | refine blk_drewN ?_ _ | refine blk_drew ?_ | refine blk_alloc ?_ _)); refine blk_far ?_ NB269_276.out _; (with_reducible repeat (first | refine blk_drewN ?_ _ | refine blk_drew ?_ | refine blk_alloc ?_ _)); refine blk_far ?_ NB269_276.out _; (with_reducible repeat (first | refine blk_drewN ?_ _ | refine blk_drew ?_ | refine blk_alloc ?_ _)); exact BK269.out) hb2) (by decide)); have n6_ := Aside0.mk (Ne.symm (IsS121.ne_blk hi (blk_below (g := gb269) (o := .cells #[.int .i64 0, .slice none 0 0] 28 (0, 0)) (by (with_reducible repeat (first | refine blk_drewN ?_ _ | refine blk_drew ?_ | refine blk_alloc ?_ _)); refine blk_far ?_ NB269_276.out _; (with_reducible repeat (first | refine blk_drewN ?_ _ | refine blk_drew ?_ | refine blk_alloc ?_ _)); refine blk_far ?_ NB269_276.out _; (with_reducible repeat (first | refine blk_drewN ?_ _ | refine blk_drew ?_ | refine blk_alloc ?_ _)); exact BK269.out) hb2) (by decide))); have n7_ := Aside0.mk (IsS121.ne_blk hi (blk_below (g := gb276) (o := .cells #[.int .i64 t270, .slice Ao10 t271.length co10] 28 (0, 0)) (by (with_reducible repeat (first | refine blk_drewN ?_ _ | refine blk_drew ?_ | refine blk_alloc ?_ _)); refine blk_put (cs := #[.int .i64 t270, .slice none 0 0]) ?_ 1 _ rfl; (with_reducible repeat (first | refine blk_drewN ?_ _ | refine blk_drew ?_ | refine blk_alloc ?_ _)); refine blk_put (cs := #[.int .i64 0, .slice none 0 0]) ?_ 0 _ rfl; (with_reducible repeat (first | refine blk_drewN ?_ _ | refine blk_drew ?_ | refine blk_alloc ?_ _)); exact BK276.out) hb2) (by decide)); have n8_ := Aside0.mk (Ne.symm (IsS121.ne_blk hi (blk_below (g := gb276) (o := .cells #[.int .i64 t270, .slice Ao10 t271.length co10] 28 (0, 0)) (by (with_reducible repeat (first | refine blk_drewN ?_ _ | refine blk_drew ?_ | refine blk_alloc ?_ _)); refine blk_put (cs := #[.int .i64 t270, .slice none 0 0]) ?_ 1 _ rfl; (with_reducible repeat (first | refine blk_drewN ?_ _ | refine blk_drew ?_ | refine blk_alloc ?_ _)); refine blk_put (cs := #[.int .i64 0, .slice none 0 0]) ?_ 0 _ rfl; (with_reducible repeat (first | refine blk_drewN ?_ _ | refine blk_drew ?_ | refine blk_alloc ?_ _)); exact BK276.out) hb2) (by decide))); clear HO273; clear BK269; clear BK276; clear HB; have HO273 := n0_; have BK269 := n1_; have BK276 := n2_; have HB := n3_; have HI279 := n4_; have NB279_269 := n5_; have NB269_279 := n6_; have NB279_276 := n7_; have NB276_279 := n8_; clear n0_ n1_ n2_ n3_ n4_ n5_ n6_ n7_ n8_; (try clear hb); (try clear hb2); (try clear hk); (try clear hi)))
 have n0_ := Aside0.mk (Kd.R_drew HO273.out)
 have n1_ := Aside0.mk (blk_drew BK269.out)
 have n2_ := Aside0.mk (blk_drew BK276.out)
 have n3_ := Aside0.mk (IsS121.drew HI279.out)
 have n4_ := Aside0.mk (below_drew1 HB.out)
 clear HO273
 clear BK269
 clear BK276
 clear HI279
 clear HB
 have HO273 := n0_
 have BK269 := n1_
 have BK276 := n2_
 have HI279 := n3_
 have HB := n4_
 clear n0_ n1_ n2_ n3_ n4_
 refine start_ (n := 10) (S := fun w' => w'.cell? ⟨gb276, 0, none⟩ = some (.int .i64 t270) ∧ w'.cell? ⟨gb276, 1, none⟩ = some (.slice Ao10 t271.length co10)) (ds := []) (Pt.bm 10 0) (by kernel_rfl) rfl rfl ⟨(blk_cell BK276.out 0).trans rfl, (blk_cell BK276.out 1).trans rfl⟩ (fun hHeld => ?_); refine with_tabW spec_DrawAddPick.tab3 spec_DrawAddPick.bits3 (fun HT_ HW_ => ?_)
 generalize w11.drew = w12 at HO273 BK269 BK276 HI279 HB hHeld ⊢
 refine Pt.pu 1 (some 19) (Pt.bm 10 2) (any_of HT_.out (by kernel_rfl)) ?_
 refine Pt.pu 4 (some 22) (Pt.bm 10 18) (any_of HT_.out (by kernel_rfl)) ?_
 refine Pt.pu 5 (some 23) (Pt.bm 10 50) (any_of HT_.out (by kernel_rfl)) ?_
 refine Pt.tk 0 (some 18) (Pt.bm 10 51) rfl rfl (take_ofW HT_.out HW_.out (by kernel_rfl)) hHeld (Or.inl ⟨by rfl, by rintro w' ⟨s0, s1⟩; go_simp; with_reducible rfl⟩) ?_
 refine Pt.tk 2 (some 20) (Pt.bm 10 55) rfl rfl (take_ofW HT_.out HW_.out (by kernel_rfl)) hHeld (Or.inl ⟨by rfl, by rintro w' ⟨s0, s1⟩; go_simp; with_reducible rfl⟩) ?_
 refine one_ (i := 3) (N := some 21) (Pt.bm 10 63) rfl rfl (one_of HT_.out (by kernel_rfl)) (by decide) (fun K hK => ?_)
 refine goes_ Try.func68 (by kernel_rfl) rfl #[.pointer (some ⟨g279, 0, none⟩), .agg #[.int .i64 t270, .slice Ao10 t271.length co10]] (by rfl) rfl rfl lmB ?_
 with_reducible refine (spec_l7Some.calls k g279 t277 t278 t270 _ _ t271 t280 t281 w _ ?side1 ?side2 ?side3 ?side4 A4.out).mono ?_
 (case side1 => repeat (first | (with_reducible first | exact HI279.out | apply IsS121.alloc | apply IsS121.drewN | apply IsS121.drew | apply IsS121.set_1 | refine IsS121.far ?_ NB279_269.out _ | refine IsS121.far ?_ NB279_276.out _) | exact HI279.out))
 (case side2 => repeat (first | (with_reducible first | exact HB.out | apply bwA | apply bwN | apply bwD | refine below_set ?_ (IsS121.ge HI279.out) | refine below_set ?_ GE269.out | refine below_set ?_ GE276.out) | exact HB.out))
 (case side3 => exact Kd.C_foot_own (IsS121.apart (show IsS121 w _ g279 t277 t278 from by repeat (first | (with_reducible first | exact HI279.out | apply IsS121.alloc | apply IsS121.drewN | apply IsS121.drew | apply IsS121.set_1 | refine IsS121.far ?_ NB279_269.out _ | refine IsS121.far ?_ NB279_276.out _) | exact HI279.out)) (rvR HO273.out) (by decide)) (fun _ h_ => h_.2))
 (case side4 => exact (Kd.R_reads' HO273.out).2.1)
 rintro e w13 ⟨rfl, hi, hb, hk⟩
 refine ⟨_, rfl, ?_⟩
 have n0_ := Aside0.mk (KeepBut.blk hk (g' := gb269) (o := .cells #[.int .i64 0, .slice none 0 0] 28 (0, 0)) (bvK BK269.out) NB269_279.out (by simp))
 have n1_ := Aside0.mk (Kd.R_mono (Kd.R_keep (IsS121.apart (show IsS121 w _ g279 t277 t278 from by repeat (first | (with_reducible first | exact HI279.out | apply IsS121.alloc | apply IsS121.drewN | apply IsS121.drew | apply IsS121.set_1 | refine IsS121.far ?_ NB279_269.out _ | refine IsS121.far ?_ NB279_276.out _) | exact HI279.out)) (rvR HO273.out) (by decide)) hk (fun _ h => h.2)) (fun _ h => h.1))
 have n2_ := Aside0.mk (KeepBut.blk hk (g' := gb276) (o := .cells #[.int .i64 t270, .slice Ao10 t271.length co10] 28 (0, 0)) (bvK BK276.out) NB276_279.out (by simp))
 have n3_ := Aside0.mk (hb)
 have n4_ := Aside0.mk (hi)
 clear BK269
 clear HO273
 clear BK276
 clear HB
 clear HI279
 have BK269 := n0_
 have HO273 := n1_
 have BK276 := n2_
 have HB := n3_
 have HI279 := n4_
 clear n0_ n1_ n2_ n3_ n4_
 (try clear hb)
 (try clear hb2)
 (try clear hk)
 (try clear hi)
 refine hK.out _ _ ⟨(blk_cell BK276.out 0).trans rfl, (blk_cell BK276.out 1).trans rfl⟩ (fun hHeld => ?_)
 clear hK K
 refine norm_ (a' := ?_) ?_ ?_
 rotate_left
 ·show Act.put _ (some 21) _ = _
  simp only [Act.put, List.setIfInBounds_toArray, List.set_cons_zero, List.set_cons_succ, i64_w, i32_w]
  rfl
 refine one_ (i := 6) (N := none) (Pt.bm 10 127) rfl rfl (one_of HT_.out (by kernel_rfl)) (by decide) (fun K hK => ?_)
 have hs14 : w13.cell? ⟨gb269, 0, none⟩ = some (.int .i64 0) := (blk_cell BK269.out 0).trans rfl
 have hfs14 := blk_frozen BK269.out 0
 have hns14_1 := NB276_269.out
 have hms14_1 := NB269_276.out
 have hs15 : w13.cell? ⟨gb269, 1, none⟩ = some (.slice none 0 0) := (blk_cell BK269.out 1).trans rfl
 have hfs15 := blk_frozen BK269.out 1
 have hns15_1 := NB276_269.out
 have hms15_1 := NB269_276.out
 refine skip_ (w1 := ?_) (by rfl) rfl ?_ ?_
 rotate_left
 ·go_simp
  rfl
 refine hK.out _ _ ⟨((cell_far (p := ⟨gb269, _, none⟩) NB276_269.out _).trans (((cell_far (p := ⟨gb269, _, none⟩) NB276_269.out _).trans (hHeld.1)))), ((cell_far (p := ⟨gb269, _, none⟩) NB276_269.out _).trans (((cell_far (p := ⟨gb269, _, none⟩) NB276_269.out _).trans (hHeld.2))))⟩ (fun hHeld => ?_)
 clear hK K
 refine Pt.pu 7 (some 3) (Pt.bm 10 255) (any_of HT_.out (by kernel_rfl)) ?_
 refine Pt.pu 8 (some 4) (Pt.bm 10 511) (any_of HT_.out (by kernel_rfl)) ?_
 refine Pt.pu 9 (some 5) (Pt.bm 10 1023) (any_of HT_.out (by kernel_rfl)) ?_
 refine done_ (done_of HT_.out (by kernel_rfl)) ?_
 try go_wp2
 refine bodyPost_ret (results_list (rs := [.cell 2 28, .tmp 3, .tmp 4, .tmp 5]) rfl (by simp) (.cell gb269 28 #[.int .i64 t270, .slice Ao10 t271.length co10] (0, 0) _ rfl (by (with_reducible repeat (first | refine blk_drewN ?_ _ | refine blk_drew ?_ | refine blk_alloc ?_ _)); refine blk_put (cs := #[.int .i64 t270, .slice none 0 0]) ?_ 1 _ rfl; (with_reducible repeat (first | refine blk_drewN ?_ _ | refine blk_drew ?_ | refine blk_alloc ?_ _)); refine blk_put (cs := #[.int .i64 0, .slice none 0 0]) ?_ 0 _ rfl; (with_reducible repeat (first | refine blk_drewN ?_ _ | refine blk_drew ?_ | refine blk_alloc ?_ _)); exact BK269.out) Try.underlying28 rfl (by kernel_rfl) (.tmp (.tmp (.tmp .nil))))) rfl ?_
 exact ⟨_, ers, by (with_reducible repeat (first | apply Kd.R_alloc | apply Kd.R_drewN | apply Kd.R_drew)); exact Kd.R_mono (Kd.R_far (p := ⟨gb269, 1, none⟩) (Kd.R_far (p := ⟨gb269, 0, none⟩) (Kd.R_types HO273.out BK269.out (by decide)) (fun _ hk => hk.2) (.int .i64 t270)) (fun _ hk => hk.2) (.slice Ao10 t271.length co10)) (fun _ hk => trivial), by repeat (first | (with_reducible first | exact HB.out | apply bwA | apply bwN | apply bwD | refine below_set ?_ (IsS121.ge HI279.out) | refine below_set ?_ GE269.out | refine below_set ?_ GE276.out) | exact HB.out)⟩

/-! ### slices_IndexFunc_int_int: function 136 -/
set_option maxHeartbeats 400000 in
theorem slices_IndexFunc_int_int.calls (g : Nat) (lb : Array Value) (eg : ∀ args w, (callFunc g args).run Try.prog w = .ok (.enter g args) w)
  (A0 : Option Addr) (c0 : Nat) (l0 : List Int) (p : Int → Option Bool) (r : Int) (w : World) (hr0 : Kd.C (Kd.int .i64) w A0 l0.length l0)
  (hp : ∀ (i : Int), 0 ≤ i → i < l0.length → ∀ b, p i = some b → ∀ W, Below w.heap.size w W → Calls Try.prog g (#[.int .i64 (rd l0 i)] ++ lb) W fun e w' => e = .returned (.bool b) ∧ Below W.heap.size W w')
  (h : Copy.idxO p l0.length 0 = some r) :
  Calls Try.prog 136 #[.slice A0 l0.length c0, .func (.func g) #[] lb] w fun e w' => e = .returned (.int .i64 r) ∧ Below w.heap.size w w' := by
 have hn : l0.length ≤ 9223372036854775807 := hr0.2.1
 have HR0 := Aside0.mk hr0
 have HP := Aside0.mk hp
 have H := Aside0.mk h
 clear hp hr0 h
 go_enter Try.func136, Try.ntmps136
 go_wp2
 go_loopg [5, 8] l0.length (fun gg _ s8 wr => ∃ kk : Int, 0 ≤ kk ∧ kk ≤ (l0.length : Int) ∧ Aside0 (l0.length ≤ gg + kk) ∧ s8 = .int .i64 kk ∧ Aside0 (Below w.heap.size w wr) ∧ Aside0 (Copy.idxO p (l0.length - kk.toNat) kk = some r))
 case atStart => exact ⟨0, by omega, by omega, ⟨by omega⟩, rfl, ⟨Below.refl _ _⟩, H⟩
 case round =>
  clear H
  obtain ⟨kk, h0, hkk, hg, rfl, HB, A⟩ := hrel
  by_cases hlt : kk < (l0.length : Int)
  ·have hltb : decide (kk < (l0.length : Int)) = true := decide_eq_true hlt
   obtain ⟨ad, e1, hx0⟩ := Kd.at_int (Kd.C_below HR0.out HB.out) kk h0 hlt
   cases e1
   have hd : l0.length - kk.toNat = (l0.length - (kk + 1).toNat) + 1 := by omega
   have A1 := A.out
   rw [hd, Copy.idxO] at A1
   clear A hd
   obtain ⟨b, hq, A1⟩ := Option.bind_eq_some_iff.mp A1
   have hcall := Aside0.mk (HP.out kk h0 hlt b hq _ HB.out)
   have H0 := Aside0.mk h0
   replace h0 := eq_true h0
   clear hq
   cases b with
   | true =>
    rw [if_pos rfl] at A1
    obtain rfl := Option.some.inj A1
    clear A1
    go_wp2_with (go_at_fn g; refine hcall.out.mono ?_; rintro e w' ⟨rfl, HB1⟩)
    go_ret
    exact ⟨rfl, below_then HB.out HB.out.size HB1⟩
   | false =>
    have A' := Aside0.mk A1
    clear A1
    have hw : wrap64 (kk + 1) = kk + 1 := by have := H0.out; unfold wrap64; omega
    have HW := Aside0.mk hw
    clear hw
    go_wp2_with (go_at_fn g; refine hcall.out.mono ?_; rintro e w' ⟨rfl, HB1⟩)
    go_roundg (l0.length - (kk + 1).toNat)
    case measure => have := hg.out; have := H0.out; omega
    case rel => exact ⟨kk + 1, by have := H0.out; omega, by omega, ⟨by have := H0.out; omega⟩, by first | rfl | rw [HW.out], ⟨below_then HB.out HB.out.size HB1⟩, ⟨by have := A'.out; simpa using this⟩⟩
  ·have hltb : decide (kk < (l0.length : Int)) = false := decide_eq_false hlt
   have this : kk.toNat = l0.length := by omega
   have A1 := A.out
   rw [this, Nat.sub_self, Copy.idxO] at A1
   obtain rfl := Option.some.inj A1
   clear A A1 this
   go_wp2
   go_ret
   exact ⟨rfl, HB.out⟩

/-! ### slices_ContainsFunc_int_int: function 112 -/
set_option maxHeartbeats 400000 in
theorem slices_ContainsFunc_int_int.calls (g : Nat) (lb : Array Value) (eg : ∀ args w, (callFunc g args).run Try.prog w = .ok (.enter g args) w)
  (A0 : Option Addr) (c0 : Nat) (l0 : List Int) (p : Int → Option Bool) (r : Int) (w : World) (hr0 : Kd.C (Kd.int .i64) w A0 l0.length l0)
  (hp : ∀ (i : Int), 0 ≤ i → i < l0.length → ∀ b, p i = some b → ∀ W, Below w.heap.size w W → Calls Try.prog g (#[.int .i64 (rd l0 i)] ++ lb) W fun e w' => e = .returned (.bool b) ∧ Below W.heap.size W w')
  (h : Copy.idxO p l0.length 0 = some r) :
  Calls Try.prog 112 #[.slice A0 l0.length c0, .func (.func g) #[] lb] w fun e w' => e = .returned (.bool (decide (0 ≤ r))) ∧ Below w.heap.size w w' := by
 have HC := Aside0.mk (slices_IndexFunc_int_int.calls g lb eg A0 c0 l0 p r w hr0 hp h)
 clear hp hr0 h
 go_enter Try.func112, Try.ntmps112
 go_wp2_with (go_at_call 136; refine HC.out.mono ?_; rintro e w' ⟨rfl, HB1⟩)
 go_ret
 exact ⟨rfl, HB1⟩

/-! ### impl_bitsValid: function 69 -/
def impl_bitsValid.p (l0 : List Int) (i : Int) : Option Bool := (impl_in.f (rd l0 i) 0 1).bind fun b => some (!b)
theorem impl_bitsValid_pred (l0 : List Int) (w : World) : ∀ (i : Int), 0 ≤ i → i < l0.length → ∀ b, impl_bitsValid.p l0 i = some b → ∀ W, Below w.heap.size w W → Calls Try.prog 113 (#[.int .i64 (rd l0 i)] ++ #[]) W fun e w' => e = .returned (.bool b) ∧ Below W.heap.size W w' := by
 intro i h0 h1 b hb W hW
 obtain ⟨b1, hb1, hb2⟩ := Option.bind_eq_some_iff.mp hb
 obtain rfl := Option.some.inj hb2
 clear hb hb2
 have HC := Aside0.mk (impl_in.calls (rd l0 i) 0 1 b1 W hb1)
 clear hb1 hW h0 h1
 show Calls Try.prog 113 #[.int .i64 (rd l0 i)] W _
 generalize rd l0 i = x at HC ⊢
 cases b1
 all_goals
  go_enter Try.func113, Try.ntmps113
  go_wp2_with (go_at_call 73; refine HC.out.mono ?_; rintro e w' ⟨rfl, ⟨nd, rfl⟩⟩)
  go_ret
  exact ⟨by first | rfl | simp, by first | exact (Drawn0.below ⟨nd, rfl⟩) | exact Drawn0.below (Drawn0.mk ⟨_, rfl⟩)⟩
def impl_bitsValid.f (l0 : List Int) : Option Bool := (Copy.idxO (impl_bitsValid.p l0) l0.length 0).bind fun r => some (!(decide (0 ≤ r)))
set_option maxHeartbeats 400000 in
theorem impl_bitsValid.calls (A0 : Option Addr) (c0 : Nat) (l0 : List Int) (r : Bool) (w : World) (hr0 : Kd.C (Kd.int .i64) w A0 l0.length l0) (hc0 : l0.length ≤ c0) (h : impl_bitsValid.f l0 = some r) :
  Calls Try.prog 69 #[.slice A0 l0.length c0] w fun e w' => e = .returned (.bool r) ∧ Below w.heap.size w w' := by
 have eg : ∀ args w, (callFunc 113 args).run Try.prog w = .ok (.enter 113 args) w := enters_of Try.func113 (by kernel_rfl) rfl
 unfold impl_bitsValid.f at h
 obtain ⟨ri, hi, h⟩ := Option.bind_eq_some_iff.mp h
 obtain rfl := Option.some.inj h
 have HC := slices_ContainsFunc_int_int.calls 113 #[] eg A0 c0 l0 _ ri w hr0 (impl_bitsValid_pred l0 w) hi
 clear hi h hr0 eg
 generalize decide (0 ≤ ri) = b at HC ⊢
 have HC' := Aside0.mk HC
 clear HC
 cases b
 all_goals
  go_enter Try.func69, Try.ntmps69
  go_wp2_with (go_at_call 112; refine HC'.out.mono ?_; rintro e w' ⟨rfl, HB1⟩)
  go_ret
  exact ⟨by first | rfl | simp, HB1⟩

/-! ### impl_clone_int: function 70 -/
def impl_clone_int.f (l0 : List Int) : Option (List Int) := if l0.length ≤ 35184372088832 then some l0 else none
set_option maxHeartbeats 400000 in
set_option maxRecDepth 100000 in
theorem impl_clone_int.calls (A0 : Option Addr) (c0 : Nat) (l0 : List Int) (r : List Int) (w : World) (hr0 : Kd.C (Kd.int .i64) w A0 l0.length l0) (hc0 : l0.length ≤ c0) (h : impl_clone_int.f l0 = some r) :
  Calls Try.prog 70 #[.slice A0 l0.length c0] w fun e w' => ∃ v0_ : Value, e = .returned (v0_) ∧ Kd.R (Kd.int .i64) 3 w' w.heap.size (fun _ => True) v0_ r ∧ Below w.heap.size w w' := by
 unfold impl_clone_int.f at h
 by_cases c1 : l0.length ≤ 35184372088832
 ·rw [if_pos c1] at h
  obtain rfl := Option.some.inj h
  clear h
  have HR0 := Aside0.mk hr0
  have C1 := Aside0.mk c1
  clear hr0 c1
  by_cases c2 : l0.length = 0
  ·have c2b : ((l0.length : Int) == 0) = true := by rw [beq_iff_eq]; omega
   have HL := Aside0.mk (List.eq_nil_of_length_eq_zero c2)
   clear c2
   go_enter Try.func70, Try.ntmps70
   go_wp2
   go_ret
   exact ⟨_, rfl, by rw [HL.out]; exact Kd.R_nil _ _ _ _ _, Below.refl _ _⟩
  ·have c2b : ((l0.length : Int) == 0) = false := by rw [beq_eq_false_iff_ne]; omega
   have c2c : (l0.length == 0) = false := by rw [beq_eq_false_iff_ne]; omega
   go_enter Try.func70, Try.ntmps70
   go_wp2_with (first | ((with_reducible refine gate_dst (N := 9) rfl ?_); refine Kd.R_make (Kd.int .i64) _ 3 rfl (N := 9) rfl 38 _ _ rfl (l0.length : Int) rfl rfl Try.underlying38 (.int .i64 0) 8 info3 rfl (by decide) (by omega) 0 (ok := fun _ => True) (okp := fun _ => True) rfl (fun _ hk => hk) trivial (by omega) (by have := C1.out; omega) (Below.refl _ _) (Nat.le_refl _) ?_; intro v178 w4 ho5 hb hg_ hnew_; clear hg_ hnew_; have HO := Aside0.mk ho5; have HB := Aside0.mk hb; clear hb ho5) | ((with_reducible refine gate_dst (N := 12) rfl ?_); refine Copy.R_copy (w0 := w) (xs := List.replicate (l0.length : Int).toNat 0) (ys := l0) w.heap.size 3 rfl _ _ 38 38 rfl Try.underlying38 (by kernel_rfl) rfl rfl (by simp) HO.out (Kd.C_below HR0.out HB.out) HB.out ?_; intro w5 ho5 hb; clear HB; have HO5 := Aside0.mk ho5; have HB := Aside0.mk hb; clear hb ho5))
   go_ret
   exact ⟨_, rfl, HO5.out, HB.out⟩
 ·rw [if_neg c1] at h
  exact absurd h (by simp)

/-! ### impl_edgeOf: function 72 -/
def impl_edgeOf.f (l0 : List Int) (a1 : Int) : Option (Int) := if 0 ≤ (wrap64 (Int.tdiv a1 2)) then (if (wrap64 (Int.tdiv a1 2)) < (l0.length : Int) then (some (Go.bits .xor .i64 (rd l0 (wrap64 (Int.tdiv a1 2))) (Go.bits .and .i64 a1 1))) else (none)) else (none)
set_option maxHeartbeats 8000000 in
set_option maxRecDepth 100000 in
theorem impl_edgeOf.calls (A0 : Option Addr) (c0 : Nat) (l0 : List Int) (a1 : Int) (r : Int) (w : World) (hr0 : Kd.C (Kd.int .i64) w A0 l0.length l0) (hc0 : l0.length ≤ c0) (h : impl_edgeOf.f l0 a1 = some r) :
  Calls Try.prog 72 #[.slice A0 l0.length c0, .int .i64 a1] w fun e w' => e = .returned (.int .i64 r) ∧ Drawn0 w w' := by
 have HR0 := Aside0.mk hr0
 have HC0 := Aside0.mk hc0
 clear hr0 hc0
 have H : (if 0 ≤ (wrap64 (Int.tdiv a1 2)) then (if (wrap64 (Int.tdiv a1 2)) < (l0.length : Int) then (some (Go.bits .xor .i64 (rd l0 (wrap64 (Int.tdiv a1 2))) (Go.bits .and .i64 a1 1))) else (none)) else (none)) = some r := h
 clear h
 obtain ⟨ji3, hji3⟩ : ∃ j_ : Int, (wrap64 (Int.tdiv a1 2)) = j_ := ⟨_, rfl⟩
 replace H : (if 0 ≤ (ji3) then (if (ji3) < (l0.length : Int) then (some (Go.bits .xor .i64 (rd l0 (ji3)) (Go.bits .and .i64 a1 1))) else (none)) else (none)) = some r := by first | (rw [hji3] at H; exact H) | (simp only [hji3] at H ⊢; exact H)
 have hji3w : (IntKind.i64.wrap (Int.tdiv a1 2)) = ji3 := (i64_w _).trans hji3
 by_cases c4 : 0 ≤ (ji3)
 ·rw [if_pos c4] at H
  have c4b0 : decide (0 ≤ (ji3)) = true := decide_eq_true c4
  clear c4
  by_cases c5 : (ji3) < (l0.length : Int)
  ·rw [if_pos c5] at H
   have c5b0 : decide ((ji3) < (l0.length : Int)) = true := decide_eq_true c5
   clear c5
   obtain rfl := Option.some.inj H
   have p282 : 0 ≤ ((ji3) : Int) := oda
   have q282 : (ji3) < (l0.length : Int) := oda
   obtain ⟨ad282, e282, hx282_0⟩ := Kd.at_int HR0.out (ji3) p282 q282
   cases e282
   replace p282 := eq_true p282
   replace q282 := eq_true q282
   go_enter Try.func72, Try.ntmps72
   go_wp2
   go_ret
   exact ⟨by first | rfl | (simp; done) | (simp only [← hji3] <;> (first | rfl | simp)) | (simp [*]; done), by repeat (first | exact Drawn0.refl _ | apply Drawn0.step)⟩
  ·rw [if_neg c5] at H
   exact absurd H (by simp)
 ·rw [if_neg c4] at H
  exact absurd H (by simp)

/-! ### impl_Circuit_values: function 71 -/
def impl_Circuit_values.l0 : Nat → List Int → List (S92) → Int → Int → Option (List Int)
 | 0, _, _, _, _ => none
 | k + 1, x5, x12, x13, x14 => if x14 < x13 then (if 0 ≤ x14 then (if x14 < (x12.length : Int) then ((impl_edgeOf.f x5 ((rd_T92 x12 x14).f0)).bind fun t292 => ((impl_edgeOf.f x5 ((rd_T92 x12 x14).f1)).bind fun t293 => (if x5.length < 17592186044416 then (impl_Circuit_values.l0 k (x5 ++ [Go.bits .and .i64 t292 t293]) x12 x13 (wrap64 (x14 + 1))) else (none)))) else (none)) else (none)) else (some x5)
def impl_Circuit_values.f (k : Nat) (a0_0 : Int) (l0_1 : List (S92)) (l1 : List Int) : Option (List Int) := (some (([0] : List Int) : List Int)).bind fun y284 => (if y284.length + l1.length < 17592186044416 then (impl_Circuit_values.l0 k (y284 ++ l1) l0_1 (l0_1.length : Int) 0) else (none))
theorem impl_Circuit_values.mono_l : ∀ k, (∀ y0 y1 y2 y3, LeO (impl_Circuit_values.l0 k y0 y1 y2 y3) (impl_Circuit_values.l0 (k + 1) y0 y1 y2 y3))
 | 0 => fun _ _ _ _ r h => by simp [impl_Circuit_values.l0] at h
 | k + 1 => by
  have ih0 := impl_Circuit_values.mono_l k
  ·intro y0 y1 y2 y3
   unfold impl_Circuit_values.l0
   repeat' first
   | (with_reducible exact ih0 _ _ _ _)
   | (with_reducible exact LeO.refl _)
   | (with_reducible exact LeO.none _)
   | (with_reducible refine LeO.ite ?_ ?_)
   | (with_reducible refine LeO.bind ?_ (fun _ => ?_))
   | exact ih0 _ _ _ _
   | exact LeO.none _
   | refine LeO.ite ?_ ?_
   | refine LeO.bind ?_ (fun _ => ?_)
theorem impl_Circuit_values.mono : ∀ a0 a1 a2 k, LeO (impl_Circuit_values.f k a0 a1 a2) (impl_Circuit_values.f (k + 1) a0 a1 a2) := by
 intro a0 a1 a2 k
 have ih0 := impl_Circuit_values.mono_l k
 unfold impl_Circuit_values.f
 repeat' first
   | (with_reducible exact ih0 _ _ _ _)
   | (with_reducible exact LeO.refl _)
   | (with_reducible exact LeO.none _)
   | (with_reducible refine LeO.ite ?_ ?_)
   | (with_reducible refine LeO.bind ?_ (fun _ => ?_))
   | exact ih0 _ _ _ _
   | exact LeO.none _
   | refine LeO.ite ?_ ?_
   | refine LeO.bind ?_ (fun _ => ?_)
def impl_Circuit_values.T5 : Bool × List (List Nat × List Nat) := (true, [([], []), ([], []), ([], []), ([2], [2]), ([1, 3], [1, 3]), ([], []), ([], []), ([6], [6]), ([5, 7, 4], [5, 7]), ([4, 8], [4, 8]), ([9], [9]), ([0, 10, 8], [0, 10]), ([11, 11, 0, 1, 2, 3, 4, 5, 6, 7, 8, 9, 10, 11], [0, 1, 5, 11])])
def impl_Circuit_values.B5 : List Nat := [0, 0, 0, 4, 14, 0, 0, 64, 254, 510, 1022, 2047, 4095]
theorem impl_Circuit_values.tab5 : rtab .any (opsOf Try.f71 5) = impl_Circuit_values.T5 := by kernel_rfl
theorem impl_Circuit_values.bits5 : waitsOk impl_Circuit_values.T5.2 impl_Circuit_values.B5 = true := by kernel_rfl
set_option maxHeartbeats 8000000 in
set_option maxRecDepth 100000 in
theorem impl_Circuit_values.calls (k : Nat) (a0_0 : Int) (A0_1 : Option Addr) (c0_1 : Nat) (l0_1 : List (S92)) (A1 : Option Addr) (c1 : Nat) (l1 : List Int) (r : List Int) (w : World) (hr0_1 : Kd.C k92 w A0_1 l0_1.length l0_1) (hc0_1 : l0_1.length ≤ c0_1) (hr1 : Kd.C (Kd.int .i64) w A1 l1.length l1) (hc1 : l1.length ≤ c1) (h : impl_Circuit_values.f k a0_0 l0_1 l1 = some r) :
  Calls Try.prog 71 #[.agg #[.int .i64 a0_0, .slice A0_1 l0_1.length c0_1], .slice A1 l1.length c1] w fun e w' => ∃ v0_ : Value, e = .returned (v0_) ∧ Kd.R (Kd.int .i64) 3 w' w.heap.size (fun _ => True) v0_ r ∧ Below w.heap.size w w' := by
 have hu28 := Try.underlying28
 have hu92 := Try.underlying92
 have HR0_1 := Aside0.mk hr0_1
 have HC0_1 := Aside0.mk hc0_1
 clear hr0_1 hc0_1
 have HR1 := Aside0.mk hr1
 have HC1 := Aside0.mk hc1
 clear hr1 hc1
 have HB := Aside0.mk (Below.refl w.heap.size w)
 have H : ((some (([0] : List Int) : List Int)).bind fun y284 => (if y284.length + l1.length < 17592186044416 then (impl_Circuit_values.l0 k (y284 ++ l1) l0_1 (l0_1.length : Int) 0) else (none))) = some r := h
 clear h
 obtain ⟨y284, hy284⟩ : ∃ y_ : List Int, y_ = (([0] : List Int)) := ⟨_, rfl⟩
 replace H : (if y284.length + l1.length < 17592186044416 then (impl_Circuit_values.l0 k (y284 ++ l1) l0_1 (l0_1.length : Int) 0) else (none)) = some r := by first | (rw [hy284]; with_reducible exact H) | (have H2_ := (Option.bind_some _ _).symm.trans H; rw [hy284]; with_reducible exact H2_) | (have H2_ := (Option.bind_some _ _).symm.trans H; with_reducible exact H2_) | with_reducible exact H | (rw [hy284]; exact H) | exact H
 have Ny284 := Aside0.mk hy284
 clear hy284
 by_cases c3 : y284.length + l1.length < 17592186044416
 ·rw [if_pos c3] at H
  have LMc3 := Aside0.mk c3
  clear c3
  obtain ⟨y287, hy287⟩ : ∃ y_ : List Int, y_ = (y284 ++ l1) := ⟨_, rfl⟩
  replace H : (impl_Circuit_values.l0 k y287 l0_1 (l0_1.length : Int) 0) = some r := by first | (rw [hy287]; with_reducible exact H) | (have H2_ := (Option.bind_some _ _).symm.trans H; rw [hy287]; with_reducible exact H2_) | (have H2_ := (Option.bind_some _ _).symm.trans H; with_reducible exact H2_) | with_reducible exact H | (rw [hy287]; exact H) | exact H
  have Ny287 := Aside0.mk hy287
  clear hy287
  have H' := Aside0.mk H
  clear H
  go_enter Try.func71, Try.ntmps71
  go_wp2_with (first | ((with_reducible refine gate_dst (N := 2) rfl ?_); refine box_event ?hg (N := 2) ?hd (cs := #[.int .i64 a0_0, .slice A0_1 l0_1.length c0_1]) (t := 28) ?hr ?_; (case hd => rfl); (case hg => rfl); (case hr => first | (go_simp; done) | (go_simp; rfl)); intro gb283 hg w4 hbox hb; have n0_ := Aside0.mk (below_step hbB hb); have n1_ := Aside0.mk (hbox); have n2_ := Aside0.mk ((gwb hg (below_size hbB) : w.heap.size ≤ gb283)); have n3_ := n2_; clear HB; have HB := n0_; have BK283 := n1_; have GW283 := n2_; have GE283 := n3_; clear n0_ n1_ n2_ n3_; clear hb hbox hg) | ((with_reducible refine gate_dst (N := 8) rfl ?_); refine Kd.R_lit (Kd.int .i64) _ 3 ?hg (N := 8) ?hd (xs := ([0] : List Int)) (inner := [.int .i64 0]) (ok := fun _ => True) (okp := fun _ => True) ?hr ?hp (fun _ hk => hk) trivial (Below.refl _ _) (Nat.le_refl _) (by simp) ?_; (case hd => rfl); (case hg => rfl); (case hr => first | (go_simp; done) | (go_simp; rfl)); (case hp => exact (Reps.one (show Kd.M (Kd.int .i64) _ _ _ 0 [.int .i64 0] from rfl) (Reps.none _ _))); intro v285 w5 ho6 hb hg_ hnew_; clear hg_ hnew_; (first | rw [← Ny284.out] at ho6 | (simp only [Int.reduceToNat] at ho6; rw [← Ny284.out] at ho6)); have n0_ := Aside0.mk (Kd.R_lower ho6 (below_size hbC)); have n1_ := Aside0.mk (blk_below (g := gb283) (o := .cells #[.int .i64 a0_0, .slice A0_1 l0_1.length c0_1] 28 (0, 0)) (bvK BK283.out) hb); have n2_ := Aside0.mk (below_step hbC hb); clear BK283; clear HB; have HO286 := n0_; have BK283 := n1_; have HB := n2_; clear n0_ n1_ n2_; clear hb ho6) | ((with_reducible refine gate_builtin (b := .append) (xs := #[.tmp 8, .tmp 9]) rfl ?_); at_builtin; refine Kd.R_append_rows (Kd.int .i64) (w0 := w) w.heap.size rfl (.tmp 8) (.tmp 9) 38 3 (.int .i64 0) 8 rfl Try.underlying38 info3 rfl (by decide) (by omega) v285 y284 l1 _ _ _ (fun _ => True) (fun _ => False) rfl rfl ?aO ?aR (fun _ _ h => h) (fun _ h => h.elim) ?aF ?aB ?aS ?aL ?_; (case aR => repeat (first | exact (Kd.C_below HR1.out HB.out) | (with_reducible refine Kd.C_alloc ?_ _) | (with_reducible refine Kd.C_drewN ?_ _) | (with_reducible refine Kd.C_drew ?_))); (case aB => exact hbC); (case aF => exact (fun _ _ => trivial)); (case aO => exact (rvR HO286.out)); (case aS => exact (below_size hbC)); (case aL => have := LMc3.out; omega); intro v288 w7 ho hb hg hat; rw [← Ny287.out] at ho; have n0_ := Aside0.mk (blk_grown (g := gb283) (o := .cells #[.int .i64 a0_0, .slice A0_1 l0_1.length c0_1] 28 (0, 0)) (bvK BK283.out) hg (Kd.R_ne HO286.out BK283.out (by decide))); have n1_ := Aside0.mk (hb); have n2_ := Aside0.mk (ho); clear BK283; clear HB; clear HO286; have BK283 := n0_; have HB := n1_; have HO289 := n2_; clear n0_ n1_ n2_; clear ho hb hg hat; have hcz8_0 : w7.cell? ⟨gb283, 0, none⟩ = some (.int .i64 a0_0) := (blk_cell BK283.out 0).trans rfl; have hcz8_1 : w7.cell? ⟨gb283, 1, none⟩ = some (.slice A0_1 l0_1.length c0_1) := (blk_cell BK283.out 1).trans rfl; have hfz8_0 := blk_frozen BK283.out 0; have hfz8_1 := blk_frozen BK283.out 1))
  go_loopg [5, 14] k (fun kq v5 v14 w' => ∃ (x5_1 : List Int) (x14_1 : Int), v14 = .int .i64 x14_1 ∧ Aside0 (impl_Circuit_values.l0 kq x5_1 l0_1 (l0_1.length : Int) x14_1 = some r) ∧ Aside0 (kq ≤ k) ∧ Aside0 (Kd.R (Kd.int .i64) 3 w' w.heap.size (fun _ => True) v5 x5_1) ∧ Aside0 (w'.heap[gb283]? = some (.cells #[.int .i64 a0_0, (.slice A0_1 l0_1.length c0_1)] 28 (0, 0))) ∧ Aside0 (Below w.heap.size w w'))
  case atStart => exact ⟨(y287), (0), rsd, H', ⟨Nat.le_refl _⟩, ⟨rvR HO289.out⟩, ⟨bvK BK283.out⟩, ⟨hbC⟩⟩
  case round =>
   clear H'
   try clear c1
   try clear p2
   try clear c3
   try clear c7
   try clear hcz8_0
   try clear hcz8_1
   try clear hfz8_0
   try clear hfz8_1
   obtain ⟨x5_1, x14_1, rfl, HA, HK1, HO_5, BK283, HB⟩ := hrel
   cases gk with
   | zero => exact absurd HA.out (by simp [impl_Circuit_values.l0])
   | succ k1 =>
    have H := HA.out
    clear HA
    simp only [impl_Circuit_values.l0] at H
    by_cases c9 : x14_1 < (l0_1.length : Int)
    ·rw [if_pos c9] at H
     have c9b0 : decide (x14_1 < (l0_1.length : Int)) = true := decide_eq_true c9
     clear c9
     by_cases c10 : 0 ≤ x14_1
     ·rw [if_pos c10] at H
      have c10b0 : decide (0 ≤ x14_1) = true := decide_eq_true c10
      clear c10
      by_cases c11 : x14_1 < (l0_1.length : Int)
      ·rw [if_pos c11] at H
       have c11b0 : decide (x14_1 < (l0_1.length : Int)) = true := decide_eq_true c11
       clear c11
       replace H := Option.bind_eq_some_iff.mp H
       obtain ⟨t292, A120, H⟩ := H
       replace H : ((impl_edgeOf.f x5_1 ((rd_T92 l0_1 x14_1).f1)).bind fun t293 => (if x5_1.length < 17592186044416 then (impl_Circuit_values.l0 k1 (x5_1 ++ [Go.bits .and .i64 t292 t293]) l0_1 (l0_1.length : Int) (wrap64 (x14_1 + 1))) else (none))) = some r := H
       have A12 := Aside0.mk A120
       clear A120
       replace H := Option.bind_eq_some_iff.mp H
       obtain ⟨t293, A130, H⟩ := H
       replace H : (if x5_1.length < 17592186044416 then (impl_Circuit_values.l0 k1 (x5_1 ++ [Go.bits .and .i64 t292 t293]) l0_1 (l0_1.length : Int) (wrap64 (x14_1 + 1))) else (none)) = some r := H
       have A13 := Aside0.mk A130
       clear A130
       by_cases c14 : x5_1.length < 17592186044416
       ·rw [if_pos c14] at H
        have LMc14 := Aside0.mk c14
        clear c14
        obtain ⟨y294, hy294⟩ : ∃ y_ : List Int, y_ = (x5_1 ++ [Go.bits .and .i64 t292 t293]) := ⟨_, rfl⟩
        replace H : (impl_Circuit_values.l0 k1 y294 l0_1 (l0_1.length : Int) (wrap64 (x14_1 + 1))) = some r := by first | (rw [hy294]; with_reducible exact H) | (have H2_ := (Option.bind_some _ _).symm.trans H; rw [hy294]; with_reducible exact H2_) | (have H2_ := (Option.bind_some _ _).symm.trans H; with_reducible exact H2_) | with_reducible exact H | (rw [hy294]; exact H) | exact H
        have Ny294 := Aside0.mk hy294
        clear hy294
        have H' := Aside0.mk H
        clear H
        have p290 : 0 ≤ (x14_1 : Int) := oda
        have q290 : x14_1 < (l0_1.length : Int) := oda
        obtain ⟨ad290, e290, hx290_0, hx290_1⟩ := at_T92 HR0_1.out x14_1 p290 q290
        cases e290
        try replace hx290_0 := bct HB.out hx290_0
        try replace hx290_1 := bct HB.out hx290_1
        replace p290 := eq_true p290
        replace q290 := eq_true q290
        try go_wp2_with (first | ((with_reducible refine gate_dst (N := 7) rfl ?_); refine box_event ?hg (N := 7) ?hd (cs := #[.int .i64 0, .int .i64 0]) (t := 92) ?hr ?_; (case hd => rfl); (case hg => rfl); (case hr => first | (go_simp; done) | (go_simp; rfl)); intro gb291 hg w15 hbox hb; have n0_ := Aside0.mk (Kd.R_below (rvR HO_5.out) hb); have n1_ := Aside0.mk (blk_below (g := gb283) (o := .cells #[.int .i64 a0_0, .slice (some ad290) l0_1.length c0_1] 28 (0, 0)) (bvK BK283.out) hb); have n2_ := Aside0.mk (below_step hbC hb); have n3_ := Aside0.mk (hbox); have n4_ := Aside0.mk ((gwb hg (below_size hbC) : w.heap.size ≤ gb291)); have n5_ := n4_; have n6_ := Aside0.mk ((by rw [hg]; exact Nat.ne_of_lt (blk_lt (g := gb283) (o := .cells #[.int .i64 a0_0, .slice (some ad290) l0_1.length c0_1] 28 (0, 0)) (bvK BK283.out)) : gb283 ≠ gb291)); have n7_ := Aside0.mk ((by rw [hg]; exact Nat.ne_of_gt (blk_lt (g := gb283) (o := .cells #[.int .i64 a0_0, .slice (some ad290) l0_1.length c0_1] 28 (0, 0)) (bvK BK283.out)) : gb291 ≠ gb283)); clear HO_5; clear BK283; clear HB; have HO_5 := n0_; have BK283 := n1_; have HB := n2_; have BK291 := n3_; have GW291 := n4_; have GE291 := n5_; have NB283_291 := n6_; have NB291_283 := n7_; clear n0_ n1_ n2_ n3_ n4_ n5_ n6_ n7_; clear hb hbox hg; have hnb16 := NB291_283.out; have hnc16 := NB283_291.out; have hcz17_0 : w15.cell? ⟨gb291, 0, none⟩ = some (.int .i64 0) := (blk_cell BK291.out 0).trans rfl; have hcz17_1 : w15.cell? ⟨gb291, 1, none⟩ = some (.int .i64 0) := (blk_cell BK291.out 1).trans rfl; have hfz17_0 := blk_frozen BK291.out 0; have hfz17_1 := blk_frozen BK291.out 1))
        have n0_ : Aside0 (Kd.R (Kd.int .i64) 3 ((w15.setCell ⟨gb291, 0, none⟩ (.int .i64 ((rd_T92 l0_1 x14_1).f0))).setCell ⟨gb291, 1, none⟩ (.int .i64 ((rd_T92 l0_1 x14_1).f1))) w.heap.size (fun _ => True) u5 x5_1) := ⟨by (with_reducible repeat (first | apply Kd.R_alloc | apply Kd.R_drewN | apply Kd.R_drew)); exact Kd.R_mono (Kd.R_far (p := ⟨gb291, 1, none⟩) (Kd.R_far (p := ⟨gb291, 0, none⟩) (Kd.R_types HO_5.out BK291.out (by decide)) (fun _ hk => hk.2) (.int .i64 ((rd_T92 l0_1 x14_1).f0))) (fun _ hk => hk.2) (.int .i64 ((rd_T92 l0_1 x14_1).f1))) (fun _ hk => trivial)⟩
        have n1_ : Aside0 (((w15.setCell ⟨gb291, 0, none⟩ (.int .i64 ((rd_T92 l0_1 x14_1).f0))).setCell ⟨gb291, 1, none⟩ (.int .i64 ((rd_T92 l0_1 x14_1).f1))).heap[gb283]? = some (.cells #[.int .i64 a0_0, .slice (some ad290) l0_1.length c0_1] 28 (0, 0))) := ⟨by (with_reducible repeat (first | refine blk_drewN ?_ _ | refine blk_drew ?_ | refine blk_alloc ?_ _)); refine blk_far ?_ NB283_291.out _; (with_reducible repeat (first | refine blk_drewN ?_ _ | refine blk_drew ?_ | refine blk_alloc ?_ _)); refine blk_far ?_ NB283_291.out _; (with_reducible repeat (first | refine blk_drewN ?_ _ | refine blk_drew ?_ | refine blk_alloc ?_ _)); exact BK283.out⟩
        have n2_ : Aside0 (((w15.setCell ⟨gb291, 0, none⟩ (.int .i64 ((rd_T92 l0_1 x14_1).f0))).setCell ⟨gb291, 1, none⟩ (.int .i64 ((rd_T92 l0_1 x14_1).f1))).heap[gb291]? = some (.cells #[.int .i64 ((rd_T92 l0_1 x14_1).f0), .int .i64 ((rd_T92 l0_1 x14_1).f1)] 92 (0, 0))) := ⟨by (with_reducible repeat (first | refine blk_drewN ?_ _ | refine blk_drew ?_ | refine blk_alloc ?_ _)); refine blk_put (cs := #[.int .i64 ((rd_T92 l0_1 x14_1).f0), .int .i64 0]) ?_ 1 _ rfl; (with_reducible repeat (first | refine blk_drewN ?_ _ | refine blk_drew ?_ | refine blk_alloc ?_ _)); refine blk_put (cs := #[.int .i64 0, .int .i64 0]) ?_ 0 _ rfl; (with_reducible repeat (first | refine blk_drewN ?_ _ | refine blk_drew ?_ | refine blk_alloc ?_ _)); exact BK291.out⟩
        have n3_ : Aside0 (Below w.heap.size w ((w15.setCell ⟨gb291, 0, none⟩ (.int .i64 ((rd_T92 l0_1 x14_1).f0))).setCell ⟨gb291, 1, none⟩ (.int .i64 ((rd_T92 l0_1 x14_1).f1)))) := ⟨hbC⟩
        (try clear HO_5)
        (try clear BK283)
        (try clear BK291)
        (try clear HB)
        generalize ((w15.setCell ⟨gb291, 0, none⟩ (.int .i64 ((rd_T92 l0_1 x14_1).f0))).setCell ⟨gb291, 1, none⟩ (.int .i64 ((rd_T92 l0_1 x14_1).f1))) = w18 at n0_ n1_ n2_ n3_ ⊢
        have HO_5 := n0_
        have BK283 := n1_
        have BK291 := n2_
        have HB := n3_
        clear n0_ n1_ n2_ n3_
        have n0_ := Aside0.mk (Kd.R_drew HO_5.out)
        have n1_ := Aside0.mk (blk_drew BK283.out)
        have n2_ := Aside0.mk (blk_drew BK291.out)
        have n3_ := Aside0.mk (below_drew1 HB.out)
        clear HO_5
        clear BK283
        clear BK291
        clear HB
        have HO_5 := n0_
        have BK283 := n1_
        have BK291 := n2_
        have HB := n3_
        clear n0_ n1_ n2_ n3_
        obtain ⟨Ao20, co20, eo20⟩ := Kd.R_slice HO_5.out
        (first | subst eo20 | (injection eo20 with f1_ f2_ f3_; have f4_ := f1_.symm; have f5_ := f3_.symm; clear f1_ f2_ f3_; subst f4_; subst f5_))
        refine start_ (n := 13) (S := fun w' => w'.cell? ⟨gb291, 0, none⟩ = some (.int .i64 ((rd_T92 l0_1 x14_1).f0)) ∧ w'.cell? ⟨gb291, 1, none⟩ = some (.int .i64 ((rd_T92 l0_1 x14_1).f1))) (ds := []) (Pt.bm 13 0) (by kernel_rfl) rfl rfl ⟨(blk_cell BK291.out 0).trans rfl, (blk_cell BK291.out 1).trans rfl⟩ (fun hHeld => ?_); refine with_tabW impl_Circuit_values.tab5 impl_Circuit_values.bits5 (fun HT_ HW_ => ?_)
        generalize w18.drew = w19 at HO_5 BK283 BK291 HB hHeld ⊢
        refine Pt.pu 0 (some 18) (Pt.bm 13 1) (any_of HT_.out (by kernel_rfl)) ?_
        refine Pt.pu 1 (some 19) (Pt.bm 13 3) (any_of HT_.out (by kernel_rfl)) ?_
        refine Pt.pu 2 (some 20) (Pt.bm 13 7) (any_of HT_.out (by kernel_rfl)) ?_
        refine Pt.pu 5 (some 23) (Pt.bm 13 39) (any_of HT_.out (by kernel_rfl)) ?_
        refine Pt.pu 6 (some 24) (Pt.bm 13 103) (any_of HT_.out (by kernel_rfl)) ?_
        refine Pt.tk 3 (some 21) (Pt.bm 13 111) rfl rfl (take_ofW HT_.out HW_.out (by kernel_rfl)) hHeld (Or.inl ⟨by rfl, by rintro w' ⟨s0, s1⟩; go_simp; with_reducible rfl⟩) ?_
        refine Pt.tk 7 (some 25) (Pt.bm 13 239) rfl rfl (take_ofW HT_.out HW_.out (by kernel_rfl)) hHeld (Or.inl ⟨by rfl, by rintro w' ⟨s0, s1⟩; go_simp; with_reducible rfl⟩) ?_
        refine one_ (i := 4) (N := some 22) (Pt.bm 13 255) rfl rfl (one_of HT_.out (by kernel_rfl)) (by decide) (fun K hK => ?_)
        refine goes_ Try.func72 (by kernel_rfl) rfl #[.slice Ao20 x5_1.length co20, .int .i64 ((rd_T92 l0_1 x14_1).f0)] (by rfl) rfl rfl lmB ?_
        with_reducible refine (impl_edgeOf.calls _ _ x5_1 ((rd_T92 l0_1 x14_1).f0) t292 _ ?side1 ?side2 A12.out).mono ?_
        (case side1 => exact kcR (Kd.R_reads' HO_5.out).2.2)
        (case side2 => exact (Kd.R_reads' HO_5.out).2.1)
        rintro e w' ⟨rfl, ⟨nd, rfl⟩⟩
        refine ⟨_, rfl, ?_⟩
        refine hK.out _ _ ⟨(blk_cell BK291.out 0).trans rfl, (blk_cell BK291.out 1).trans rfl⟩ (fun hHeld => ?_)
        clear hK K
        refine norm_ (a' := ?_) ?_ ?_
        rotate_left
        ·show Act.put _ (some 22) _ = _
         simp only [Act.put, List.setIfInBounds_toArray, List.set_cons_zero, List.set_cons_succ, i64_w, i32_w]
         rfl
        refine one_ (i := 8) (N := some 26) (Pt.bm 13 511) rfl rfl (one_of HT_.out (by kernel_rfl)) (by decide) (fun K hK => ?_)
        refine goes_ Try.func72 (by kernel_rfl) rfl #[.slice Ao20 x5_1.length co20, .int .i64 ((rd_T92 l0_1 x14_1).f1)] (by rfl) rfl rfl lmB ?_
        with_reducible refine (impl_edgeOf.calls _ _ x5_1 ((rd_T92 l0_1 x14_1).f1) t293 _ ?side1 ?side2 A13.out).mono ?_
        (case side1 => exact kcR (Kd.R_reads' HO_5.out).2.2)
        (case side2 => exact (Kd.R_reads' HO_5.out).2.1)
        rintro e w' ⟨rfl, ⟨nd, rfl⟩⟩
        refine ⟨_, rfl, ?_⟩
        refine hK.out _ _ ⟨(blk_cell BK291.out 0).trans rfl, (blk_cell BK291.out 1).trans rfl⟩ (fun hHeld => ?_)
        clear hK K
        refine norm_ (a' := ?_) ?_ ?_
        rotate_left
        ·show Act.put _ (some 26) _ = _
         simp only [Act.put, List.setIfInBounds_toArray, List.set_cons_zero, List.set_cons_succ, i64_w, i32_w]
         rfl
        refine Pt.pu 9 (some 27) (Pt.bm 13 1023) (any_of HT_.out (by kernel_rfl)) ?_
        refine one_ (i := 10) (N := some 28) (Pt.bm 13 2047) rfl rfl (one_of HT_.out (by kernel_rfl)) (by decide) (fun K hK => ?_)
        refine value_ (w1 := ?_) (v := ?_) (by rfl) rfl ?_ ?_
        rotate_left 2
        ·go_simp
         constructor
         ·rfl
         ·rfl
        refine hK.out _ _ ⟨(blk_cell (blk_alloc BK291.out _) 0).trans rfl, (blk_cell (blk_alloc BK291.out _) 1).trans rfl⟩ (fun hHeld => ?_)
        clear hK K
        refine norm_ (a' := ?_) ?_ ?_
        rotate_left
        ·show Act.put _ (some 28) _ = _
         simp only [Act.put, List.setIfInBounds_toArray, List.set_cons_zero, List.set_cons_succ, i64_w, i32_w]
         rfl
        refine one_ (i := 11) (N := some 29) (Pt.bm 13 4095) rfl rfl (one_of HT_.out (by kernel_rfl)) (by decide) (fun K hK => ?_)
        refine Kd.R_append_step (Kd.int .i64) (w0 := w) w.heap.size (by rfl) (.tmp 18) (.tmp 28) 38 3 (.int .i64 0) 8 rfl Try.underlying38 info3 rfl (by decide) (by omega) (.slice Ao20 x5_1.length co20) x5_1 (Go.bits .and .i64 t292 t293) [.int .i64 (Go.bits .and .i64 t292 t293)] (fun _ => True) (fun _ => False) rfl rfl ?aP (fun _ hk => hk.elim) ?aF ?aO ?aB ?aS ?aL ?_
        (case aP => exact rfl)
        (case aB => exact hbC)
        (case aF => exact (fun _ _ => trivial))
        (case aO => exact (rvR HO_5.out))
        (case aS => exact (below_size hbC))
        (case aL => have := LMc14.out; omega)
        intro v295 w21 ho hb hg hat
        rw [← Ny294.out] at ho
        have n0_ := Aside0.mk (blk_grown (g := gb283) (o := .cells #[.int .i64 a0_0, .slice (some ad290) l0_1.length c0_1] 28 (0, 0)) (bvK BK283.out) hg (Kd.R_ne HO_5.out BK283.out (by decide)))
        have n1_ := Aside0.mk (blk_grown (g := gb291) (o := .cells #[.int .i64 ((rd_T92 l0_1 x14_1).f0), .int .i64 ((rd_T92 l0_1 x14_1).f1)] 92 (0, 0)) (bvK BK291.out) hg (Kd.R_ne HO_5.out BK291.out (by decide)))
        have n2_ := Aside0.mk (hb)
        have n3_ := Aside0.mk (ho)
        clear BK283
        clear BK291
        clear HB
        clear HO_5
        have BK283 := n0_
        have BK291 := n1_
        have HB := n2_
        have HO296 := n3_
        clear n0_ n1_ n2_ n3_
        clear ho hb hg hat
        refine hK.out _ _ ⟨(blk_cell BK291.out 0).trans rfl, (blk_cell BK291.out 1).trans rfl⟩ (fun hHeld => ?_)
        clear hK K
        refine norm_ (a' := ?_) ?_ ?_
        rotate_left
        ·show Act.put _ (some 29) _ = _
         simp only [Act.put, List.setIfInBounds_toArray, List.set_cons_zero, List.set_cons_succ, i64_w, i32_w]
         rfl
        refine Pt.pu 12 (some 5) (Pt.bm 13 8191) (any_of HT_.out (by kernel_rfl)) ?_
        refine done_ (done_of HT_.out (by kernel_rfl)) ?_
        try go_wp2
        go_roundg k1
        case measure => have := HK1.out; omega
        case rel => exact ⟨(y294), (wrap64 (x14_1 + 1)), rsd, H', ⟨by have := HK1.out; omega⟩, ⟨rvR HO296.out⟩, ⟨bvK BK283.out⟩, ⟨hbC⟩⟩
       ·rw [if_neg c14] at H
        exact absurd H (by simp)
      ·rw [if_neg c11] at H
       exact absurd H (by simp)
     ·rw [if_neg c10] at H
      exact absurd H (by simp)
    ·rw [if_neg c9] at H
     have c9b0 : decide (x14_1 < (l0_1.length : Int)) = false := decide_eq_false c9
     clear c9
     obtain rfl := Option.some.inj H
     go_wp2
     go_ret
     exact ⟨_, ers, by (with_reducible repeat (first | apply Kd.R_alloc | apply Kd.R_drewN | apply Kd.R_drew)); exact HO_5.out, hbC⟩
 ·rw [if_neg c3] at H
  exact absurd H (by simp)

/-! ### impl_NodeValues: function 20 -/
def impl_NodeValues.j0 : Nat → List Int → Bool → Int → List (S92) → Option (List Int)
 | 0, _, _, _, _ => none
 | k + 1, x1, x19, x298000, x298001 => if x19 = true then (some ([] : List Int)) else ((impl_Circuit_values.f k x298000 x298001 x1).bind fun t300 => ((impl_clone_int.f t300).bind fun t303 => (some t303)))
def impl_NodeValues.f (k : Nat) (a0_0 : Int) (l0_1 : List (S92)) (l1 : List Int) : Option (List Int) := (impl_CircuitValid.f k a0_0 l0_1).bind fun t298 => (if t298 = true then (if (l1.length : Int) = a0_0 then ((impl_bitsValid.f l1).bind fun t299 => (impl_NodeValues.j0 k l1 (!t299) a0_0 l0_1)) else (impl_NodeValues.j0 k l1 true a0_0 l0_1)) else (impl_NodeValues.j0 k l1 true a0_0 l0_1))
theorem impl_NodeValues.mono_l : ∀ k, (∀ y0 y1 y2 y3, LeO (impl_NodeValues.j0 k y0 y1 y2 y3) (impl_NodeValues.j0 (k + 1) y0 y1 y2 y3))
 | 0 => fun _ _ _ _ r h => by simp [impl_NodeValues.j0] at h
 | k + 1 => by
  have ih0 := impl_NodeValues.mono_l k
  ·intro y0 y1 y2 y3
   unfold impl_NodeValues.j0
   repeat' first
   | (with_reducible exact ih0 _ _ _ _)
   | (with_reducible exact impl_CircuitValid.mono _ _ _)
   | (with_reducible exact impl_Circuit_values.mono _ _ _ _)
   | (with_reducible exact LeO.refl _)
   | (with_reducible exact LeO.none _)
   | (with_reducible refine LeO.ite ?_ ?_)
   | (with_reducible refine LeO.bind ?_ (fun _ => ?_))
   | exact ih0 _ _ _ _
   | exact impl_CircuitValid.mono _ _ _
   | exact impl_Circuit_values.mono _ _ _ _
   | exact LeO.none _
   | refine LeO.ite ?_ ?_
   | refine LeO.bind ?_ (fun _ => ?_)
theorem impl_NodeValues.mono : ∀ a0 a1 a2 k, LeO (impl_NodeValues.f k a0 a1 a2) (impl_NodeValues.f (k + 1) a0 a1 a2) := by
 intro a0 a1 a2 k
 have ih0 := impl_NodeValues.mono_l k
 unfold impl_NodeValues.f
 repeat' first
   | (with_reducible exact ih0 _ _ _ _)
   | (with_reducible exact impl_CircuitValid.mono _ _ _)
   | (with_reducible exact impl_Circuit_values.mono _ _ _ _)
   | (with_reducible exact LeO.refl _)
   | (with_reducible exact LeO.none _)
   | (with_reducible refine LeO.ite ?_ ?_)
   | (with_reducible refine LeO.bind ?_ (fun _ => ?_))
   | exact ih0 _ _ _ _
   | exact impl_CircuitValid.mono _ _ _
   | exact impl_Circuit_values.mono _ _ _ _
   | exact LeO.none _
   | refine LeO.ite ?_ ?_
   | refine LeO.bind ?_ (fun _ => ?_)
set_option maxHeartbeats 8000000 in
set_option maxRecDepth 100000 in
theorem impl_NodeValues.calls (k : Nat) (a0_0 : Int) (A0_1 : Option Addr) (c0_1 : Nat) (l0_1 : List (S92)) (A1 : Option Addr) (c1 : Nat) (l1 : List Int) (r : List Int) (w : World) (hr0_1 : Kd.C k92 w A0_1 l0_1.length l0_1) (hc0_1 : l0_1.length ≤ c0_1) (hr1 : Kd.C (Kd.int .i64) w A1 l1.length l1) (hc1 : l1.length ≤ c1) (h : impl_NodeValues.f k a0_0 l0_1 l1 = some r) :
  Calls Try.prog 20 #[.agg #[.int .i64 a0_0, .slice A0_1 l0_1.length c0_1], .slice A1 l1.length c1] w fun e w' => ∃ v0_ : Value, e = .returned (v0_) ∧ Kd.R (Kd.int .i64) 3 w' w.heap.size (fun _ => True) v0_ r ∧ Below w.heap.size w w' := by
 have hu28 := Try.underlying28
 have HR0_1 := Aside0.mk hr0_1
 have HC0_1 := Aside0.mk hc0_1
 clear hr0_1 hc0_1
 have HR1 := Aside0.mk hr1
 have HC1 := Aside0.mk hc1
 clear hr1 hc1
 have HB := Aside0.mk (Below.refl w.heap.size w)
 have H : ((impl_CircuitValid.f k a0_0 l0_1).bind fun t298 => (if t298 = true then (if (l1.length : Int) = a0_0 then ((impl_bitsValid.f l1).bind fun t299 => (impl_NodeValues.j0 k l1 (!t299) a0_0 l0_1)) else (impl_NodeValues.j0 k l1 true a0_0 l0_1)) else (impl_NodeValues.j0 k l1 true a0_0 l0_1))) = some r := h
 clear h
 have HC3 := Aside0.mk H
 clear H
 go_enter Try.func20, Try.ntmps20
 go_upto_region 1 with (first | ((with_reducible refine gate_dst (N := 2) rfl ?_); (try (refine gate_guard (by rfl) ?_; dsimp only)); refine box_event ?hg (N := 2) ?hd (cs := #[.int .i64 a0_0, .slice A0_1 l0_1.length c0_1]) (t := 28) ?hr ?_; (case hd => rfl); (case hg => rfl); (case hr => first | (go_simp; done) | (go_simp; rfl)); intro gb297 hg w4 hbox hb; have n0_ := Aside0.mk (below_step hbB hb); have n1_ := Aside0.mk (hbox); have n2_ := Aside0.mk ((gwb hg (below_size hbB) : w.heap.size ≤ gb297)); have n3_ := n2_; clear HB; have HB := n0_; have BK297 := n1_; have GW297 := n2_; have GE297 := n3_; clear n0_ n1_ n2_ n3_; clear hb hbox hg))
 (try simp only [Act.put, List.setIfInBounds_toArray, List.set_cons_zero, List.set_cons_succ])
 go_cut [19] (fun v19 wc => ∃ (kq : Nat) (x19_2 : Bool), v19 = .bool x19_2 ∧ Aside0 (impl_NodeValues.j0 kq l1 x19_2 a0_0 l0_1 = some r) ∧ Aside0 (kq ≤ k) ∧ Aside0 (wc.heap[gb297]? = some (.cells #[.int .i64 a0_0, (.slice A0_1 l0_1.length c0_1)] 28 (0, 0))) ∧ Aside0 (Below w.heap.size w wc))
 case first =>
  have H := HC3.out
  clear HC3
  replace H := Option.bind_eq_some_iff.mp H
  obtain ⟨t298, A50, H⟩ := H
  replace H : (if t298 = true then (if (l1.length : Int) = a0_0 then ((impl_bitsValid.f l1).bind fun t299 => (impl_NodeValues.j0 k l1 (!t299) a0_0 l0_1)) else (impl_NodeValues.j0 k l1 true a0_0 l0_1)) else (impl_NodeValues.j0 k l1 true a0_0 l0_1)) = some r := H
  have A5 := Aside0.mk A50
  clear A50
  by_cases c6 : t298 = true
  ·subst c6
   have H1 : (if (l1.length : Int) = a0_0 then ((impl_bitsValid.f l1).bind fun t299 => (impl_NodeValues.j0 k l1 (!t299) a0_0 l0_1)) else (impl_NodeValues.j0 k l1 true a0_0 l0_1)) = some r := by rw [if_pos rfl] at H; exact H
   clear H
   have H := H1
   clear H1
   by_cases c7 : (l1.length : Int) = a0_0
   ·rw [if_pos c7] at H
    have c7b0 : ((l1.length : Int) == a0_0) = true := beq_iff_eq.mpr c7
    have c7b1 : ((l1.length : Int) != a0_0) = false := bne_eq_false_iff_eq.mpr c7
    clear c7
    (first | rw [c7b0] | (simp only [i64_w, i32_w]; rw [c7b0]) | skip)
    replace H := Option.bind_eq_some_iff.mp H
    obtain ⟨t299, A80, H⟩ := H
    replace H : (impl_NodeValues.j0 k l1 (!t299) a0_0 l0_1) = some r := H
    have A8 := Aside0.mk A80
    clear A80
    have H' := Aside0.mk H
    clear H
    have hcz9_0 : w4.cell? ⟨gb297, 0, none⟩ = some (.int .i64 a0_0) := (blk_cell BK297.out 0).trans rfl
    have hcz9_1 : w4.cell? ⟨gb297, 1, none⟩ = some (.slice A0_1 l0_1.length c0_1) := (blk_cell BK297.out 1).trans rfl
    have hfz9_0 := blk_frozen BK297.out 0
    have hfz9_1 := blk_frozen BK297.out 1
    go_wp2_with (first | ((with_reducible refine gate_callee (f := 23) rfl ?_); refine goesL_ (some 6) rfl rfl Try.func23 (by kernel_rfl) rfl #[.agg #[.int .i64 a0_0, .slice A0_1 l0_1.length c0_1]] rfl lmB ?_; (with_reducible refine (impl_CircuitValid.calls k a0_0 _ _ l0_1 true _ ?side1 ?side2 A5.out).mono ?_); (case side1 => exact kcR (Kd.C_below HR0_1.out HB.out)); (case side2 => exact HC0_1.out); rintro e w10 ⟨rfl, hb⟩; refine ⟨_, rfl, ?_⟩; have n0_ := Aside0.mk (blk_below (g := gb297) (o := .cells #[.int .i64 a0_0, .slice A0_1 l0_1.length c0_1] 28 (0, 0)) (bvK BK297.out) hb); have n1_ := Aside0.mk (below_step hbC hb); clear BK297; clear HB; have BK297 := n0_; have HB := n1_; clear n0_ n1_; (try clear hb); (try clear hb2); (try clear hk); (try clear hi); have hcz11_0 : w10.cell? ⟨gb297, 0, none⟩ = some (.int .i64 a0_0) := (blk_cell BK297.out 0).trans rfl; have hcz11_1 : w10.cell? ⟨gb297, 1, none⟩ = some (.slice A0_1 l0_1.length c0_1) := (blk_cell BK297.out 1).trans rfl; have hfz11_0 := blk_frozen BK297.out 0; have hfz11_1 := blk_frozen BK297.out 1) | (go_at_call 69; (with_reducible refine (impl_bitsValid.calls _ _ l1 t299 _ ?side1 ?side2 A8.out).mono ?_); (case side1 => exact kcR (Kd.C_below HR1.out HB.out)); (case side2 => exact HC1.out); rintro e w12 ⟨rfl, hb⟩; have n0_ := Aside0.mk (blk_below (g := gb297) (o := .cells #[.int .i64 a0_0, .slice A0_1 l0_1.length c0_1] 28 (0, 0)) (bvK BK297.out) hb); have n1_ := Aside0.mk (below_step hbC hb); clear BK297; clear HB; have BK297 := n0_; have HB := n1_; clear n0_ n1_; (try clear hb); (try clear hb2); (try clear hk); (try clear hi)))
    go_meet
    case rel => exact ⟨_, (!t299), rsd, H', ⟨by first | omega | exact Nat.le_refl _⟩, ⟨bvK BK297.out⟩, ⟨hbC⟩⟩
   ·rw [if_neg c7] at H
    have c7b0 : ((l1.length : Int) == a0_0) = false := beq_eq_false_iff_ne.mpr c7
    have c7b1 : ((l1.length : Int) != a0_0) = true := bne_iff_ne.mpr c7
    (first | rw [c7b0] | (simp only [i64_w, i32_w]; rw [c7b0]) | skip)
    have H' := Aside0.mk H
    clear H
    have hcz13_0 : w4.cell? ⟨gb297, 0, none⟩ = some (.int .i64 a0_0) := (blk_cell BK297.out 0).trans rfl
    have hcz13_1 : w4.cell? ⟨gb297, 1, none⟩ = some (.slice A0_1 l0_1.length c0_1) := (blk_cell BK297.out 1).trans rfl
    have hfz13_0 := blk_frozen BK297.out 0
    have hfz13_1 := blk_frozen BK297.out 1
    go_wp2_with (first | ((with_reducible refine gate_callee (f := 23) rfl ?_); refine goesL_ (some 6) rfl rfl Try.func23 (by kernel_rfl) rfl #[.agg #[.int .i64 a0_0, .slice A0_1 l0_1.length c0_1]] rfl lmB ?_; (with_reducible refine (impl_CircuitValid.calls k a0_0 _ _ l0_1 true _ ?side1 ?side2 A5.out).mono ?_); (case side1 => exact kcR (Kd.C_below HR0_1.out HB.out)); (case side2 => exact HC0_1.out); rintro e w14 ⟨rfl, hb⟩; refine ⟨_, rfl, ?_⟩; have n0_ := Aside0.mk (blk_below (g := gb297) (o := .cells #[.int .i64 a0_0, .slice A0_1 l0_1.length c0_1] 28 (0, 0)) (bvK BK297.out) hb); have n1_ := Aside0.mk (below_step hbC hb); clear BK297; clear HB; have BK297 := n0_; have HB := n1_; clear n0_ n1_; (try clear hb); (try clear hb2); (try clear hk); (try clear hi); have hcz15_0 : w14.cell? ⟨gb297, 0, none⟩ = some (.int .i64 a0_0) := (blk_cell BK297.out 0).trans rfl; have hcz15_1 : w14.cell? ⟨gb297, 1, none⟩ = some (.slice A0_1 l0_1.length c0_1) := (blk_cell BK297.out 1).trans rfl; have hfz15_0 := blk_frozen BK297.out 0; have hfz15_1 := blk_frozen BK297.out 1))
    go_meet
    case rel => exact ⟨_, (true), rsd, H', ⟨by first | omega | exact Nat.le_refl _⟩, ⟨bvK BK297.out⟩, ⟨hbC⟩⟩
  ·replace c6 := Bool.eq_false_iff.mpr c6
   subst c6
   have H1 : (impl_NodeValues.j0 k l1 true a0_0 l0_1) = some r := by rw [if_neg (show ¬ (false = true) by decide)] at H; exact H
   clear H
   have H := H1
   clear H1
   have H' := Aside0.mk H
   clear H
   have hcz16_0 : w4.cell? ⟨gb297, 0, none⟩ = some (.int .i64 a0_0) := (blk_cell BK297.out 0).trans rfl
   have hcz16_1 : w4.cell? ⟨gb297, 1, none⟩ = some (.slice A0_1 l0_1.length c0_1) := (blk_cell BK297.out 1).trans rfl
   have hfz16_0 := blk_frozen BK297.out 0
   have hfz16_1 := blk_frozen BK297.out 1
   go_wp2_with (first | ((with_reducible refine gate_callee (f := 23) rfl ?_); refine goesL_ (some 6) rfl rfl Try.func23 (by kernel_rfl) rfl #[.agg #[.int .i64 a0_0, .slice A0_1 l0_1.length c0_1]] rfl lmB ?_; (with_reducible refine (impl_CircuitValid.calls k a0_0 _ _ l0_1 false _ ?side1 ?side2 A5.out).mono ?_); (case side1 => exact kcR (Kd.C_below HR0_1.out HB.out)); (case side2 => exact HC0_1.out); rintro e w17 ⟨rfl, hb⟩; refine ⟨_, rfl, ?_⟩; have n0_ := Aside0.mk (blk_below (g := gb297) (o := .cells #[.int .i64 a0_0, .slice A0_1 l0_1.length c0_1] 28 (0, 0)) (bvK BK297.out) hb); have n1_ := Aside0.mk (below_step hbC hb); clear BK297; clear HB; have BK297 := n0_; have HB := n1_; clear n0_ n1_; (try clear hb); (try clear hb2); (try clear hk); (try clear hi)))
   go_meet
   case rel => exact ⟨_, (true), rsd, H', ⟨by first | omega | exact Nat.le_refl _⟩, ⟨bvK BK297.out⟩, ⟨hbC⟩⟩
 case rest =>
  clear HC3
  try clear c1
  try clear c2
  try clear p2
  try clear c6
  try clear c7
  try clear c7b0
  try clear c7b1
  try clear hcz11_0
  try clear hcz11_1
  try clear hcz13_0
  try clear hcz13_1
  try clear hcz15_0
  try clear hcz15_1
  try clear hcz16_0
  try clear hcz16_1
  try clear hcz9_0
  try clear hcz9_1
  try clear hfz11_0
  try clear hfz11_1
  try clear hfz13_0
  try clear hfz13_1
  try clear hfz15_0
  try clear hfz15_1
  try clear hfz16_0
  try clear hfz16_1
  try clear hfz9_0
  try clear hfz9_1
  obtain ⟨kq, x19_2, rfl, HA, HJ2, BK297, HB⟩ := hcut
  cases kq with
  | zero => exact absurd HA.out (by simp [impl_NodeValues.j0])
  | succ kj2 =>
   have H := HA.out
   clear HA
   simp only [impl_NodeValues.j0] at H
   by_cases c18 : x19_2 = true
   ·subst c18
    have H1 : (some ([] : List Int)) = some r := by rw [if_pos rfl] at H; exact H
    clear H
    have H := H1
    clear H1
    obtain rfl := Option.some.inj H
    go_wp2
    go_ret
    exact ⟨_, ers, by first | exact Kd.R_nil _ _ _ _ _ | exact Kd.N_nil _ _ _ _ _ | exact Kd.V_nil _ _ _ _ _ | exact Kd.Q_nil _ _ _ _ _ | exact Kd.S_nil _ _ _ _ _, hbC⟩
   ·replace c18 := Bool.eq_false_iff.mpr c18
    subst c18
    have H1 : ((impl_Circuit_values.f kj2 a0_0 l0_1 l1).bind fun t300 => ((impl_clone_int.f t300).bind fun t303 => (some t303))) = some r := by rw [if_neg (show ¬ (false = true) by decide)] at H; exact H
    clear H
    have H := H1
    clear H1
    replace H := Option.bind_eq_some_iff.mp H
    obtain ⟨t300, A190, H⟩ := H
    replace H : ((impl_clone_int.f t300).bind fun t303 => (some t303)) = some r := H
    have A19 := Aside0.mk A190
    clear A190
    replace H := Option.bind_eq_some_iff.mp H
    obtain ⟨t303, A200, H⟩ := H
    replace H : (some t303) = some r := H
    have A20 := Aside0.mk A200
    clear A200
    obtain rfl := Option.some.inj H
    have hcz21_0 : wc.cell? ⟨gb297, 0, none⟩ = some (.int .i64 a0_0) := (blk_cell BK297.out 0).trans rfl
    have hcz21_1 : wc.cell? ⟨gb297, 1, none⟩ = some (.slice A0_1 l0_1.length c0_1) := (blk_cell BK297.out 1).trans rfl
    have hfz21_0 := blk_frozen BK297.out 0
    have hfz21_1 := blk_frozen BK297.out 1
    go_wp2_with (first | ((with_reducible refine gate_callee (f := 71) rfl ?_); refine goesL_ (some 22) rfl rfl Try.func71 (by kernel_rfl) rfl #[.agg #[.int .i64 a0_0, .slice A0_1 l0_1.length c0_1], .slice A1 l1.length c1] rfl lmB ?_; (with_reducible refine (impl_Circuit_values.calls kj2 a0_0 _ _ l0_1 _ _ l1 t300 _ ?side1 ?side2 ?side3 ?side4 A19.out).mono ?_); (case side1 => exact kcR (Kd.C_below HR0_1.out HB.out)); (case side2 => exact HC0_1.out); (case side3 => exact kcR (Kd.C_below HR1.out HB.out)); (case side4 => exact HC1.out); rintro e w22 ⟨v301, rfl, ho0, hb⟩; refine ⟨_, rfl, ?_⟩; have n0_ := Aside0.mk (Kd.R_lower ho0 (below_size hbC)); have n1_ := Aside0.mk (blk_below (g := gb297) (o := .cells #[.int .i64 a0_0, .slice A0_1 l0_1.length c0_1] 28 (0, 0)) (bvK BK297.out) hb); have n2_ := Aside0.mk (below_step hbC hb); clear BK297; clear HB; have HO302 := n0_; have BK297 := n1_; have HB := n2_; clear n0_ n1_ n2_; (try clear hb); (try clear hb2); (try clear hk); (try clear hi); (try clear ho0); obtain ⟨Ao23, co23, eo23⟩ := Kd.R_slice HO302.out; subst eo23) | ((with_reducible refine gate_callee (f := 70) rfl ?_); refine goesL_ (some 23) rfl rfl Try.func70 (by kernel_rfl) rfl #[.slice Ao23 t300.length co23] rfl lmB ?_; (with_reducible refine (impl_clone_int.calls _ _ t300 t303 _ ?side1 ?side2 A20.out).mono ?_); (case side1 => exact kcR (Kd.R_reads' HO302.out).2.2); (case side2 => exact (Kd.R_reads' HO302.out).2.1); rintro e w24 ⟨v304, rfl, ho0, hb⟩; refine ⟨_, rfl, ?_⟩; have n0_ := Aside0.mk (Kd.R_elder' (rvR HO302.out) (Kd.R_base ho0) hb); have n1_ := Aside0.mk (Kd.R_lower (Kd.R_new' ho0 (Kd.R_lt (rvR HO302.out))) (below_size hbC)); have n2_ := Aside0.mk (blk_below (g := gb297) (o := .cells #[.int .i64 a0_0, .slice A0_1 l0_1.length c0_1] 28 (0, 0)) (bvK BK297.out) hb); have n3_ := Aside0.mk (below_step hbC hb); clear HO302; clear BK297; clear HB; have HO302 := n0_; have HO305 := n1_; have BK297 := n2_; have HB := n3_; clear n0_ n1_ n2_ n3_; (try clear hb); (try clear hb2); (try clear hk); (try clear hi); (try clear ho0)))
    go_ret
    exact ⟨_, ers, by (with_reducible repeat (first | apply Kd.R_alloc | apply Kd.R_drewN | apply Kd.R_drew)); exact Kd.R_mono HO305.out (fun _ hk => trivial), hbC⟩

end Go.Proofs.Ytpcckoljocpchaa.QFnAddPick
