-- Written by a program of this session (mk.py). Lean checks it.
import Derived.Test.YtpcckoljocpchaaQFnAddPickx0
import Derived.Test.YtpcckoljocpchaaQFnAddPickx1
import Derived.Test.YtpcckoljocpchaaQFnAddPickx7
namespace Go.Proofs.Ytpcckoljocpchaa.QFnAddPick
open Go.RowKit Go.Proofs.YtpcckoljocpchaaW.PrintWords Go.Proofs.YtpcckoljocpchaaW.PrintLast Go.Proofs.YtpcckoljocpchaaW.PrintMore
attribute [local go_sem] max2_int min2_int max_two min_two max_three min_three max_four min_four   -- for this text's walks alone
set_option linter.unusedVariables false
set_option linter.unusedSimpArgs false

/-! ### spec_l7Some: function 68 -/
def spec_l7Some.f (k : Nat) (s0_0 : List Int) (s0_1 : Int) (a1_0 : Int) (l1_1 : List (S92)) : Option (Int × Int) := (spec_l7Nodes.f a1_0 l1_1).bind fun t186 => ((spec_l40Rd_pick.f k s0_0 s0_1 15).bind fun bt187 => (if bt187.1 = 0 then ((spec_l40Rd_num.f k s0_0 bt187.2 (([wrap64 (2 * t186), (-1)] : List Int))).bind fun bt192 => (some (bt192.1, bt192.2))) else ((spec_l40Rd_pick.f k s0_0 bt187.2 2).bind fun bt194 => (if bt194.1 = 0 then ((spec_l40Rd_pick.f k s0_0 bt194.2 4).bind fun bt196 => (some (wrap64 ((wrap64 ((wrap64 (2 * t186)) - 1)) - bt196.1), bt196.2))) else ((spec_l40Rd_pick.f k s0_0 bt194.2 (wrap64 (2 * t186))).bind fun bt198 => (some (bt198.1, bt198.2)))))))
theorem spec_l7Some.mono : ∀ a0 a1 a2 a3 k, LeO (spec_l7Some.f k a0 a1 a2 a3) (spec_l7Some.f (k + 1) a0 a1 a2 a3) := by
 intro a0 a1 a2 a3 k
 unfold spec_l7Some.f
 repeat' first
   | (with_reducible exact spec_l40Rd_num.mono _ _ _ _)
   | (with_reducible exact spec_l40Rd_pick.mono _ _ _ _)
   | (with_reducible exact LeO.refl _)
   | (with_reducible exact LeO.none _)
   | (with_reducible refine LeO.ite ?_ ?_)
   | (with_reducible refine LeO.bind ?_ (fun _ => ?_))
   | exact spec_l40Rd_num.mono _ _ _ _
   | exact spec_l40Rd_pick.mono _ _ _ _
   | exact LeO.none _
   | refine LeO.ite ?_ ?_
   | refine LeO.bind ?_ (fun _ => ?_)
set_option maxHeartbeats 8000000 in
set_option maxRecDepth 100000 in
theorem spec_l7Some.calls (k : Nat) (g : Nat) (s0_0 : List Int) (s0_1 : Int) (a1_0 : Int) (A1_1 : Option Addr) (c1_1 : Nat) (l1_1 : List (S92)) (r1 : Int) (r2 : Int) (w0 w : World) (hI : IsS121 w0 w g s0_0 s0_1) (hB : Below w0.heap.size w0 w) (hr1_1 : ∀ W_, KeepBut w W_ g none → Kd.C k92 W_ A1_1 l1_1.length l1_1) (hc1_1 : l1_1.length ≤ c1_1) (h : spec_l7Some.f k s0_0 s0_1 a1_0 l1_1 = some (r1, r2)) :
  Calls Try.prog 68 #[.pointer (some ⟨g, 0, none⟩), .agg #[.int .i64 a1_0, .slice A1_1 l1_1.length c1_1]] w fun e w' => e = .returned (.int .i64 r1) ∧ IsS121 w0 w' g s0_0 r2 ∧ Below w0.heap.size w0 w' ∧ KeepBut w w' g none := by
 have hu28 := Try.underlying28
 have HR1_1 := Aside0.mk hr1_1
 have HC1_1 := Aside0.mk hc1_1
 clear hr1_1 hc1_1
 have HI0 := Aside0.mk hI
 have HK := Aside0.mk (KeepBut.refl w g none)
 have HL := Aside0.mk hB.size
 clear hI
 have HW0 := Aside0.mk hB.size
 have HB := Aside0.mk hB
 clear hB
 have H : ((spec_l7Nodes.f a1_0 l1_1).bind fun t186 => ((spec_l40Rd_pick.f k s0_0 s0_1 15).bind fun bt187 => (if bt187.1 = 0 then ((spec_l40Rd_num.f k s0_0 bt187.2 (([wrap64 (2 * t186), (-1)] : List Int))).bind fun bt192 => (some (bt192.1, bt192.2))) else ((spec_l40Rd_pick.f k s0_0 bt187.2 2).bind fun bt194 => (if bt194.1 = 0 then ((spec_l40Rd_pick.f k s0_0 bt194.2 4).bind fun bt196 => (some (wrap64 ((wrap64 ((wrap64 (2 * t186)) - 1)) - bt196.1), bt196.2))) else ((spec_l40Rd_pick.f k s0_0 bt194.2 (wrap64 (2 * t186))).bind fun bt198 => (some (bt198.1, bt198.2)))))))) = some (r1, r2) := h
 clear h
 replace H := Option.bind_eq_some_iff.mp H
 obtain ⟨t186, A30, H⟩ := H
 replace H : ((spec_l40Rd_pick.f k s0_0 s0_1 15).bind fun bt187 => (if bt187.1 = 0 then ((spec_l40Rd_num.f k s0_0 bt187.2 (([wrap64 (2 * t186), (-1)] : List Int))).bind fun bt192 => (some (bt192.1, bt192.2))) else ((spec_l40Rd_pick.f k s0_0 bt187.2 2).bind fun bt194 => (if bt194.1 = 0 then ((spec_l40Rd_pick.f k s0_0 bt194.2 4).bind fun bt196 => (some (wrap64 ((wrap64 ((wrap64 (2 * t186)) - 1)) - bt196.1), bt196.2))) else ((spec_l40Rd_pick.f k s0_0 bt194.2 (wrap64 (2 * t186))).bind fun bt198 => (some (bt198.1, bt198.2))))))) = some (r1, r2) := H
 have A3 := Aside0.mk A30
 clear A30
 replace H := Option.bind_eq_some_iff.mp H
 obtain ⟨⟨t187, t188⟩, A40, H⟩ := H
 replace H : (if t187 = 0 then ((spec_l40Rd_num.f k s0_0 t188 (([wrap64 (2 * t186), (-1)] : List Int))).bind fun bt192 => (some (bt192.1, bt192.2))) else ((spec_l40Rd_pick.f k s0_0 t188 2).bind fun bt194 => (if bt194.1 = 0 then ((spec_l40Rd_pick.f k s0_0 bt194.2 4).bind fun bt196 => (some (wrap64 ((wrap64 ((wrap64 (2 * t186)) - 1)) - bt196.1), bt196.2))) else ((spec_l40Rd_pick.f k s0_0 bt194.2 (wrap64 (2 * t186))).bind fun bt198 => (some (bt198.1, bt198.2)))))) = some (r1, r2) := H
 have A4 := Aside0.mk A40
 clear A40
 by_cases c5 : t187 = 0
 ·rw [if_pos c5] at H
  have c5b0 : (t187 == 0) = true := beq_iff_eq.mpr c5
  have c5b1 : (t187 != 0) = false := bne_eq_false_iff_eq.mpr c5
  clear c5
  obtain ⟨y189, hy189⟩ : ∃ y_ : List Int, y_ = (([wrap64 (2 * t186), (-1)] : List Int)) := ⟨_, rfl⟩
  replace H : ((spec_l40Rd_num.f k s0_0 t188 y189).bind fun bt192 => (some (bt192.1, bt192.2))) = some (r1, r2) := by first | (rw [hy189]; with_reducible exact H) | (have H2_ := (Option.bind_some _ _).symm.trans H; rw [hy189]; with_reducible exact H2_) | (have H2_ := (Option.bind_some _ _).symm.trans H; with_reducible exact H2_) | with_reducible exact H | (rw [hy189]; exact H) | exact H
  have Ny189 := Aside0.mk hy189
  clear hy189
  replace H := Option.bind_eq_some_iff.mp H
  obtain ⟨⟨t192, t193⟩, A60, H⟩ := H
  replace H : (some (t192, t193)) = some (r1, r2) := H
  have A6 := Aside0.mk A60
  clear A60
  simp only [Option.some.injEq, Prod.mk.injEq] at H
  obtain ⟨rfl, rfl⟩ := H
  go_enter Try.func68, Try.ntmps68
  go_wp2_with (first | ((with_reducible refine gate_dst (N := 3) rfl ?_); refine box_event ?hg (N := 3) ?hd (cs := #[.int .i64 a1_0, .slice A1_1 l1_1.length c1_1]) (t := 28) ?hr ?_; (case hd => rfl); (case hg => rfl); (case hr => first | (go_simp; done) | (go_simp; rfl)); intro gb185 hg w7 hbox hb; have n0_ := Aside0.mk (IsS121.below (by repeat (first | (with_reducible first | exact HI0.out | apply IsS121.alloc | apply IsS121.drewN | apply IsS121.drew | apply IsS121.set_1) | exact HI0.out)) hb); have n1_ := Aside0.mk (KeepBut.trans (by repeat (first | (with_reducible first | exact HK.out | apply KeepBut.set_ | apply keep_drewN | apply keep_drew | apply keep_alloc) | exact HK.out)) (KeepBut.of_below hb g none) (.inl rfl)); have n2_ := Aside0.mk (below_step (by repeat (first | (with_reducible first | exact HB.out | apply bwA | apply bwN | apply bwD | refine below_set ?_ (IsS121.ge HI0.out)) | exact HB.out)) hb); have n3_ := Aside0.mk (hbox); have n4_ := Aside0.mk ((by rw [hg]; exact (keep_size (w := w) (g := g) (row := none) (by repeat (first | (with_reducible first | exact HK.out | apply KeepBut.set_ | apply keep_drewN | apply keep_drew | apply keep_alloc) | exact HK.out))) : w.heap.size ≤ gb185)); have n5_ := Aside0.mk ((Nat.le_trans HW0.out (by rw [hg]; exact (keep_size (w := w) (g := g) (row := none) (by repeat (first | (with_reducible first | exact HK.out | apply KeepBut.set_ | apply keep_drewN | apply keep_drew | apply keep_alloc) | exact HK.out))) : w.heap.size ≤ gb185) : w0.heap.size ≤ gb185)); have n6_ := Aside0.mk ((by rw [hg]; exact Nat.ne_of_lt (IsS121.lt (show IsS121 w0 _ g s0_0 s0_1 from by repeat (first | (with_reducible first | exact HI0.out | apply IsS121.alloc | apply IsS121.drewN | apply IsS121.drew | apply IsS121.set_1) | exact HI0.out))) : g ≠ gb185)); have n7_ := Aside0.mk ((by rw [hg]; exact Nat.ne_of_gt (IsS121.lt (show IsS121 w0 _ g s0_0 s0_1 from by repeat (first | (with_reducible first | exact HI0.out | apply IsS121.alloc | apply IsS121.drewN | apply IsS121.drew | apply IsS121.set_1) | exact HI0.out))) : gb185 ≠ g)); clear HI0; clear HK; clear HB; have HI0 := n0_; have HK := n1_; have HB := n2_; have BK185 := n3_; have GW185 := n4_; have GE185 := n5_; have NB0_185 := n6_; have NB185_0 := n7_; clear n0_ n1_ n2_ n3_ n4_ n5_ n6_ n7_; clear hb hbox hg; have hnb8 := NB185_0.out; have hnc8 := NB0_185.out; have hcz9_0 : w7.cell? ⟨gb185, 0, none⟩ = some (.int .i64 a1_0) := (blk_cell BK185.out 0).trans rfl; have hcz9_1 : w7.cell? ⟨gb185, 1, none⟩ = some (.slice A1_1 l1_1.length c1_1) := (blk_cell BK185.out 1).trans rfl; have hfz9_0 := blk_frozen BK185.out 0; have hfz9_1 := blk_frozen BK185.out 1) | ((with_reducible refine gate_callee (f := 105) rfl ?_); refine goesL_ (some 7) rfl rfl Try.func105 (by kernel_rfl) rfl #[.agg #[.int .i64 a1_0, .slice A1_1 l1_1.length c1_1]] rfl lmB ?_; (with_reducible refine (spec_l7Nodes.calls a1_0 _ _ l1_1 t186 _ ?side1 ?side2 A3.out).mono ?_); (case side1 => exact Kd.C_foot_now HR1_1.out (by repeat (first | (with_reducible first | exact HK.out | apply KeepBut.set_ | apply keep_drewN | apply keep_drew | apply keep_alloc | refine keep_far ?_ GW185.out _) | exact HK.out))); (case side2 => exact HC1_1.out); rintro e w10 ⟨rfl, hb⟩; refine ⟨_, rfl, ?_⟩; have n0_ := Aside0.mk (IsS121.below (by repeat (first | (with_reducible first | exact HI0.out | apply IsS121.alloc | apply IsS121.drewN | apply IsS121.drew | apply IsS121.set_1 | refine IsS121.far ?_ NB0_185.out _) | exact HI0.out)) hb); have n1_ := Aside0.mk (blk_below (g := gb185) (o := .cells #[.int .i64 a1_0, .slice A1_1 l1_1.length c1_1] 28 (0, 0)) (bvK BK185.out) hb); have n2_ := Aside0.mk (KeepBut.trans (by repeat (first | (with_reducible first | exact HK.out | apply KeepBut.set_ | apply keep_drewN | apply keep_drew | apply keep_alloc | refine keep_far ?_ GW185.out _) | exact HK.out)) (KeepBut.of_below hb g none) (.inl rfl)); have n3_ := Aside0.mk (below_step (by repeat (first | (with_reducible first | exact HB.out | apply bwA | apply bwN | apply bwD | refine below_set ?_ (IsS121.ge HI0.out) | refine below_set ?_ GE185.out) | exact HB.out)) hb); clear HI0; clear BK185; clear HK; clear HB; have HI0 := n0_; have BK185 := n1_; have HK := n2_; have HB := n3_; clear n0_ n1_ n2_ n3_; (try clear hb); (try clear hb2); (try clear hk); (try clear hi)) | ((with_reducible refine gate_callee (f := 79) rfl ?_); refine goesL_ (some 10) rfl rfl Try.func79 (by kernel_rfl) rfl #[.pointer (some ⟨g, 0, none⟩), .int .i64 15] rfl lmB ?_; (with_reducible refine (spec_l40Rd_pick.calls k g s0_0 s0_1 15 t187 t188 w0 _ ?side1 ?side2 A4.out).mono ?_); (case side1 => repeat (first | (with_reducible first | exact HI0.out | apply IsS121.alloc | apply IsS121.drewN | apply IsS121.drew | apply IsS121.set_1 | refine IsS121.far ?_ NB0_185.out _) | exact HI0.out)); (case side2 => repeat (first | (with_reducible first | exact HB.out | apply bwA | apply bwN | apply bwD | refine below_set ?_ (IsS121.ge HI0.out) | refine below_set ?_ GE185.out) | exact HB.out)); rintro e w11 ⟨rfl, hi, hb, hk⟩; refine ⟨_, rfl, ?_⟩; have n0_ := Aside0.mk (KeepBut.blk hk (g' := gb185) (o := .cells #[.int .i64 a1_0, .slice A1_1 l1_1.length c1_1] 28 (0, 0)) (bvK BK185.out) NB185_0.out (by simp)); have n1_ := Aside0.mk (KeepBut.trans (by repeat (first | (with_reducible first | exact HK.out | apply KeepBut.set_ | apply keep_drewN | apply keep_drew | apply keep_alloc | refine keep_far ?_ GW185.out _) | exact HK.out)) hk (.inl rfl)); have n2_ := Aside0.mk (hb); have n3_ := Aside0.mk (hi); clear BK185; clear HK; clear HB; clear HI0; have BK185 := n0_; have HK := n1_; have HB := n2_; have HI0 := n3_; clear n0_ n1_ n2_ n3_; (try clear hb); (try clear hb2); (try clear hk); (try clear hi)) | ((with_reducible refine gate_dst (N := 14) rfl ?_); refine Kd.R_lit (Kd.int .i64) _ 3 ?hg (N := 14) ?hd (xs := ([wrap64 (2 * t186), (-1)] : List Int)) (inner := [.int .i64 (wrap64 (2 * t186)), .int .i64 (-1)]) (ok := fun _ => True) (okp := fun _ => True) ?hr ?hp (fun _ hk => hk) trivial (Below.refl _ _) (Nat.le_refl _) (by simp) ?_; (case hd => rfl); (case hg => rfl); (case hr => first | (go_simp; done) | (go_simp; rfl)); (case hp => exact (Reps.one (show Kd.M (Kd.int .i64) _ _ _ (wrap64 (2 * t186)) [.int .i64 (wrap64 (2 * t186))] from rfl) (Reps.one (show Kd.M (Kd.int .i64) _ _ _ (-1) [.int .i64 (-1)] from rfl) (Reps.none _ _)))); intro v190 w12 ho13 hb hg_ hnew_; clear hg_ hnew_; (first | rw [← Ny189.out] at ho13 | (simp only [Int.reduceToNat] at ho13; rw [← Ny189.out] at ho13)); have n0_ := Aside0.mk (Kd.R_lower ho13 (keep_size (w := w) (g := g) (row := none) (by repeat (first | (with_reducible first | exact HK.out | apply KeepBut.set_ | apply keep_drewN | apply keep_drew | apply keep_alloc | refine keep_far ?_ GW185.out _) | exact HK.out)))); have n1_ := Aside0.mk (IsS121.below (by repeat (first | (with_reducible first | exact HI0.out | apply IsS121.alloc | apply IsS121.drewN | apply IsS121.drew | apply IsS121.set_1 | refine IsS121.far ?_ NB0_185.out _) | exact HI0.out)) hb); have n2_ := Aside0.mk (blk_below (g := gb185) (o := .cells #[.int .i64 a1_0, .slice A1_1 l1_1.length c1_1] 28 (0, 0)) (bvK BK185.out) hb); have n3_ := Aside0.mk (KeepBut.trans (by repeat (first | (with_reducible first | exact HK.out | apply KeepBut.set_ | apply keep_drewN | apply keep_drew | apply keep_alloc | refine keep_far ?_ GW185.out _) | exact HK.out)) (KeepBut.of_below hb g none) (.inl rfl)); have n4_ := Aside0.mk (below_step (by repeat (first | (with_reducible first | exact HB.out | apply bwA | apply bwN | apply bwD | refine below_set ?_ (IsS121.ge HI0.out) | refine below_set ?_ GE185.out) | exact HB.out)) hb); clear HI0; clear BK185; clear HK; clear HB; have HO191 := n0_; have HI0 := n1_; have BK185 := n2_; have HK := n3_; have HB := n4_; clear n0_ n1_ n2_ n3_ n4_; clear hb ho13; obtain ⟨Ao14, co14, eo14⟩ := Kd.R_slice HO191.out; subst eo14) | ((with_reducible refine gate_callee (f := 80) rfl ?_); refine goesL_ (some 15) rfl rfl Try.func80 (by kernel_rfl) rfl #[.pointer (some ⟨g, 0, none⟩), .slice Ao14 y189.length co14] rfl lmB ?_; (with_reducible refine (spec_l40Rd_num.calls k g s0_0 t188 _ _ y189 t192 t193 w0 _ ?side1 ?side2 ?side3 ?side4 ?side5 A6.out).mono ?_); (case side1 => repeat (first | (with_reducible first | exact HI0.out | apply IsS121.alloc | apply IsS121.drewN | apply IsS121.drew | apply IsS121.set_1 | refine IsS121.far ?_ NB0_185.out _) | exact HI0.out)); (case side2 => repeat (first | (with_reducible first | exact HB.out | apply bwA | apply bwN | apply bwD | refine below_set ?_ (IsS121.ge HI0.out) | refine below_set ?_ GE185.out) | exact HB.out)); (case side3 => exact kcR (Kd.R_reads' HO191.out).2.2); (case side4 => exact (Kd.R_reads' HO191.out).2.1); (case side5 => exact far_slice (IsS121.own_ne HI0.out HO191.out (by decide))); rintro e w15 ⟨rfl, hi, hb, hk⟩; refine ⟨_, rfl, ?_⟩; have n0_ := Aside0.mk (KeepBut.blk hk (g' := gb185) (o := .cells #[.int .i64 a1_0, .slice A1_1 l1_1.length c1_1] 28 (0, 0)) (bvK BK185.out) NB185_0.out (by simp)); have n1_ := Aside0.mk (Kd.R_mono (Kd.R_keep (IsS121.apart (show IsS121 w0 _ g s0_0 t188 from by repeat (first | (with_reducible first | exact HI0.out | apply IsS121.alloc | apply IsS121.drewN | apply IsS121.drew | apply IsS121.set_1 | refine IsS121.far ?_ NB0_185.out _) | exact HI0.out)) (rvR HO191.out) (by decide)) hk (fun _ h => h.2)) (fun _ h => h.1)); have n2_ := Aside0.mk (KeepBut.trans (by repeat (first | (with_reducible first | exact HK.out | apply KeepBut.set_ | apply keep_drewN | apply keep_drew | apply keep_alloc | refine keep_far ?_ GW185.out _) | exact HK.out)) hk (.inl rfl)); have n3_ := Aside0.mk (hb); have n4_ := Aside0.mk (hi); clear BK185; clear HO191; clear HK; clear HB; clear HI0; have BK185 := n0_; have HO191 := n1_; have HK := n2_; have HB := n3_; have HI0 := n4_; clear n0_ n1_ n2_ n3_ n4_; (try clear hb); (try clear hb2); (try clear hk); (try clear hi)))
  go_ret
  exact ⟨ers, by repeat (first | (with_reducible first | exact HI0.out | apply IsS121.alloc | apply IsS121.drewN | apply IsS121.drew | apply IsS121.set_1 | refine IsS121.far ?_ NB0_185.out _) | exact HI0.out), by repeat (first | (with_reducible first | exact HB.out | apply bwA | apply bwN | apply bwD | refine below_set ?_ (IsS121.ge HI0.out) | refine below_set ?_ GE185.out) | exact HB.out), by repeat (first | (with_reducible first | exact HK.out | apply KeepBut.set_ | apply keep_drewN | apply keep_drew | apply keep_alloc | refine keep_far ?_ GW185.out _) | exact HK.out)⟩
 ·rw [if_neg c5] at H
  have c5b0 : (t187 == 0) = false := beq_eq_false_iff_ne.mpr c5
  have c5b1 : (t187 != 0) = true := bne_iff_ne.mpr c5
  replace H := Option.bind_eq_some_iff.mp H
  obtain ⟨⟨t194, t195⟩, A160, H⟩ := H
  replace H : (if t194 = 0 then ((spec_l40Rd_pick.f k s0_0 t195 4).bind fun bt196 => (some (wrap64 ((wrap64 ((wrap64 (2 * t186)) - 1)) - bt196.1), bt196.2))) else ((spec_l40Rd_pick.f k s0_0 t195 (wrap64 (2 * t186))).bind fun bt198 => (some (bt198.1, bt198.2)))) = some (r1, r2) := H
  have A16 := Aside0.mk A160
  clear A160
  by_cases c17 : t194 = 0
  ·rw [if_pos c17] at H
   have c17b0 : (t194 == 0) = true := beq_iff_eq.mpr c17
   have c17b1 : (t194 != 0) = false := bne_eq_false_iff_eq.mpr c17
   clear c17
   replace H := Option.bind_eq_some_iff.mp H
   obtain ⟨⟨t196, t197⟩, A180, H⟩ := H
   replace H : (some (wrap64 ((wrap64 ((wrap64 (2 * t186)) - 1)) - t196), t197)) = some (r1, r2) := H
   have A18 := Aside0.mk A180
   clear A180
   simp only [Option.some.injEq, Prod.mk.injEq] at H
   obtain ⟨rfl, rfl⟩ := H
   go_enter Try.func68, Try.ntmps68
   go_wp2_with (first | ((with_reducible refine gate_dst (N := 3) rfl ?_); refine box_event ?hg (N := 3) ?hd (cs := #[.int .i64 a1_0, .slice A1_1 l1_1.length c1_1]) (t := 28) ?hr ?_; (case hd => rfl); (case hg => rfl); (case hr => first | (go_simp; done) | (go_simp; rfl)); intro gb185 hg w19 hbox hb; have n0_ := Aside0.mk (IsS121.below (by repeat (first | (with_reducible first | exact HI0.out | apply IsS121.alloc | apply IsS121.drewN | apply IsS121.drew | apply IsS121.set_1) | exact HI0.out)) hb); have n1_ := Aside0.mk (KeepBut.trans (by repeat (first | (with_reducible first | exact HK.out | apply KeepBut.set_ | apply keep_drewN | apply keep_drew | apply keep_alloc) | exact HK.out)) (KeepBut.of_below hb g none) (.inl rfl)); have n2_ := Aside0.mk (below_step (by repeat (first | (with_reducible first | exact HB.out | apply bwA | apply bwN | apply bwD | refine below_set ?_ (IsS121.ge HI0.out)) | exact HB.out)) hb); have n3_ := Aside0.mk (hbox); have n4_ := Aside0.mk ((by rw [hg]; exact (keep_size (w := w) (g := g) (row := none) (by repeat (first | (with_reducible first | exact HK.out | apply KeepBut.set_ | apply keep_drewN | apply keep_drew | apply keep_alloc) | exact HK.out))) : w.heap.size ≤ gb185)); have n5_ := Aside0.mk ((Nat.le_trans HW0.out (by rw [hg]; exact (keep_size (w := w) (g := g) (row := none) (by repeat (first | (with_reducible first | exact HK.out | apply KeepBut.set_ | apply keep_drewN | apply keep_drew | apply keep_alloc) | exact HK.out))) : w.heap.size ≤ gb185) : w0.heap.size ≤ gb185)); have n6_ := Aside0.mk ((by rw [hg]; exact Nat.ne_of_lt (IsS121.lt (show IsS121 w0 _ g s0_0 s0_1 from by repeat (first | (with_reducible first | exact HI0.out | apply IsS121.alloc | apply IsS121.drewN | apply IsS121.drew | apply IsS121.set_1) | exact HI0.out))) : g ≠ gb185)); have n7_ := Aside0.mk ((by rw [hg]; exact Nat.ne_of_gt (IsS121.lt (show IsS121 w0 _ g s0_0 s0_1 from by repeat (first | (with_reducible first | exact HI0.out | apply IsS121.alloc | apply IsS121.drewN | apply IsS121.drew | apply IsS121.set_1) | exact HI0.out))) : gb185 ≠ g)); clear HI0; clear HK; clear HB; have HI0 := n0_; have HK := n1_; have HB := n2_; have BK185 := n3_; have GW185 := n4_; have GE185 := n5_; have NB0_185 := n6_; have NB185_0 := n7_; clear n0_ n1_ n2_ n3_ n4_ n5_ n6_ n7_; clear hb hbox hg; have hnb20 := NB185_0.out; have hnc20 := NB0_185.out; have hcz21_0 : w19.cell? ⟨gb185, 0, none⟩ = some (.int .i64 a1_0) := (blk_cell BK185.out 0).trans rfl; have hcz21_1 : w19.cell? ⟨gb185, 1, none⟩ = some (.slice A1_1 l1_1.length c1_1) := (blk_cell BK185.out 1).trans rfl; have hfz21_0 := blk_frozen BK185.out 0; have hfz21_1 := blk_frozen BK185.out 1) | ((with_reducible refine gate_callee (f := 105) rfl ?_); refine goesL_ (some 7) rfl rfl Try.func105 (by kernel_rfl) rfl #[.agg #[.int .i64 a1_0, .slice A1_1 l1_1.length c1_1]] rfl lmB ?_; (with_reducible refine (spec_l7Nodes.calls a1_0 _ _ l1_1 t186 _ ?side1 ?side2 A3.out).mono ?_); (case side1 => exact Kd.C_foot_now HR1_1.out (by repeat (first | (with_reducible first | exact HK.out | apply KeepBut.set_ | apply keep_drewN | apply keep_drew | apply keep_alloc | refine keep_far ?_ GW185.out _) | exact HK.out))); (case side2 => exact HC1_1.out); rintro e w22 ⟨rfl, hb⟩; refine ⟨_, rfl, ?_⟩; have n0_ := Aside0.mk (IsS121.below (by repeat (first | (with_reducible first | exact HI0.out | apply IsS121.alloc | apply IsS121.drewN | apply IsS121.drew | apply IsS121.set_1 | refine IsS121.far ?_ NB0_185.out _) | exact HI0.out)) hb); have n1_ := Aside0.mk (blk_below (g := gb185) (o := .cells #[.int .i64 a1_0, .slice A1_1 l1_1.length c1_1] 28 (0, 0)) (bvK BK185.out) hb); have n2_ := Aside0.mk (KeepBut.trans (by repeat (first | (with_reducible first | exact HK.out | apply KeepBut.set_ | apply keep_drewN | apply keep_drew | apply keep_alloc | refine keep_far ?_ GW185.out _) | exact HK.out)) (KeepBut.of_below hb g none) (.inl rfl)); have n3_ := Aside0.mk (below_step (by repeat (first | (with_reducible first | exact HB.out | apply bwA | apply bwN | apply bwD | refine below_set ?_ (IsS121.ge HI0.out) | refine below_set ?_ GE185.out) | exact HB.out)) hb); clear HI0; clear BK185; clear HK; clear HB; have HI0 := n0_; have BK185 := n1_; have HK := n2_; have HB := n3_; clear n0_ n1_ n2_ n3_; (try clear hb); (try clear hb2); (try clear hk); (try clear hi)) | ((with_reducible refine gate_callee (f := 79) rfl ?_); refine goesL_ (some 10) rfl rfl Try.func79 (by kernel_rfl) rfl #[.pointer (some ⟨g, 0, none⟩), .int .i64 15] rfl lmB ?_; (with_reducible refine (spec_l40Rd_pick.calls k g s0_0 s0_1 15 t187 t188 w0 _ ?side1 ?side2 A4.out).mono ?_); (case side1 => repeat (first | (with_reducible first | exact HI0.out | apply IsS121.alloc | apply IsS121.drewN | apply IsS121.drew | apply IsS121.set_1 | refine IsS121.far ?_ NB0_185.out _) | exact HI0.out)); (case side2 => repeat (first | (with_reducible first | exact HB.out | apply bwA | apply bwN | apply bwD | refine below_set ?_ (IsS121.ge HI0.out) | refine below_set ?_ GE185.out) | exact HB.out)); rintro e w23 ⟨rfl, hi, hb, hk⟩; refine ⟨_, rfl, ?_⟩; have n0_ := Aside0.mk (KeepBut.blk hk (g' := gb185) (o := .cells #[.int .i64 a1_0, .slice A1_1 l1_1.length c1_1] 28 (0, 0)) (bvK BK185.out) NB185_0.out (by simp)); have n1_ := Aside0.mk (KeepBut.trans (by repeat (first | (with_reducible first | exact HK.out | apply KeepBut.set_ | apply keep_drewN | apply keep_drew | apply keep_alloc | refine keep_far ?_ GW185.out _) | exact HK.out)) hk (.inl rfl)); have n2_ := Aside0.mk (hb); have n3_ := Aside0.mk (hi); clear BK185; clear HK; clear HB; clear HI0; have BK185 := n0_; have HK := n1_; have HB := n2_; have HI0 := n3_; clear n0_ n1_ n2_ n3_; (try clear hb); (try clear hb2); (try clear hk); (try clear hi)) | ((with_reducible refine gate_callee (f := 79) rfl ?_); refine goesL_ (some 17) rfl rfl Try.func79 (by kernel_rfl) rfl #[.pointer (some ⟨g, 0, none⟩), .int .i64 2] rfl lmB ?_; (with_reducible refine (spec_l40Rd_pick.calls k g s0_0 t188 2 t194 t195 w0 _ ?side1 ?side2 A16.out).mono ?_); (case side1 => repeat (first | (with_reducible first | exact HI0.out | apply IsS121.alloc | apply IsS121.drewN | apply IsS121.drew | apply IsS121.set_1 | refine IsS121.far ?_ NB0_185.out _) | exact HI0.out)); (case side2 => repeat (first | (with_reducible first | exact HB.out | apply bwA | apply bwN | apply bwD | refine below_set ?_ (IsS121.ge HI0.out) | refine below_set ?_ GE185.out) | exact HB.out)); rintro e w24 ⟨rfl, hi, hb, hk⟩; refine ⟨_, rfl, ?_⟩; have n0_ := Aside0.mk (KeepBut.blk hk (g' := gb185) (o := .cells #[.int .i64 a1_0, .slice A1_1 l1_1.length c1_1] 28 (0, 0)) (bvK BK185.out) NB185_0.out (by simp)); have n1_ := Aside0.mk (KeepBut.trans (by repeat (first | (with_reducible first | exact HK.out | apply KeepBut.set_ | apply keep_drewN | apply keep_drew | apply keep_alloc | refine keep_far ?_ GW185.out _) | exact HK.out)) hk (.inl rfl)); have n2_ := Aside0.mk (hb); have n3_ := Aside0.mk (hi); clear BK185; clear HK; clear HB; clear HI0; have BK185 := n0_; have HK := n1_; have HB := n2_; have HI0 := n3_; clear n0_ n1_ n2_ n3_; (try clear hb); (try clear hb2); (try clear hk); (try clear hi)) | ((with_reducible refine gate_callee (f := 79) rfl ?_); refine goesL_ (some 22) rfl rfl Try.func79 (by kernel_rfl) rfl #[.pointer (some ⟨g, 0, none⟩), .int .i64 4] rfl lmB ?_; (with_reducible refine (spec_l40Rd_pick.calls k g s0_0 t195 4 t196 t197 w0 _ ?side1 ?side2 A18.out).mono ?_); (case side1 => repeat (first | (with_reducible first | exact HI0.out | apply IsS121.alloc | apply IsS121.drewN | apply IsS121.drew | apply IsS121.set_1 | refine IsS121.far ?_ NB0_185.out _) | exact HI0.out)); (case side2 => repeat (first | (with_reducible first | exact HB.out | apply bwA | apply bwN | apply bwD | refine below_set ?_ (IsS121.ge HI0.out) | refine below_set ?_ GE185.out) | exact HB.out)); rintro e w25 ⟨rfl, hi, hb, hk⟩; refine ⟨_, rfl, ?_⟩; have n0_ := Aside0.mk (KeepBut.blk hk (g' := gb185) (o := .cells #[.int .i64 a1_0, .slice A1_1 l1_1.length c1_1] 28 (0, 0)) (bvK BK185.out) NB185_0.out (by simp)); have n1_ := Aside0.mk (KeepBut.trans (by repeat (first | (with_reducible first | exact HK.out | apply KeepBut.set_ | apply keep_drewN | apply keep_drew | apply keep_alloc | refine keep_far ?_ GW185.out _) | exact HK.out)) hk (.inl rfl)); have n2_ := Aside0.mk (hb); have n3_ := Aside0.mk (hi); clear BK185; clear HK; clear HB; clear HI0; have BK185 := n0_; have HK := n1_; have HB := n2_; have HI0 := n3_; clear n0_ n1_ n2_ n3_; (try clear hb); (try clear hb2); (try clear hk); (try clear hi)))
   go_ret
   exact ⟨ers, by repeat (first | (with_reducible first | exact HI0.out | apply IsS121.alloc | apply IsS121.drewN | apply IsS121.drew | apply IsS121.set_1 | refine IsS121.far ?_ NB0_185.out _) | exact HI0.out), by repeat (first | (with_reducible first | exact HB.out | apply bwA | apply bwN | apply bwD | refine below_set ?_ (IsS121.ge HI0.out) | refine below_set ?_ GE185.out) | exact HB.out), by repeat (first | (with_reducible first | exact HK.out | apply KeepBut.set_ | apply keep_drewN | apply keep_drew | apply keep_alloc | refine keep_far ?_ GW185.out _) | exact HK.out)⟩
  ·rw [if_neg c17] at H
   have c17b0 : (t194 == 0) = false := beq_eq_false_iff_ne.mpr c17
   have c17b1 : (t194 != 0) = true := bne_iff_ne.mpr c17
   replace H := Option.bind_eq_some_iff.mp H
   obtain ⟨⟨t198, t199⟩, A260, H⟩ := H
   replace H : (some (t198, t199)) = some (r1, r2) := H
   have A26 := Aside0.mk A260
   clear A260
   simp only [Option.some.injEq, Prod.mk.injEq] at H
   obtain ⟨rfl, rfl⟩ := H
   go_enter Try.func68, Try.ntmps68
   go_wp2_with (first | ((with_reducible refine gate_dst (N := 3) rfl ?_); refine box_event ?hg (N := 3) ?hd (cs := #[.int .i64 a1_0, .slice A1_1 l1_1.length c1_1]) (t := 28) ?hr ?_; (case hd => rfl); (case hg => rfl); (case hr => first | (go_simp; done) | (go_simp; rfl)); intro gb185 hg w27 hbox hb; have n0_ := Aside0.mk (IsS121.below (by repeat (first | (with_reducible first | exact HI0.out | apply IsS121.alloc | apply IsS121.drewN | apply IsS121.drew | apply IsS121.set_1) | exact HI0.out)) hb); have n1_ := Aside0.mk (KeepBut.trans (by repeat (first | (with_reducible first | exact HK.out | apply KeepBut.set_ | apply keep_drewN | apply keep_drew | apply keep_alloc) | exact HK.out)) (KeepBut.of_below hb g none) (.inl rfl)); have n2_ := Aside0.mk (below_step (by repeat (first | (with_reducible first | exact HB.out | apply bwA | apply bwN | apply bwD | refine below_set ?_ (IsS121.ge HI0.out)) | exact HB.out)) hb); have n3_ := Aside0.mk (hbox); have n4_ := Aside0.mk ((by rw [hg]; exact (keep_size (w := w) (g := g) (row := none) (by repeat (first | (with_reducible first | exact HK.out | apply KeepBut.set_ | apply keep_drewN | apply keep_drew | apply keep_alloc) | exact HK.out))) : w.heap.size ≤ gb185)); have n5_ := Aside0.mk ((Nat.le_trans HW0.out (by rw [hg]; exact (keep_size (w := w) (g := g) (row := none) (by repeat (first | (with_reducible first | exact HK.out | apply KeepBut.set_ | apply keep_drewN | apply keep_drew | apply keep_alloc) | exact HK.out))) : w.heap.size ≤ gb185) : w0.heap.size ≤ gb185)); have n6_ := Aside0.mk ((by rw [hg]; exact Nat.ne_of_lt (IsS121.lt (show IsS121 w0 _ g s0_0 s0_1 from by repeat (first | (with_reducible first | exact HI0.out | apply IsS121.alloc | apply IsS121.drewN | apply IsS121.drew | apply IsS121.set_1) | exact HI0.out))) : g ≠ gb185)); have n7_ := Aside0.mk ((by rw [hg]; exact Nat.ne_of_gt (IsS121.lt (show IsS121 w0 _ g s0_0 s0_1 from by repeat (first | (with_reducible first | exact HI0.out | apply IsS121.alloc | apply IsS121.drewN | apply IsS121.drew | apply IsS121.set_1) | exact HI0.out))) : gb185 ≠ g)); clear HI0; clear HK; clear HB; have HI0 := n0_; have HK := n1_; have HB := n2_; have BK185 := n3_; have GW185 := n4_; have GE185 := n5_; have NB0_185 := n6_; have NB185_0 := n7_; clear n0_ n1_ n2_ n3_ n4_ n5_ n6_ n7_; clear hb hbox hg; have hnb28 := NB185_0.out; have hnc28 := NB0_185.out; have hcz29_0 : w27.cell? ⟨gb185, 0, none⟩ = some (.int .i64 a1_0) := (blk_cell BK185.out 0).trans rfl; have hcz29_1 : w27.cell? ⟨gb185, 1, none⟩ = some (.slice A1_1 l1_1.length c1_1) := (blk_cell BK185.out 1).trans rfl; have hfz29_0 := blk_frozen BK185.out 0; have hfz29_1 := blk_frozen BK185.out 1) | ((with_reducible refine gate_callee (f := 105) rfl ?_); refine goesL_ (some 7) rfl rfl Try.func105 (by kernel_rfl) rfl #[.agg #[.int .i64 a1_0, .slice A1_1 l1_1.length c1_1]] rfl lmB ?_; (with_reducible refine (spec_l7Nodes.calls a1_0 _ _ l1_1 t186 _ ?side1 ?side2 A3.out).mono ?_); (case side1 => exact Kd.C_foot_now HR1_1.out (by repeat (first | (with_reducible first | exact HK.out | apply KeepBut.set_ | apply keep_drewN | apply keep_drew | apply keep_alloc | refine keep_far ?_ GW185.out _) | exact HK.out))); (case side2 => exact HC1_1.out); rintro e w30 ⟨rfl, hb⟩; refine ⟨_, rfl, ?_⟩; have n0_ := Aside0.mk (IsS121.below (by repeat (first | (with_reducible first | exact HI0.out | apply IsS121.alloc | apply IsS121.drewN | apply IsS121.drew | apply IsS121.set_1 | refine IsS121.far ?_ NB0_185.out _) | exact HI0.out)) hb); have n1_ := Aside0.mk (blk_below (g := gb185) (o := .cells #[.int .i64 a1_0, .slice A1_1 l1_1.length c1_1] 28 (0, 0)) (bvK BK185.out) hb); have n2_ := Aside0.mk (KeepBut.trans (by repeat (first | (with_reducible first | exact HK.out | apply KeepBut.set_ | apply keep_drewN | apply keep_drew | apply keep_alloc | refine keep_far ?_ GW185.out _) | exact HK.out)) (KeepBut.of_below hb g none) (.inl rfl)); have n3_ := Aside0.mk (below_step (by repeat (first | (with_reducible first | exact HB.out | apply bwA | apply bwN | apply bwD | refine below_set ?_ (IsS121.ge HI0.out) | refine below_set ?_ GE185.out) | exact HB.out)) hb); clear HI0; clear BK185; clear HK; clear HB; have HI0 := n0_; have BK185 := n1_; have HK := n2_; have HB := n3_; clear n0_ n1_ n2_ n3_; (try clear hb); (try clear hb2); (try clear hk); (try clear hi)) | ((with_reducible refine gate_callee (f := 79) rfl ?_); refine goesL_ (some 10) rfl rfl Try.func79 (by kernel_rfl) rfl #[.pointer (some ⟨g, 0, none⟩), .int .i64 15] rfl lmB ?_; (with_reducible refine (spec_l40Rd_pick.calls k g s0_0 s0_1 15 t187 t188 w0 _ ?side1 ?side2 A4.out).mono ?_); (case side1 => repeat (first | (with_reducible first | exact HI0.out | apply IsS121.alloc | apply IsS121.drewN | apply IsS121.drew | apply IsS121.set_1 | refine IsS121.far ?_ NB0_185.out _) | exact HI0.out)); (case side2 => repeat (first | (with_reducible first | exact HB.out | apply bwA | apply bwN | apply bwD | refine below_set ?_ (IsS121.ge HI0.out) | refine below_set ?_ GE185.out) | exact HB.out)); rintro e w31 ⟨rfl, hi, hb, hk⟩; refine ⟨_, rfl, ?_⟩; have n0_ := Aside0.mk (KeepBut.blk hk (g' := gb185) (o := .cells #[.int .i64 a1_0, .slice A1_1 l1_1.length c1_1] 28 (0, 0)) (bvK BK185.out) NB185_0.out (by simp)); have n1_ := Aside0.mk (KeepBut.trans (by repeat (first | (with_reducible first | exact HK.out | apply KeepBut.set_ | apply keep_drewN | apply keep_drew | apply keep_alloc | refine keep_far ?_ GW185.out _) | exact HK.out)) hk (.inl rfl)); have n2_ := Aside0.mk (hb); have n3_ := Aside0.mk (hi); clear BK185; clear HK; clear HB; clear HI0; have BK185 := n0_; have HK := n1_; have HB := n2_; have HI0 := n3_; clear n0_ n1_ n2_ n3_; (try clear hb); (try clear hb2); (try clear hk); (try clear hi)) | ((with_reducible refine gate_callee (f := 79) rfl ?_); refine goesL_ (some 17) rfl rfl Try.func79 (by kernel_rfl) rfl #[.pointer (some ⟨g, 0, none⟩), .int .i64 2] rfl lmB ?_; (with_reducible refine (spec_l40Rd_pick.calls k g s0_0 t188 2 t194 t195 w0 _ ?side1 ?side2 A16.out).mono ?_); (case side1 => repeat (first | (with_reducible first | exact HI0.out | apply IsS121.alloc | apply IsS121.drewN | apply IsS121.drew | apply IsS121.set_1 | refine IsS121.far ?_ NB0_185.out _) | exact HI0.out)); (case side2 => repeat (first | (with_reducible first | exact HB.out | apply bwA | apply bwN | apply bwD | refine below_set ?_ (IsS121.ge HI0.out) | refine below_set ?_ GE185.out) | exact HB.out)); rintro e w32 ⟨rfl, hi, hb, hk⟩; refine ⟨_, rfl, ?_⟩; have n0_ := Aside0.mk (KeepBut.blk hk (g' := gb185) (o := .cells #[.int .i64 a1_0, .slice A1_1 l1_1.length c1_1] 28 (0, 0)) (bvK BK185.out) NB185_0.out (by simp)); have n1_ := Aside0.mk (KeepBut.trans (by repeat (first | (with_reducible first | exact HK.out | apply KeepBut.set_ | apply keep_drewN | apply keep_drew | apply keep_alloc | refine keep_far ?_ GW185.out _) | exact HK.out)) hk (.inl rfl)); have n2_ := Aside0.mk (hb); have n3_ := Aside0.mk (hi); clear BK185; clear HK; clear HB; clear HI0; have BK185 := n0_; have HK := n1_; have HB := n2_; have HI0 := n3_; clear n0_ n1_ n2_ n3_; (try clear hb); (try clear hb2); (try clear hk); (try clear hi)) | ((with_reducible refine gate_callee (f := 79) rfl ?_); refine goesL_ (some 26) rfl rfl Try.func79 (by kernel_rfl) rfl #[.pointer (some ⟨g, 0, none⟩), .int .i64 (wrap64 (2 * t186))] rfl lmB ?_; (with_reducible refine (spec_l40Rd_pick.calls k g s0_0 t195 (wrap64 (2 * t186)) t198 t199 w0 _ ?side1 ?side2 A26.out).mono ?_); (case side1 => repeat (first | (with_reducible first | exact HI0.out | apply IsS121.alloc | apply IsS121.drewN | apply IsS121.drew | apply IsS121.set_1 | refine IsS121.far ?_ NB0_185.out _) | exact HI0.out)); (case side2 => repeat (first | (with_reducible first | exact HB.out | apply bwA | apply bwN | apply bwD | refine below_set ?_ (IsS121.ge HI0.out) | refine below_set ?_ GE185.out) | exact HB.out)); rintro e w33 ⟨rfl, hi, hb, hk⟩; refine ⟨_, rfl, ?_⟩; have n0_ := Aside0.mk (KeepBut.blk hk (g' := gb185) (o := .cells #[.int .i64 a1_0, .slice A1_1 l1_1.length c1_1] 28 (0, 0)) (bvK BK185.out) NB185_0.out (by simp)); have n1_ := Aside0.mk (KeepBut.trans (by repeat (first | (with_reducible first | exact HK.out | apply KeepBut.set_ | apply keep_drewN | apply keep_drew | apply keep_alloc | refine keep_far ?_ GW185.out _) | exact HK.out)) hk (.inl rfl)); have n2_ := Aside0.mk (hb); have n3_ := Aside0.mk (hi); clear BK185; clear HK; clear HB; clear HI0; have BK185 := n0_; have HK := n1_; have HB := n2_; have HI0 := n3_; clear n0_ n1_ n2_ n3_; (try clear hb); (try clear hb2); (try clear hk); (try clear hi)))
   go_ret
   exact ⟨ers, by repeat (first | (with_reducible first | exact HI0.out | apply IsS121.alloc | apply IsS121.drewN | apply IsS121.drew | apply IsS121.set_1 | refine IsS121.far ?_ NB0_185.out _) | exact HI0.out), by repeat (first | (with_reducible first | exact HB.out | apply bwA | apply bwN | apply bwD | refine below_set ?_ (IsS121.ge HI0.out) | refine below_set ?_ GE185.out) | exact HB.out), by repeat (first | (with_reducible first | exact HK.out | apply KeepBut.set_ | apply keep_drewN | apply keep_drew | apply keep_alloc | refine keep_far ?_ GW185.out _) | exact HK.out)⟩

/-! ### spec_l7Draw: function 115 -/
def spec_l7Draw.l0 : Nat → Int → List Int → Int → Int → List (S92) → Option (Int × (List (S92)) × Int)
 | 0, _, _, _, _, _ => none
 | k + 1, x6, x1000, x1001, x204000, x204001 => if x6 > 0 then ((spec_l7Nodes.f x204000 x204001).bind fun t209 => ((spec_l40Rd_pick.f k x1000 x1001 (wrap64 (2 * t209))).bind fun bt210 => ((spec_l40Rd_pick.f k x1000 bt210.2 (wrap64 (Int.tdiv (wrap64 ((wrap64 (2 * t209)) + 1)) 2))).bind fun bt212 => (if x204001.length < 8796093022208 then (spec_l7Draw.l0 k (wrap64 (x6 - 1)) x1000 bt212.2 x204000 (x204001 ++ [(⟨bt210.1, wrap64 ((wrap64 ((wrap64 (2 * t209)) - 1)) - bt212.1)⟩ : S92)])) else (none))))) else (some (x204000, x204001, x1001))
def spec_l7Draw.f (k : Nat) (s0_0 : List Int) (s0_1 : Int) (a1 : Int) : Option (Int × (List (S92)) × Int) := (spec_l40Rd_pick.f k s0_0 s0_1 (wrap64 (a1 + 1))).bind fun bt201 => ((spec_l40Rd_num.f k s0_0 bt201.2 (([3, 6, 10, 1, 14, 0] : List Int))).bind fun bt207 => (spec_l7Draw.l0 k bt207.1 s0_0 bt207.2 bt201.1 ([] : List (S92))))
theorem spec_l7Draw.mono_l : ∀ k, (∀ y0 y1 y2 y3 y4, LeO (spec_l7Draw.l0 k y0 y1 y2 y3 y4) (spec_l7Draw.l0 (k + 1) y0 y1 y2 y3 y4))
 | 0 => fun _ _ _ _ _ r h => by simp [spec_l7Draw.l0] at h
 | k + 1 => by
  have ih0 := spec_l7Draw.mono_l k
  ·intro y0 y1 y2 y3 y4
   unfold spec_l7Draw.l0
   repeat' first
   | (with_reducible exact ih0 _ _ _ _ _)
   | (with_reducible exact spec_l40Rd_num.mono _ _ _ _)
   | (with_reducible exact spec_l40Rd_pick.mono _ _ _ _)
   | (with_reducible exact LeO.refl _)
   | (with_reducible exact LeO.none _)
   | (with_reducible refine LeO.ite ?_ ?_)
   | (with_reducible refine LeO.bind ?_ (fun _ => ?_))
   | exact ih0 _ _ _ _ _
   | exact spec_l40Rd_num.mono _ _ _ _
   | exact spec_l40Rd_pick.mono _ _ _ _
   | exact LeO.none _
   | refine LeO.ite ?_ ?_
   | refine LeO.bind ?_ (fun _ => ?_)
theorem spec_l7Draw.mono : ∀ a0 a1 a2 k, LeO (spec_l7Draw.f k a0 a1 a2) (spec_l7Draw.f (k + 1) a0 a1 a2) := by
 intro a0 a1 a2 k
 have ih0 := spec_l7Draw.mono_l k
 unfold spec_l7Draw.f
 repeat' first
   | (with_reducible exact ih0 _ _ _ _ _)
   | (with_reducible exact spec_l40Rd_num.mono _ _ _ _)
   | (with_reducible exact spec_l40Rd_pick.mono _ _ _ _)
   | (with_reducible exact LeO.refl _)
   | (with_reducible exact LeO.none _)
   | (with_reducible refine LeO.ite ?_ ?_)
   | (with_reducible refine LeO.bind ?_ (fun _ => ?_))
   | exact ih0 _ _ _ _ _
   | exact spec_l40Rd_num.mono _ _ _ _
   | exact spec_l40Rd_pick.mono _ _ _ _
   | exact LeO.none _
   | refine LeO.ite ?_ ?_
   | refine LeO.bind ?_ (fun _ => ?_)
def spec_l7Draw.T6 : Bool × List (List Nat × List Nat) := (true, [([], []), ([0], [0]), ([], []), ([], []), ([2, 3], [2, 3]), ([], []), ([5], [5]), ([], []), ([], []), ([8], [8]), ([9], [9]), ([7, 10, 4], [7, 10]), ([6, 11], [6, 11]), ([4, 12], [4, 12]), ([13], [13]), ([1, 14, 11], [1, 14]), ([0, 1, 2, 3, 4, 5, 6, 7, 8, 9, 10, 11, 12, 13, 14, 15], []), ([16, 15, 15, 0, 1, 2, 3, 4, 5, 6, 7, 8, 9, 10, 11, 12, 13, 14, 15], [15, 16])])
def spec_l7Draw.B6 : List Nat := [0, 1, 0, 0, 12, 0, 32, 0, 0, 256, 768, 1948, 4092, 8188, 16380, 32767, 65535, 131071]
theorem spec_l7Draw.tab6 : rtab .any (opsOf Try.f115 6) = spec_l7Draw.T6 := by kernel_rfl
theorem spec_l7Draw.bits6 : waitsOk spec_l7Draw.T6.2 spec_l7Draw.B6 = true := by kernel_rfl
set_option maxHeartbeats 8000000 in
set_option maxRecDepth 100000 in
theorem spec_l7Draw.calls (k : Nat) (g : Nat) (s0_0 : List Int) (s0_1 : Int) (a1 : Int) (r1 : Int) (r2 : List (S92)) (r3 : Int) (w0 w : World) (hI : IsS121 w0 w g s0_0 s0_1) (hB : Below w0.heap.size w0 w) (h : spec_l7Draw.f k s0_0 s0_1 a1 = some (r1, r2, r3)) :
  Calls Try.prog 115 #[.pointer (some ⟨g, 0, none⟩), .int .i64 a1] w fun e w' => ∃ v1_ : Value, e = .returned (.agg #[.int .i64 r1, v1_]) ∧ Kd.R k92 92 w' w.heap.size (fun _ => True) v1_ r2 ∧ IsS121 w0 w' g s0_0 r3 ∧ Below w0.heap.size w0 w' ∧ KeepBut w w' g none := by
 have hu28 := Try.underlying28
 have hu92 := Try.underlying92
 have HI0 := Aside0.mk hI
 have HK := Aside0.mk (KeepBut.refl w g none)
 have HL := Aside0.mk hB.size
 clear hI
 have HW0 := Aside0.mk hB.size
 have HB := Aside0.mk hB
 clear hB
 have H : ((spec_l40Rd_pick.f k s0_0 s0_1 (wrap64 (a1 + 1))).bind fun bt201 => ((spec_l40Rd_num.f k s0_0 bt201.2 (([3, 6, 10, 1, 14, 0] : List Int))).bind fun bt207 => (spec_l7Draw.l0 k bt207.1 s0_0 bt207.2 bt201.1 ([] : List (S92))))) = some (r1, r2, r3) := h
 clear h
 replace H := Option.bind_eq_some_iff.mp H
 obtain ⟨⟨t201, t202⟩, A30, H⟩ := H
 replace H : ((spec_l40Rd_num.f k s0_0 t202 (([3, 6, 10, 1, 14, 0] : List Int))).bind fun bt207 => (spec_l7Draw.l0 k bt207.1 s0_0 bt207.2 t201 ([] : List (S92)))) = some (r1, r2, r3) := H
 have A3 := Aside0.mk A30
 clear A30
 obtain ⟨y204, hy204⟩ : ∃ y_ : List Int, y_ = (([3, 6, 10, 1, 14, 0] : List Int)) := ⟨_, rfl⟩
 replace H : ((spec_l40Rd_num.f k s0_0 t202 y204).bind fun bt207 => (spec_l7Draw.l0 k bt207.1 s0_0 bt207.2 t201 ([] : List (S92)))) = some (r1, r2, r3) := by first | (rw [hy204]; with_reducible exact H) | (have H2_ := (Option.bind_some _ _).symm.trans H; rw [hy204]; with_reducible exact H2_) | (have H2_ := (Option.bind_some _ _).symm.trans H; with_reducible exact H2_) | with_reducible exact H | (rw [hy204]; exact H) | exact H
 have Ny204 := Aside0.mk hy204
 clear hy204
 replace H := Option.bind_eq_some_iff.mp H
 obtain ⟨⟨t207, t208⟩, A40, H⟩ := H
 replace H : (spec_l7Draw.l0 k t207 s0_0 t208 t201 ([] : List (S92))) = some (r1, r2, r3) := H
 have A4 := Aside0.mk A40
 clear A40
 have H' := Aside0.mk H
 clear H
 go_enter Try.func115, Try.ntmps115
 go_wp2_with (first | ((with_reducible refine gate_dst (N := 4) rfl ?_); refine box_event ?hg (N := 4) ?hd (cs := #[.int .i64 0, .slice none 0 0]) (t := 28) ?hr ?_; (case hd => rfl); (case hg => rfl); (case hr => first | (go_simp; done) | (go_simp; rfl)); intro gb200 hg w5 hbox hb; have n0_ := Aside0.mk (IsS121.below (by repeat (first | (with_reducible first | exact HI0.out | apply IsS121.alloc | apply IsS121.drewN | apply IsS121.drew | apply IsS121.set_1) | exact HI0.out)) hb); have n1_ := Aside0.mk (KeepBut.trans (by repeat (first | (with_reducible first | exact HK.out | apply KeepBut.set_ | apply keep_drewN | apply keep_drew | apply keep_alloc) | exact HK.out)) (KeepBut.of_below hb g none) (.inl rfl)); have n2_ := Aside0.mk (below_step (by repeat (first | (with_reducible first | exact HB.out | apply bwA | apply bwN | apply bwD | refine below_set ?_ (IsS121.ge HI0.out)) | exact HB.out)) hb); have n3_ := Aside0.mk (hbox); have n4_ := Aside0.mk ((by rw [hg]; exact (keep_size (w := w) (g := g) (row := none) (by repeat (first | (with_reducible first | exact HK.out | apply KeepBut.set_ | apply keep_drewN | apply keep_drew | apply keep_alloc) | exact HK.out))) : w.heap.size ≤ gb200)); have n5_ := Aside0.mk ((Nat.le_trans HW0.out (by rw [hg]; exact (keep_size (w := w) (g := g) (row := none) (by repeat (first | (with_reducible first | exact HK.out | apply KeepBut.set_ | apply keep_drewN | apply keep_drew | apply keep_alloc) | exact HK.out))) : w.heap.size ≤ gb200) : w0.heap.size ≤ gb200)); have n6_ := Aside0.mk ((by rw [hg]; exact Nat.ne_of_lt (IsS121.lt (show IsS121 w0 _ g s0_0 s0_1 from by repeat (first | (with_reducible first | exact HI0.out | apply IsS121.alloc | apply IsS121.drewN | apply IsS121.drew | apply IsS121.set_1) | exact HI0.out))) : g ≠ gb200)); have n7_ := Aside0.mk ((by rw [hg]; exact Nat.ne_of_gt (IsS121.lt (show IsS121 w0 _ g s0_0 s0_1 from by repeat (first | (with_reducible first | exact HI0.out | apply IsS121.alloc | apply IsS121.drewN | apply IsS121.drew | apply IsS121.set_1) | exact HI0.out))) : gb200 ≠ g)); clear HI0; clear HK; clear HB; have HI0 := n0_; have HK := n1_; have HB := n2_; have BK200 := n3_; have GW200 := n4_; have GE200 := n5_; have NB0_200 := n6_; have NB200_0 := n7_; clear n0_ n1_ n2_ n3_ n4_ n5_ n6_ n7_; clear hb hbox hg) | ((with_reducible refine gate_callee (f := 79) rfl ?_); refine goesL_ (some 11) rfl rfl Try.func79 (by kernel_rfl) rfl #[.pointer (some ⟨g, 0, none⟩), .int .i64 (wrap64 (a1 + 1))] rfl lmB ?_; (with_reducible refine (spec_l40Rd_pick.calls k g s0_0 s0_1 (wrap64 (a1 + 1)) t201 t202 w0 _ ?side1 ?side2 A3.out).mono ?_); (case side1 => repeat (first | (with_reducible first | exact HI0.out | apply IsS121.alloc | apply IsS121.drewN | apply IsS121.drew | apply IsS121.set_1 | refine IsS121.far ?_ NB0_200.out _) | exact HI0.out)); (case side2 => repeat (first | (with_reducible first | exact HB.out | apply bwA | apply bwN | apply bwD | refine below_set ?_ (IsS121.ge HI0.out) | refine below_set ?_ GE200.out) | exact HB.out)); rintro e w6 ⟨rfl, hi, hb, hk⟩; refine ⟨_, rfl, ?_⟩; have n0_ := Aside0.mk (KeepBut.blk hk (g' := gb200) (o := .cells #[.int .i64 0, .slice none 0 0] 28 (0, 0)) (bvK BK200.out) NB200_0.out (by simp)); have n1_ := Aside0.mk (KeepBut.trans (by repeat (first | (with_reducible first | exact HK.out | apply KeepBut.set_ | apply keep_drewN | apply keep_drew | apply keep_alloc | refine keep_far ?_ GW200.out _) | exact HK.out)) hk (.inl rfl)); have n2_ := Aside0.mk (hb); have n3_ := Aside0.mk (hi); clear BK200; clear HK; clear HB; clear HI0; have BK200 := n0_; have HK := n1_; have HB := n2_; have HI0 := n3_; clear n0_ n1_ n2_ n3_; (try clear hb); (try clear hb2); (try clear hk); (try clear hi)) | ((with_reducible refine gate_dst (N := 5) rfl ?_); refine box_event ?hg (N := 5) ?hd (cs := #[.int .i64 0, .slice none 0 0]) (t := 28) ?hr ?_; (case hd => rfl); (case hg => rfl); (case hr => first | (go_simp; done) | (go_simp; rfl)); intro gb203 hg w7 hbox hb; have n0_ := Aside0.mk (IsS121.below (by repeat (first | (with_reducible first | exact HI0.out | apply IsS121.alloc | apply IsS121.drewN | apply IsS121.drew | apply IsS121.set_1 | refine IsS121.far ?_ NB0_200.out _) | exact HI0.out)) hb); have n1_ := Aside0.mk (blk_below (g := gb200) (o := .cells #[.int .i64 0, .slice none 0 0] 28 (0, 0)) (bvK BK200.out) hb); have n2_ := Aside0.mk (KeepBut.trans (by repeat (first | (with_reducible first | exact HK.out | apply KeepBut.set_ | apply keep_drewN | apply keep_drew | apply keep_alloc | refine keep_far ?_ GW200.out _) | exact HK.out)) (KeepBut.of_below hb g none) (.inl rfl)); have n3_ := Aside0.mk (below_step (by repeat (first | (with_reducible first | exact HB.out | apply bwA | apply bwN | apply bwD | refine below_set ?_ (IsS121.ge HI0.out) | refine below_set ?_ GE200.out) | exact HB.out)) hb); have n4_ := Aside0.mk (hbox); have n5_ := Aside0.mk ((by rw [hg]; exact (keep_size (w := w) (g := g) (row := none) (by repeat (first | (with_reducible first | exact HK.out | apply KeepBut.set_ | apply keep_drewN | apply keep_drew | apply keep_alloc | refine keep_far ?_ GW200.out _) | exact HK.out))) : w.heap.size ≤ gb203)); have n6_ := Aside0.mk ((Nat.le_trans HW0.out (by rw [hg]; exact (keep_size (w := w) (g := g) (row := none) (by repeat (first | (with_reducible first | exact HK.out | apply KeepBut.set_ | apply keep_drewN | apply keep_drew | apply keep_alloc | refine keep_far ?_ GW200.out _) | exact HK.out))) : w.heap.size ≤ gb203) : w0.heap.size ≤ gb203)); have n7_ := Aside0.mk ((by rw [hg]; exact Nat.ne_of_lt (blk_lt (g := gb200) (o := .cells #[.int .i64 0, .slice none 0 0] 28 (0, 0)) (bvK BK200.out)) : gb200 ≠ gb203)); have n8_ := Aside0.mk ((by rw [hg]; exact Nat.ne_of_gt (blk_lt (g := gb200) (o := .cells #[.int .i64 0, .slice none 0 0] 28 (0, 0)) (bvK BK200.out)) : gb203 ≠ gb200)); have n9_ := Aside0.mk ((by rw [hg]; exact Nat.ne_of_lt (IsS121.lt (show IsS121 w0 _ g s0_0 t202 from by repeat (first | (with_reducible first | exact HI0.out | apply IsS121.alloc | apply IsS121.drewN | apply IsS121.drew | apply IsS121.set_1 | refine IsS121.far ?_ NB0_200.out _) | exact HI0.out))) : g ≠ gb203)); have n10_ := Aside0.mk ((by rw [hg]; exact Nat.ne_of_gt (IsS121.lt (show IsS121 w0 _ g s0_0 t202 from by repeat (first | (with_reducible first | exact HI0.out | apply IsS121.alloc | apply IsS121.drewN | apply IsS121.drew | apply IsS121.set_1 | refine IsS121.far ?_ NB0_200.out _) | exact HI0.out))) : gb203 ≠ g)); clear HI0; clear BK200; clear HK; clear HB; have HI0 := n0_; have BK200 := n1_; have HK := n2_; have HB := n3_; have BK203 := n4_; have GW203 := n5_; have GE203 := n6_; have NB200_203 := n7_; have NB203_200 := n8_; have NB0_203 := n9_; have NB203_0 := n10_; clear n0_ n1_ n2_ n3_ n4_ n5_ n6_ n7_ n8_ n9_ n10_; clear hb hbox hg; have hnb8 := NB203_200.out; have hnc8 := NB200_203.out; have hnb9 := NB203_0.out; have hnc9 := NB0_203.out; have hcz10_0 : w7.cell? ⟨gb203, 0, none⟩ = some (.int .i64 0) := (blk_cell BK203.out 0).trans rfl; have hcz10_1 : w7.cell? ⟨gb203, 1, none⟩ = some (.slice none 0 0) := (blk_cell BK203.out 1).trans rfl; have hfz10_0 := blk_frozen BK203.out 0; have hfz10_1 := blk_frozen BK203.out 1) | ((with_reducible refine gate_dst (N := 14) rfl ?_); refine Kd.R_lit (Kd.int .i64) _ 3 ?hg (N := 14) ?hd (xs := ([3, 6, 10, 1, 14, 0] : List Int)) (inner := [.int .i64 3, .int .i64 6, .int .i64 10, .int .i64 1, .int .i64 14, .int .i64 0]) (ok := fun _ => True) (okp := fun _ => True) ?hr ?hp (fun _ hk => hk) trivial (Below.refl _ _) (Nat.le_refl _) (by simp) ?_; (case hd => rfl); (case hg => rfl); (case hr => first | (go_simp; done) | (go_simp; rfl)); (case hp => exact (Reps.one (show Kd.M (Kd.int .i64) _ _ _ 3 [.int .i64 3] from rfl) (Reps.one (show Kd.M (Kd.int .i64) _ _ _ 6 [.int .i64 6] from rfl) (Reps.one (show Kd.M (Kd.int .i64) _ _ _ 10 [.int .i64 10] from rfl) (Reps.one (show Kd.M (Kd.int .i64) _ _ _ 1 [.int .i64 1] from rfl) (Reps.one (show Kd.M (Kd.int .i64) _ _ _ 14 [.int .i64 14] from rfl) (Reps.one (show Kd.M (Kd.int .i64) _ _ _ 0 [.int .i64 0] from rfl) (Reps.none _ _)))))))); intro v205 w11 ho12 hb hg_ hnew_; clear hg_ hnew_; (first | rw [← Ny204.out] at ho12 | (simp only [Int.reduceToNat] at ho12; rw [← Ny204.out] at ho12)); have n0_ := Aside0.mk (Kd.R_lower ho12 (keep_size (w := w) (g := g) (row := none) (by repeat (first | (with_reducible first | exact HK.out | apply KeepBut.set_ | apply keep_drewN | apply keep_drew | apply keep_alloc | refine keep_far ?_ GW200.out _ | refine keep_far ?_ GW203.out _) | exact HK.out)))); have n1_ := Aside0.mk (IsS121.below (show IsS121 w0 ((w7.setCell ⟨gb203, 0, none⟩ (.int .i64 t201)).setCell ⟨gb203, 1, none⟩ (.slice none 0 0)) g s0_0 t202 from by repeat (first | (with_reducible first | exact HI0.out | apply IsS121.alloc | apply IsS121.drewN | apply IsS121.drew | apply IsS121.set_1 | refine IsS121.far ?_ NB0_200.out _ | refine IsS121.far ?_ NB0_203.out _) | exact HI0.out)) hb); have n2_ := Aside0.mk (blk_below (g := gb200) (o := .cells #[.int .i64 0, .slice none 0 0] 28 (0, 0)) (by (with_reducible repeat (first | refine blk_drewN ?_ _ | refine blk_drew ?_ | refine blk_alloc ?_ _)); refine blk_far ?_ NB200_203.out _; (with_reducible repeat (first | refine blk_drewN ?_ _ | refine blk_drew ?_ | refine blk_alloc ?_ _)); refine blk_far ?_ NB200_203.out _; (with_reducible repeat (first | refine blk_drewN ?_ _ | refine blk_drew ?_ | refine blk_alloc ?_ _)); exact BK200.out) hb); have n3_ := Aside0.mk (blk_below (g := gb203) (o := .cells #[.int .i64 t201, .slice none 0 0] 28 (0, 0)) (by (with_reducible repeat (first | refine blk_drewN ?_ _ | refine blk_drew ?_ | refine blk_alloc ?_ _)); refine blk_put (cs := #[.int .i64 t201, .slice none 0 0]) ?_ 1 _ rfl; (with_reducible repeat (first | refine blk_drewN ?_ _ | refine blk_drew ?_ | refine blk_alloc ?_ _)); refine blk_put (cs := #[.int .i64 0, .slice none 0 0]) ?_ 0 _ rfl; (with_reducible repeat (first | refine blk_drewN ?_ _ | refine blk_drew ?_ | refine blk_alloc ?_ _)); exact BK203.out) hb); have n4_ := Aside0.mk (KeepBut.trans (by repeat (first | (with_reducible first | exact HK.out | apply KeepBut.set_ | apply keep_drewN | apply keep_drew | apply keep_alloc | refine keep_far ?_ GW200.out _ | refine keep_far ?_ GW203.out _) | exact HK.out)) (KeepBut.of_below hb g none) (.inl rfl)); have n5_ := Aside0.mk (below_step (by repeat (first | (with_reducible first | exact HB.out | apply bwA | apply bwN | apply bwD | refine below_set ?_ (IsS121.ge HI0.out) | refine below_set ?_ GE200.out | refine below_set ?_ GE203.out) | exact HB.out)) hb); clear HI0; clear BK200; clear BK203; clear HK; clear HB; have HO206 := n0_; have HI0 := n1_; have BK200 := n2_; have BK203 := n3_; have HK := n4_; have HB := n5_; clear n0_ n1_ n2_ n3_ n4_ n5_; clear hb ho12; obtain ⟨Ao13, co13, eo13⟩ := Kd.R_slice HO206.out; subst eo13) | ((with_reducible refine gate_callee (f := 80) rfl ?_); refine goesL_ (some 15) rfl rfl Try.func80 (by kernel_rfl) rfl #[.pointer (some ⟨g, 0, none⟩), .slice Ao13 y204.length co13] rfl lmB ?_; (with_reducible refine (spec_l40Rd_num.calls k g s0_0 t202 _ _ y204 t207 t208 w0 _ ?side1 ?side2 ?side3 ?side4 ?side5 A4.out).mono ?_); (case side1 => repeat (first | (with_reducible first | exact HI0.out | apply IsS121.alloc | apply IsS121.drewN | apply IsS121.drew | apply IsS121.set_1 | refine IsS121.far ?_ NB0_200.out _ | refine IsS121.far ?_ NB0_203.out _) | exact HI0.out)); (case side2 => repeat (first | (with_reducible first | exact HB.out | apply bwA | apply bwN | apply bwD | refine below_set ?_ (IsS121.ge HI0.out) | refine below_set ?_ GE200.out | refine below_set ?_ GE203.out) | exact HB.out)); (case side3 => exact kcR (Kd.R_reads' HO206.out).2.2); (case side4 => exact (Kd.R_reads' HO206.out).2.1); (case side5 => exact far_slice (IsS121.own_ne HI0.out HO206.out (by decide))); rintro e w14 ⟨rfl, hi, hb, hk⟩; refine ⟨_, rfl, ?_⟩; have n0_ := Aside0.mk (KeepBut.blk hk (g' := gb200) (o := .cells #[.int .i64 0, .slice none 0 0] 28 (0, 0)) (bvK BK200.out) NB200_0.out (by simp)); have n1_ := Aside0.mk (KeepBut.blk hk (g' := gb203) (o := .cells #[.int .i64 t201, .slice none 0 0] 28 (0, 0)) (bvK BK203.out) NB203_0.out (by simp)); have n2_ := Aside0.mk (Kd.R_mono (Kd.R_keep (IsS121.apart (show IsS121 w0 _ g s0_0 t202 from by repeat (first | (with_reducible first | exact HI0.out | apply IsS121.alloc | apply IsS121.drewN | apply IsS121.drew | apply IsS121.set_1 | refine IsS121.far ?_ NB0_200.out _ | refine IsS121.far ?_ NB0_203.out _) | exact HI0.out)) (rvR HO206.out) (by decide)) hk (fun _ h => h.2)) (fun _ h => h.1)); have n3_ := Aside0.mk (KeepBut.trans (by repeat (first | (with_reducible first | exact HK.out | apply KeepBut.set_ | apply keep_drewN | apply keep_drew | apply keep_alloc | refine keep_far ?_ GW200.out _ | refine keep_far ?_ GW203.out _) | exact HK.out)) hk (.inl rfl)); have n4_ := Aside0.mk (hb); have n5_ := Aside0.mk (hi); clear BK200; clear BK203; clear HO206; clear HK; clear HB; clear HI0; have BK200 := n0_; have BK203 := n1_; have HO206 := n2_; have HK := n3_; have HB := n4_; have HI0 := n5_; clear n0_ n1_ n2_ n3_ n4_ n5_; (try clear hb); (try clear hb2); (try clear hk); (try clear hi)))
 go_loopg [6] k (fun kq v6 w' => ∃ (x6_1 : Int) (x1001_1 : Int) (x204001_1 : List (S92)) (u204001 : Value), v6 = .int .i64 x6_1 ∧ Aside0 (spec_l7Draw.l0 kq x6_1 s0_0 x1001_1 t201 x204001_1 = some (r1, r2, r3)) ∧ Aside0 (kq ≤ k) ∧ Aside0 (Kd.R k92 92 w' w.heap.size (fun _ => True) u204001 x204001_1) ∧ Aside0 (w'.heap[gb200]? = some (.cells #[.int .i64 0, (.slice none 0 0)] 28 (0, 0))) ∧ Aside0 (w'.heap[gb203]? = some (.cells #[.int .i64 t201, u204001] 28 (0, 0))) ∧ Aside0 (IsS121 w0 w' g s0_0 x1001_1) ∧ Aside0 (KeepBut w w' g none) ∧ Aside0 (Below w0.heap.size w0 w'))
 case atStart => exact ⟨(t207), (t208), (([] : List (S92))), (.slice none 0 0), rsd, H', ⟨Nat.le_refl _⟩, ⟨by first | exact Kd.R_nil _ _ _ _ _ | exact Kd.N_nil _ _ _ _ _ | exact Kd.V_nil _ _ _ _ _ | exact Kd.Q_nil _ _ _ _ _ | exact Kd.S_nil _ _ _ _ _⟩, ⟨bvK BK200.out⟩, ⟨bvK BK203.out⟩, ⟨by repeat (first | (with_reducible first | exact HI0.out | apply IsS121.alloc | apply IsS121.drewN | apply IsS121.drew | apply IsS121.set_1 | refine IsS121.far ?_ NB0_200.out _ | refine IsS121.far ?_ NB0_203.out _) | exact HI0.out)⟩, ⟨by repeat (first | (with_reducible first | exact HK.out | apply KeepBut.set_ | apply keep_drewN | apply keep_drew | apply keep_alloc | refine keep_far ?_ GW200.out _ | refine keep_far ?_ GW203.out _) | exact HK.out)⟩, ⟨by repeat (first | (with_reducible first | exact HB.out | apply bwA | apply bwN | apply bwD | refine below_set ?_ (IsS121.ge HI0.out) | refine below_set ?_ GE200.out | refine below_set ?_ GE203.out) | exact HB.out)⟩⟩
 case round =>
  clear H'
  try clear c1
  try clear p2
  try clear p6
  try clear c7
  try clear c8
  try clear c9
  try clear c11
  try clear hcz10_0
  try clear hcz10_1
  try clear hfz10_0
  try clear hfz10_1
  obtain ⟨x6_1, x1001_1, x204001_1, u204001, rfl, HA, HK1, HO_204001, BK200, BK203, HI0, HK, HB⟩ := hrel
  cases gk with
  | zero => exact absurd HA.out (by simp [spec_l7Draw.l0])
  | succ k1 =>
   have H := HA.out
   clear HA
   simp only [spec_l7Draw.l0] at H
   by_cases c15 : x6_1 > 0
   ·rw [if_pos c15] at H
    have c15b0 : decide (0 < x6_1) = true := decide_eq_true c15
    clear c15
    replace H := Option.bind_eq_some_iff.mp H
    obtain ⟨t209, A160, H⟩ := H
    replace H : ((spec_l40Rd_pick.f k1 s0_0 x1001_1 (wrap64 (2 * t209))).bind fun bt210 => ((spec_l40Rd_pick.f k1 s0_0 bt210.2 (wrap64 (Int.tdiv (wrap64 ((wrap64 (2 * t209)) + 1)) 2))).bind fun bt212 => (if x204001_1.length < 8796093022208 then (spec_l7Draw.l0 k1 (wrap64 (x6_1 - 1)) s0_0 bt212.2 t201 (x204001_1 ++ [(⟨bt210.1, wrap64 ((wrap64 ((wrap64 (2 * t209)) - 1)) - bt212.1)⟩ : S92)])) else (none)))) = some (r1, r2, r3) := H
    have A16 := Aside0.mk A160
    clear A160
    replace H := Option.bind_eq_some_iff.mp H
    obtain ⟨⟨t210, t211⟩, A170, H⟩ := H
    replace H : ((spec_l40Rd_pick.f k1 s0_0 t211 (wrap64 (Int.tdiv (wrap64 ((wrap64 (2 * t209)) + 1)) 2))).bind fun bt212 => (if x204001_1.length < 8796093022208 then (spec_l7Draw.l0 k1 (wrap64 (x6_1 - 1)) s0_0 bt212.2 t201 (x204001_1 ++ [(⟨t210, wrap64 ((wrap64 ((wrap64 (2 * t209)) - 1)) - bt212.1)⟩ : S92)])) else (none))) = some (r1, r2, r3) := H
    have A17 := Aside0.mk A170
    clear A170
    replace H := Option.bind_eq_some_iff.mp H
    obtain ⟨⟨t212, t213⟩, A180, H⟩ := H
    replace H : (if x204001_1.length < 8796093022208 then (spec_l7Draw.l0 k1 (wrap64 (x6_1 - 1)) s0_0 t213 t201 (x204001_1 ++ [(⟨t210, wrap64 ((wrap64 ((wrap64 (2 * t209)) - 1)) - t212)⟩ : S92)])) else (none)) = some (r1, r2, r3) := H
    have A18 := Aside0.mk A180
    clear A180
    by_cases c19 : x204001_1.length < 8796093022208
    ·rw [if_pos c19] at H
     have LMc19 := Aside0.mk c19
     clear c19
     obtain ⟨y214, hy214⟩ : ∃ y_ : List (S92), y_ = (x204001_1 ++ [(⟨t210, wrap64 ((wrap64 ((wrap64 (2 * t209)) - 1)) - t212)⟩ : S92)]) := ⟨_, rfl⟩
     replace H : (spec_l7Draw.l0 k1 (wrap64 (x6_1 - 1)) s0_0 t213 t201 y214) = some (r1, r2, r3) := by first | (rw [hy214]; with_reducible exact H) | (have H2_ := (Option.bind_some _ _).symm.trans H; rw [hy214]; with_reducible exact H2_) | (have H2_ := (Option.bind_some _ _).symm.trans H; with_reducible exact H2_) | with_reducible exact H | (rw [hy214]; exact H) | exact H
     have Ny214 := Aside0.mk hy214
     clear hy214
     have H' := Aside0.mk H
     clear H
     have hnb20 := NB203_200.out
     have hnc20 := NB200_203.out
     have hnb21 := NB203_0.out
     have hnc21 := NB0_203.out
     have hcz22_0 : wr.cell? ⟨gb203, 0, none⟩ = some (.int .i64 t201) := (blk_cell BK203.out 0).trans rfl
     have hcz22_1 : wr.cell? ⟨gb203, 1, none⟩ = some (u204001) := (blk_cell BK203.out 1).trans rfl
     have hfz22_0 := blk_frozen BK203.out 0
     have hfz22_1 := blk_frozen BK203.out 1
     obtain ⟨Ao23, co23, eo23⟩ := Kd.R_slice HO_204001.out
     subst eo23
     try go_wp2_with (first | ((with_reducible refine gate_callee (f := 105) rfl ?_); refine goesL_ (some 21) rfl rfl Try.func105 (by kernel_rfl) rfl #[.agg #[.int .i64 t201, .slice Ao23 x204001_1.length co23]] rfl lmB ?_; (with_reducible refine (spec_l7Nodes.calls t201 _ _ x204001_1 t209 _ ?side1 ?side2 A16.out).mono ?_); (case side1 => exact kcR (Kd.R_reads' HO_204001.out).2.2); (case side2 => exact (Kd.R_reads' HO_204001.out).2.1); rintro e w24 ⟨rfl, hb⟩; refine ⟨_, rfl, ?_⟩; have n0_ := Aside0.mk (Kd.R_below (rvR HO_204001.out) hb); have n1_ := Aside0.mk (blk_below (g := gb200) (o := .cells #[.int .i64 0, .slice none 0 0] 28 (0, 0)) (bvK BK200.out) hb); have n2_ := Aside0.mk (blk_below (g := gb203) (o := .cells #[.int .i64 t201, .slice Ao23 x204001_1.length co23] 28 (0, 0)) (bvK BK203.out) hb); have n3_ := Aside0.mk (IsS121.below (by repeat (first | (with_reducible first | exact HI0.out | apply IsS121.alloc | apply IsS121.drewN | apply IsS121.drew | apply IsS121.set_1 | refine IsS121.far ?_ NB0_200.out _ | refine IsS121.far ?_ NB0_203.out _) | exact HI0.out)) hb); have n4_ := Aside0.mk (KeepBut.trans (by repeat (first | (with_reducible first | exact HK.out | apply KeepBut.set_ | apply keep_drewN | apply keep_drew | apply keep_alloc | refine keep_far ?_ GW200.out _ | refine keep_far ?_ GW203.out _) | exact HK.out)) (KeepBut.of_below hb g none) (.inl rfl)); have n5_ := Aside0.mk (below_step (by repeat (first | (with_reducible first | exact HB.out | apply bwA | apply bwN | apply bwD | refine below_set ?_ (IsS121.ge HI0.out) | refine below_set ?_ GE200.out | refine below_set ?_ GE203.out) | exact HB.out)) hb); clear HO_204001; clear BK200; clear BK203; clear HI0; clear HK; clear HB; have HO_204001 := n0_; have BK200 := n1_; have BK203 := n2_; have HI0 := n3_; have HK := n4_; have HB := n5_; clear n0_ n1_ n2_ n3_ n4_ n5_; (try clear hb); (try clear hb2); (try clear hk); (try clear hi)))
     have n0_ := Aside0.mk (Kd.R_drew HO_204001.out)
     have n1_ := Aside0.mk (blk_drew BK200.out)
     have n2_ := Aside0.mk (blk_drew BK203.out)
     have n3_ := Aside0.mk (IsS121.drew HI0.out)
     have n4_ := Aside0.mk (keep_drew HK.out)
     have n5_ := Aside0.mk (below_drew1 HB.out)
     clear HO_204001
     clear BK200
     clear BK203
     clear HI0
     clear HK
     clear HB
     have HO_204001 := n0_
     have BK200 := n1_
     have BK203 := n2_
     have HI0 := n3_
     have HK := n4_
     have HB := n5_
     clear n0_ n1_ n2_ n3_ n4_ n5_
     refine start_ (n := 18) (S := fun w' => w'.cell? ⟨gb203, 0, none⟩ = some (.int .i64 t201) ∧ w'.cell? ⟨gb203, 1, none⟩ = some (.slice Ao23 x204001_1.length co23)) (ds := [17]) (Pt.bm 18 0) (by kernel_rfl) rfl rfl ⟨(blk_cell BK203.out 0).trans rfl, (blk_cell BK203.out 1).trans rfl⟩ (fun hHeld => ?_); refine with_tabW spec_l7Draw.tab6 spec_l7Draw.bits6 (fun HT_ HW_ => ?_)
     generalize w24.drew = w25 at HO_204001 BK200 BK203 HI0 HK HB hHeld ⊢
     refine Pt.pu 0 (some 23) (Pt.bm 18 1) (any_of HT_.out (by kernel_rfl)) ?_
     refine Pt.pu 2 (some 25) (Pt.bm 18 5) (any_of HT_.out (by kernel_rfl)) ?_
     refine Pt.pu 3 (some 26) (Pt.bm 18 13) (any_of HT_.out (by kernel_rfl)) ?_
     refine Pt.pu 5 (some 28) (Pt.bm 18 45) (any_of HT_.out (by kernel_rfl)) ?_
     refine Pt.pu 6 (some 29) (Pt.bm 18 109) (any_of HT_.out (by kernel_rfl)) ?_
     refine Pt.pu 7 (some 30) (Pt.bm 18 237) (any_of HT_.out (by kernel_rfl)) ?_
     refine Pt.pu 8 (some 31) (Pt.bm 18 493) (any_of HT_.out (by kernel_rfl)) ?_
     refine Pt.pu 9 (some 32) (Pt.bm 18 1005) (any_of HT_.out (by kernel_rfl)) ?_
     refine Pt.pu 10 (some 33) (Pt.bm 18 2029) (any_of HT_.out (by kernel_rfl)) ?_
     refine Pt.tk 1 (some 24) (Pt.bm 18 2031) rfl rfl (take_ofW HT_.out HW_.out (by kernel_rfl)) hHeld (Or.inl ⟨by rfl, by rintro w' ⟨s0, s1⟩; go_simp; with_reducible rfl⟩) ?_
     refine one_ (i := 4) (N := some 27) (Pt.bm 18 2047) rfl rfl (one_of HT_.out (by kernel_rfl)) (by decide) (fun K hK => ?_)
     refine goes_ Try.func79 (by kernel_rfl) rfl #[.pointer (some ⟨g, 0, none⟩), .int .i64 (wrap64 (2 * t209))] (by rfl) rfl rfl lmB ?_
     with_reducible refine (spec_l40Rd_pick.calls k1 g s0_0 x1001_1 (wrap64 (2 * t209)) t210 t211 w0 _ ?side1 ?side2 A17.out).mono ?_
     (case side1 => repeat (first | (with_reducible first | exact HI0.out | apply IsS121.alloc | apply IsS121.drewN | apply IsS121.drew | apply IsS121.set_1 | refine IsS121.far ?_ NB0_200.out _ | refine IsS121.far ?_ NB0_203.out _) | exact HI0.out))
     (case side2 => repeat (first | (with_reducible first | exact HB.out | apply bwA | apply bwN | apply bwD | refine below_set ?_ (IsS121.ge HI0.out) | refine below_set ?_ GE200.out | refine below_set ?_ GE203.out) | exact HB.out))
     rintro e w26 ⟨rfl, hi, hb, hk⟩
     refine ⟨_, rfl, ?_⟩
     have n0_ := Aside0.mk (Kd.R_mono (Kd.R_keep (IsS121.apart (show IsS121 w0 _ g s0_0 x1001_1 from by repeat (first | (with_reducible first | exact HI0.out | apply IsS121.alloc | apply IsS121.drewN | apply IsS121.drew | apply IsS121.set_1 | refine IsS121.far ?_ NB0_200.out _ | refine IsS121.far ?_ NB0_203.out _) | exact HI0.out)) (rvR HO_204001.out) (by decide)) hk (fun _ h => h.2)) (fun _ h => h.1))
     have n1_ := Aside0.mk (KeepBut.blk hk (g' := gb200) (o := .cells #[.int .i64 0, .slice none 0 0] 28 (0, 0)) (bvK BK200.out) NB200_0.out (by simp))
     have n2_ := Aside0.mk (KeepBut.blk hk (g' := gb203) (o := .cells #[.int .i64 t201, .slice Ao23 x204001_1.length co23] 28 (0, 0)) (bvK BK203.out) NB203_0.out (by simp))
     have n3_ := Aside0.mk (KeepBut.trans (by repeat (first | (with_reducible first | exact HK.out | apply KeepBut.set_ | apply keep_drewN | apply keep_drew | apply keep_alloc | refine keep_far ?_ GW200.out _ | refine keep_far ?_ GW203.out _) | exact HK.out)) hk (.inl rfl))
     have n4_ := Aside0.mk (hb)
     have n5_ := Aside0.mk (hi)
     clear HO_204001
     clear BK200
     clear BK203
     clear HK
     clear HB
     clear HI0
     have HO_204001 := n0_
     have BK200 := n1_
     have BK203 := n2_
     have HK := n3_
     have HB := n4_
     have HI0 := n5_
     clear n0_ n1_ n2_ n3_ n4_ n5_
     (try clear hb)
     (try clear hb2)
     (try clear hk)
     (try clear hi)
     refine hK.out _ _ ⟨(blk_cell BK203.out 0).trans rfl, (blk_cell BK203.out 1).trans rfl⟩ (fun hHeld => ?_)
     clear hK K
     refine norm_ (a' := ?_) ?_ ?_
     rotate_left
     ·show Act.put _ (some 27) _ = _
      simp only [Act.put, List.setIfInBounds_toArray, List.set_cons_zero, List.set_cons_succ, i64_w, i32_w]
      rfl
     refine one_ (i := 11) (N := some 34) (Pt.bm 18 4095) rfl rfl (one_of HT_.out (by kernel_rfl)) (by decide) (fun K hK => ?_)
     refine goes_ Try.func79 (by kernel_rfl) rfl #[.pointer (some ⟨g, 0, none⟩), .int .i64 (wrap64 (Int.tdiv (wrap64 ((wrap64 (2 * t209)) + 1)) 2))] (by rfl) rfl rfl lmB ?_
     with_reducible refine (spec_l40Rd_pick.calls k1 g s0_0 t211 (wrap64 (Int.tdiv (wrap64 ((wrap64 (2 * t209)) + 1)) 2)) t212 t213 w0 _ ?side1 ?side2 A18.out).mono ?_
     (case side1 => repeat (first | (with_reducible first | exact HI0.out | apply IsS121.alloc | apply IsS121.drewN | apply IsS121.drew | apply IsS121.set_1 | refine IsS121.far ?_ NB0_200.out _ | refine IsS121.far ?_ NB0_203.out _) | exact HI0.out))
     (case side2 => repeat (first | (with_reducible first | exact HB.out | apply bwA | apply bwN | apply bwD | refine below_set ?_ (IsS121.ge HI0.out) | refine below_set ?_ GE200.out | refine below_set ?_ GE203.out) | exact HB.out))
     rintro e w27 ⟨rfl, hi, hb, hk⟩
     refine ⟨_, rfl, ?_⟩
     have n0_ := Aside0.mk (Kd.R_mono (Kd.R_keep (IsS121.apart (show IsS121 w0 _ g s0_0 t211 from by repeat (first | (with_reducible first | exact HI0.out | apply IsS121.alloc | apply IsS121.drewN | apply IsS121.drew | apply IsS121.set_1 | refine IsS121.far ?_ NB0_200.out _ | refine IsS121.far ?_ NB0_203.out _) | exact HI0.out)) (rvR HO_204001.out) (by decide)) hk (fun _ h => h.2)) (fun _ h => h.1))
     have n1_ := Aside0.mk (KeepBut.blk hk (g' := gb200) (o := .cells #[.int .i64 0, .slice none 0 0] 28 (0, 0)) (bvK BK200.out) NB200_0.out (by simp))
     have n2_ := Aside0.mk (KeepBut.blk hk (g' := gb203) (o := .cells #[.int .i64 t201, .slice Ao23 x204001_1.length co23] 28 (0, 0)) (bvK BK203.out) NB203_0.out (by simp))
     have n3_ := Aside0.mk (KeepBut.trans (by repeat (first | (with_reducible first | exact HK.out | apply KeepBut.set_ | apply keep_drewN | apply keep_drew | apply keep_alloc | refine keep_far ?_ GW200.out _ | refine keep_far ?_ GW203.out _) | exact HK.out)) hk (.inl rfl))
     have n4_ := Aside0.mk (hb)
     have n5_ := Aside0.mk (hi)
     clear HO_204001
     clear BK200
     clear BK203
     clear HK
     clear HB
     clear HI0
     have HO_204001 := n0_
     have BK200 := n1_
     have BK203 := n2_
     have HK := n3_
     have HB := n4_
     have HI0 := n5_
     clear n0_ n1_ n2_ n3_ n4_ n5_
     (try clear hb)
     (try clear hb2)
     (try clear hk)
     (try clear hi)
     refine hK.out _ _ ⟨(blk_cell BK203.out 0).trans rfl, (blk_cell BK203.out 1).trans rfl⟩ (fun hHeld => ?_)
     clear hK K
     refine norm_ (a' := ?_) ?_ ?_
     rotate_left
     ·show Act.put _ (some 34) _ = _
      simp only [Act.put, List.setIfInBounds_toArray, List.set_cons_zero, List.set_cons_succ, i64_w, i32_w]
      rfl
     refine Pt.pu 12 (some 35) (Pt.bm 18 8191) (any_of HT_.out (by kernel_rfl)) ?_
     refine Pt.pu 13 (some 36) (Pt.bm 18 16383) (any_of HT_.out (by kernel_rfl)) ?_
     refine one_ (i := 14) (N := some 37) (Pt.bm 18 32767) rfl rfl (one_of HT_.out (by kernel_rfl)) (by decide) (fun K hK => ?_)
     refine value_ (w1 := ?_) (v := ?_) (by rfl) rfl ?_ ?_
     rotate_left 2
     ·go_simp
      constructor
      ·rfl
      ·rfl
     refine hK.out _ _ ⟨(blk_cell (blk_alloc BK203.out _) 0).trans rfl, (blk_cell (blk_alloc BK203.out _) 1).trans rfl⟩ (fun hHeld => ?_)
     clear hK K
     refine norm_ (a' := ?_) ?_ ?_
     rotate_left
     ·show Act.put _ (some 37) _ = _
      simp only [Act.put, List.setIfInBounds_toArray, List.set_cons_zero, List.set_cons_succ, i64_w, i32_w]
      rfl
     refine one_ (i := 15) (N := some 38) (Pt.bm 18 65535) rfl rfl (one_of HT_.out (by kernel_rfl)) (by decide) (fun K hK => ?_)
     refine Kd.R_append_step k92 w.heap.size (by rfl) (.tmp 24) (.tmp 37) 26 92 (.agg #[(.int .i64 0), (.int .i64 0)]) 16 rfl Try.underlying26 info92 rfl (by decide) (by omega) (.slice Ao23 x204001_1.length co23) x204001_1 (⟨t210, wrap64 ((wrap64 ((wrap64 (2 * t209)) - 1)) - t212)⟩ : S92) [.int .i64 t210, .int .i64 (wrap64 ((wrap64 ((wrap64 (2 * t209)) - 1)) - t212))] (fun _ => True) (fun _ => False) rfl rfl ?aP (fun _ hk => hk.elim) ?aF ?aO (Below.refl _ _) ?aS ?aL ?_
     (case aP => exact k92_mkM _ _ _ (⟨t210, wrap64 ((wrap64 ((wrap64 (2 * t209)) - 1)) - t212)⟩ : S92))
     (case aF => exact (fun _ _ => trivial))
     (case aO => exact (rvR HO_204001.out))
     (case aS => exact (keep_size (w := w) (g := g) (row := none) (by repeat (first | (with_reducible first | exact HK.out | apply KeepBut.set_ | apply keep_drewN | apply keep_drew | apply keep_alloc | refine keep_far ?_ GW200.out _ | refine keep_far ?_ GW203.out _) | exact HK.out))))
     (case aL => have := LMc19.out; omega)
     intro v215 w28 ho hb hg hat
     rw [← Ny214.out] at ho
     have n0_ := Aside0.mk (blk_grown (g := gb200) (o := .cells #[.int .i64 0, .slice none 0 0] 28 (0, 0)) (bvK BK200.out) hg (Kd.R_ne HO_204001.out BK200.out (by decide)))
     have n1_ := Aside0.mk (blk_grown (g := gb203) (o := .cells #[.int .i64 t201, .slice Ao23 x204001_1.length co23] 28 (0, 0)) (bvK BK203.out) hg (Kd.R_ne HO_204001.out BK203.out (by decide)))
     have n2_ := Aside0.mk (IsS121.grown (by repeat (first | (with_reducible first | exact HI0.out | apply IsS121.alloc | apply IsS121.drewN | apply IsS121.drew | apply IsS121.set_1 | refine IsS121.far ?_ NB0_200.out _ | refine IsS121.far ?_ NB0_203.out _) | exact HI0.out)) hg (IsS121.own_ne HI0.out HO_204001.out (by decide)))
     have n3_ := Aside0.mk (below_weaken (by repeat (first | (with_reducible first | exact HB.out | apply bwA | apply bwN | apply bwD | refine below_set ?_ (IsS121.ge HI0.out) | refine below_set ?_ GE200.out | refine below_set ?_ GE203.out) | exact HB.out)) HL.out hb)
     have n4_ := Aside0.mk (KeepBut.trans (by repeat (first | (with_reducible first | exact HK.out | apply KeepBut.set_ | apply keep_drewN | apply keep_drew | apply keep_alloc | refine keep_far ?_ GW200.out _ | refine keep_far ?_ GW203.out _) | exact HK.out)) (KeepBut.of_grown hg g) (Kd.R_base2 HO_204001.out))
     have n5_ := Aside0.mk (ho)
     clear BK200
     clear BK203
     clear HI0
     clear HB
     clear HK
     clear HO_204001
     have BK200 := n0_
     have BK203 := n1_
     have HI0 := n2_
     have HB := n3_
     have HK := n4_
     have HO216 := n5_
     clear n0_ n1_ n2_ n3_ n4_ n5_
     clear ho hb hg hat
     obtain ⟨Ao29, co29, eo29⟩ := Kd.R_slice HO216.out
     (first | subst eo29 | (injection eo29 with f1_ f2_ f3_; have f4_ := f1_.symm; have f5_ := f3_.symm; clear f1_ f2_ f3_; subst f4_; subst f5_))
     refine hK.out _ _ ⟨(blk_cell BK203.out 0).trans rfl, (blk_cell BK203.out 1).trans rfl⟩ (fun hHeld => ?_)
     clear hK K
     refine norm_ (a' := ?_) ?_ ?_
     rotate_left
     ·show Act.put _ (some 38) _ = _
      simp only [Act.put, List.setIfInBounds_toArray, List.set_cons_zero, List.set_cons_succ, i64_w, i32_w]
      rfl
     refine Pt.pu 16 (some 39) (Pt.bm 18 131071) (any_of HT_.out (by kernel_rfl)) ?_
     refine last_ (i := 17) (N := none) (Pt.bm 18 262143) rfl rfl (one_of HT_.out (by kernel_rfl)) (by decide) (fun K hK => ?_)
     have hs30 : w28.cell? ⟨gb203, 1, none⟩ = some (.slice Ao23 x204001_1.length co23) := (blk_cell BK203.out 1).trans rfl
     have hfs30 := blk_frozen BK203.out 1
     have hns30_0 := NB200_203.out
     have hms30_0 := NB203_200.out
     refine skip_ (w1 := ?_) (by rfl) rfl ?_ ?_
     rotate_left
     ·go_simp
      rfl
     refine hK.out _ _ ?_
     clear hK K
     refine done_ (done_of HT_.out (by kernel_rfl)) ?_
     try go_wp2
     go_roundg k1
     case measure => have := HK1.out; omega
     case rel => exact ⟨(wrap64 (x6_1 - 1)), (t213), (y214), (.slice Ao29 y214.length co29), rsd, H', ⟨by have := HK1.out; omega⟩, ⟨by (with_reducible repeat (first | apply Kd.R_alloc | apply Kd.R_drewN | apply Kd.R_drew)); exact Kd.R_mono (Kd.R_far (p := ⟨gb203, 1, none⟩) (Kd.R_types HO216.out BK203.out (by decide)) (fun _ hk => hk.2) (.slice Ao29 y214.length co29)) (fun _ hk => trivial)⟩, ⟨by (with_reducible repeat (first | refine blk_drewN ?_ _ | refine blk_drew ?_ | refine blk_alloc ?_ _)); refine blk_far ?_ NB200_203.out _; (with_reducible repeat (first | refine blk_drewN ?_ _ | refine blk_drew ?_ | refine blk_alloc ?_ _)); exact BK200.out⟩, ⟨by (with_reducible repeat (first | refine blk_drewN ?_ _ | refine blk_drew ?_ | refine blk_alloc ?_ _)); refine blk_put (cs := #[.int .i64 t201, .slice Ao23 x204001_1.length co23]) ?_ 1 _ rfl; (with_reducible repeat (first | refine blk_drewN ?_ _ | refine blk_drew ?_ | refine blk_alloc ?_ _)); exact BK203.out⟩, ⟨by repeat (first | (with_reducible first | exact HI0.out | apply IsS121.alloc | apply IsS121.drewN | apply IsS121.drew | apply IsS121.set_1 | refine IsS121.far ?_ NB0_200.out _ | refine IsS121.far ?_ NB0_203.out _) | exact HI0.out)⟩, ⟨by repeat (first | (with_reducible first | exact HK.out | apply KeepBut.set_ | apply keep_drewN | apply keep_drew | apply keep_alloc | refine keep_far ?_ GW200.out _ | refine keep_far ?_ GW203.out _) | exact HK.out)⟩, ⟨by repeat (first | (with_reducible first | exact HB.out | apply bwA | apply bwN | apply bwD | refine below_set ?_ (IsS121.ge HI0.out) | refine below_set ?_ GE200.out | refine below_set ?_ GE203.out) | exact HB.out)⟩⟩
    ·rw [if_neg c19] at H
     exact absurd H (by simp)
   ·rw [if_neg c15] at H
    have c15b0 : decide (0 < x6_1) = false := decide_eq_false c15
    clear c15
    simp only [Option.some.injEq, Prod.mk.injEq] at H
    obtain ⟨rfl, rfl, rfl⟩ := H
    have hnb31 := NB203_200.out
    have hnc31 := NB200_203.out
    have hnb32 := NB203_0.out
    have hnc32 := NB0_203.out
    have hcz33_0 : wr.cell? ⟨gb203, 0, none⟩ = some (.int .i64 t201) := (blk_cell BK203.out 0).trans rfl
    have hcz33_1 : wr.cell? ⟨gb203, 1, none⟩ = some (u204001) := (blk_cell BK203.out 1).trans rfl
    have hfz33_0 := blk_frozen BK203.out 0
    have hfz33_1 := blk_frozen BK203.out 1
    have hnb34 := NB200_0.out
    have hnc34 := NB0_200.out
    have hcz35_0 : wr.cell? ⟨gb200, 0, none⟩ = some (.int .i64 0) := (blk_cell BK200.out 0).trans rfl
    have hcz35_1 : wr.cell? ⟨gb200, 1, none⟩ = some (.slice none 0 0) := (blk_cell BK200.out 1).trans rfl
    have hfz35_0 := blk_frozen BK200.out 0
    have hfz35_1 := blk_frozen BK200.out 1
    obtain ⟨Ao36, co36, eo36⟩ := Kd.R_slice HO_204001.out
    subst eo36
    go_wp2
    refine bodyPost_ret (results_cell_row rfl _ _ gb200 28 #[.int .i64 t201, .slice Ao36 x204001_1.length co36] (0, 0) _ rfl (by (with_reducible repeat (first | refine blk_drewN ?_ _ | refine blk_drew ?_ | refine blk_alloc ?_ _)); refine blk_put (cs := #[.int .i64 t201, .slice none 0 0]) ?_ 1 _ rfl; (with_reducible repeat (first | refine blk_drewN ?_ _ | refine blk_drew ?_ | refine blk_alloc ?_ _)); refine blk_put (cs := #[.int .i64 0, .slice none 0 0]) ?_ 0 _ rfl; (with_reducible repeat (first | refine blk_drewN ?_ _ | refine blk_drew ?_ | refine blk_alloc ?_ _)); exact BK200.out) Try.underlying28 rfl (by kernel_rfl)) rfl ?_
    exact ⟨_, ers, by (with_reducible repeat (first | apply Kd.R_alloc | apply Kd.R_drewN | apply Kd.R_drew)); exact Kd.R_mono (Kd.R_far (p := ⟨gb200, 1, none⟩) (Kd.R_far (p := ⟨gb200, 0, none⟩) (Kd.R_types HO_204001.out BK200.out (by decide)) (fun _ hk => hk.2) (.int .i64 t201)) (fun _ hk => hk.2) (.slice Ao36 x204001_1.length co36)) (fun _ hk => trivial), by repeat (first | (with_reducible first | exact HI0.out | apply IsS121.alloc | apply IsS121.drewN | apply IsS121.drew | apply IsS121.set_1 | refine IsS121.far ?_ NB0_200.out _ | refine IsS121.far ?_ NB0_203.out _) | exact HI0.out), by repeat (first | (with_reducible first | exact HB.out | apply bwA | apply bwN | apply bwD | refine below_set ?_ (IsS121.ge HI0.out) | refine below_set ?_ GE200.out | refine below_set ?_ GE203.out) | exact HB.out), by repeat (first | (with_reducible first | exact HK.out | apply KeepBut.set_ | apply keep_drewN | apply keep_drew | apply keep_alloc | refine keep_far ?_ GW200.out _ | refine keep_far ?_ GW203.out _) | exact HK.out)⟩

end Go.Proofs.Ytpcckoljocpchaa.QFnAddPick
