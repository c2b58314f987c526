-- Written by a program of this session (mk.py). Lean checks it.
import Derived.Test.YtpcompnmadpljaaQFnDiagramOfx0
import Derived.Test.YtpcompnmadpljaaQFnDiagramOfx2
namespace Go.Proofs.Ytpcompnmadpljaa.QFnDiagramOf
open Go.RowKit Go.Proofs.YtpcompnmadpljaaW.PrintWords Go.Proofs.YtpcompnmadpljaaW.PrintLast Go.Proofs.YtpcompnmadpljaaW.PrintMore
attribute [local go_sem] max2_int min2_int max_two min_two max_three min_three max_four min_four   -- for this text's walks alone
set_option linter.unusedVariables false
set_option linter.unusedSimpArgs false

/-! ### spec_l7Draw: function 115 -/
def spec_l7Draw.l0 : Nat → Int → List Int → Int → Int → List (S121) → Option (Int × (List (S121)) × Int)
 | 0, _, _, _, _, _ => none
 | k + 1, x6, x1000, x1001, x123000, x123001 => if x6 > 0 then ((spec_l7Nodes.f x123000 x123001).bind fun t128 => ((spec_l40Rd_pick.f k x1000 x1001 (wrap64 (2 * t128))).bind fun bt129 => ((spec_l40Rd_pick.f k x1000 bt129.2 (wrap64 (Int.tdiv (wrap64 ((wrap64 (2 * t128)) + 1)) 2))).bind fun bt131 => (if x123001.length < 8796093022208 then (spec_l7Draw.l0 k (wrap64 (x6 - 1)) x1000 bt131.2 x123000 (x123001 ++ [(⟨bt129.1, wrap64 ((wrap64 ((wrap64 (2 * t128)) - 1)) - bt131.1)⟩ : S121)])) else (none))))) else (some (x123000, x123001, x1001))
def spec_l7Draw.f (k : Nat) (s0_0 : List Int) (s0_1 : Int) (a1 : Int) : Option (Int × (List (S121)) × Int) := (spec_l40Rd_pick.f k s0_0 s0_1 (wrap64 (a1 + 1))).bind fun bt120 => ((spec_l40Rd_num.f k s0_0 bt120.2 (([3, 6, 10, 1, 14, 0] : List Int))).bind fun bt126 => (spec_l7Draw.l0 k bt126.1 s0_0 bt126.2 bt120.1 ([] : List (S121))))
theorem spec_l7Draw.mono_l : ∀ k, (∀ y0 y1 y2 y3 y4, LeO (spec_l7Draw.l0 k y0 y1 y2 y3 y4) (spec_l7Draw.l0 (k + 1) y0 y1 y2 y3 y4))
 | 0 => fun _ _ _ _ _ r h => by simp [spec_l7Draw.l0] at h
 | k + 1 => by
  have ih0 := spec_l7Draw.mono_l k
  ·intro y0 y1 y2 y3 y4
   unfold spec_l7Draw.l0
   repeat' first
   | (with_reducible exact ih0 _ _ _ _ _)
   | (with_reducible exact spec_l40Rd_num.mono _ _ _ _)
   | (with_reducible exact spec_l40Rd_pick.mono _ _ _ _)
   | (with_reducible exact LeO.refl _)
   | (with_reducible exact LeO.none _)
   | (with_reducible refine LeO.ite ?_ ?_)
   | (with_reducible refine LeO.bind ?_ (fun _ => ?_))
   | exact ih0 _ _ _ _ _
   | exact spec_l40Rd_num.mono _ _ _ _
   | exact spec_l40Rd_pick.mono _ _ _ _
   | exact LeO.none _
   | refine LeO.ite ?_ ?_
   | refine LeO.bind ?_ (fun _ => ?_)
theorem spec_l7Draw.mono : ∀ a0 a1 a2 k, LeO (spec_l7Draw.f k a0 a1 a2) (spec_l7Draw.f (k + 1) a0 a1 a2) := by
 intro a0 a1 a2 k
 have ih0 := spec_l7Draw.mono_l k
 unfold spec_l7Draw.f
 repeat' first
   | (with_reducible exact ih0 _ _ _ _ _)
   | (with_reducible exact spec_l40Rd_num.mono _ _ _ _)
   | (with_reducible exact spec_l40Rd_pick.mono _ _ _ _)
   | (with_reducible exact LeO.refl _)
   | (with_reducible exact LeO.none _)
   | (with_reducible refine LeO.ite ?_ ?_)
   | (with_reducible refine LeO.bind ?_ (fun _ => ?_))
   | exact ih0 _ _ _ _ _
   | exact spec_l40Rd_num.mono _ _ _ _
   | exact spec_l40Rd_pick.mono _ _ _ _
   | exact LeO.none _
   | refine LeO.ite ?_ ?_
   | refine LeO.bind ?_ (fun _ => ?_)
def spec_l7Draw.T6 : Bool × List (List Nat × List Nat) := (true, [([], []), ([0], [0]), ([], []), ([], []), ([2, 3], [2, 3]), ([], []), ([5], [5]), ([], []), ([], []), ([8], [8]), ([9], [9]), ([7, 10, 4], [7, 10]), ([6, 11], [6, 11]), ([4, 12], [4, 12]), ([13], [13]), ([1, 14, 11], [1, 14]), ([0, 1, 2, 3, 4, 5, 6, 7, 8, 9, 10, 11, 12, 13, 14, 15], []), ([16, 15, 15, 0, 1, 2, 3, 4, 5, 6, 7, 8, 9, 10, 11, 12, 13, 14, 15], [15, 16])])
def spec_l7Draw.B6 : List Nat := [0, 1, 0, 0, 12, 0, 32, 0, 0, 256, 768, 1948, 4092, 8188, 16380, 32767, 65535, 131071]
theorem spec_l7Draw.tab6 : rtab .any (opsOf Try.f115 6) = spec_l7Draw.T6 := by kernel_rfl
theorem spec_l7Draw.bits6 : waitsOk spec_l7Draw.T6.2 spec_l7Draw.B6 = true := by kernel_rfl
set_option maxHeartbeats 8000000 in
set_option maxRecDepth 100000 in
theorem spec_l7Draw.calls (k : Nat) (g : Nat) (s0_0 : List Int) (s0_1 : Int) (a1 : Int) (r1 : Int) (r2 : List (S121)) (r3 : Int) (w0 w : World) (hI : IsS106 w0 w g s0_0 s0_1) (hB : Below w0.heap.size w0 w) (h : spec_l7Draw.f k s0_0 s0_1 a1 = some (r1, r2, r3)) :
  Calls Try.prog 115 #[.pointer (some ⟨g, 0, none⟩), .int .i64 a1] w fun e w' => ∃ v1_ : Value, e = .returned (.agg #[.int .i64 r1, v1_]) ∧ Kd.R k121 121 w' w.heap.size (fun _ => True) v1_ r2 ∧ IsS106 w0 w' g s0_0 r3 ∧ Below w0.heap.size w0 w' ∧ KeepBut w w' g none := by
 have hu45 := Try.underlying45
 have hu121 := Try.underlying121
 have HI0 := Aside0.mk hI
 have HK := Aside0.mk (KeepBut.refl w g none)
 have HL := Aside0.mk hB.size
 clear hI
 have HW0 := Aside0.mk hB.size
 have HB := Aside0.mk hB
 clear hB
 have H : ((spec_l40Rd_pick.f k s0_0 s0_1 (wrap64 (a1 + 1))).bind fun bt120 => ((spec_l40Rd_num.f k s0_0 bt120.2 (([3, 6, 10, 1, 14, 0] : List Int))).bind fun bt126 => (spec_l7Draw.l0 k bt126.1 s0_0 bt126.2 bt120.1 ([] : List (S121))))) = some (r1, r2, r3) := h
 clear h
 replace H := Option.bind_eq_some_iff.mp H
 obtain ⟨⟨t120, t121⟩, A30, H⟩ := H
 replace H : ((spec_l40Rd_num.f k s0_0 t121 (([3, 6, 10, 1, 14, 0] : List Int))).bind fun bt126 => (spec_l7Draw.l0 k bt126.1 s0_0 bt126.2 t120 ([] : List (S121)))) = some (r1, r2, r3) := H
 have A3 := Aside0.mk A30
 clear A30
 obtain ⟨y123, hy123⟩ : ∃ y_ : List Int, y_ = (([3, 6, 10, 1, 14, 0] : List Int)) := ⟨_, rfl⟩
 replace H : ((spec_l40Rd_num.f k s0_0 t121 y123).bind fun bt126 => (spec_l7Draw.l0 k bt126.1 s0_0 bt126.2 t120 ([] : List (S121)))) = some (r1, r2, r3) := by first | (rw [hy123]; with_reducible exact H) | (have H2_ := (Option.bind_some _ _).symm.trans H; rw [hy123]; with_reducible exact H2_) | (have H2_ := (Option.bind_some _ _).symm.trans H; with_reducible exact H2_) | with_reducible exact H | (rw [hy123]; exact H) | exact H
 have Ny123 := Aside0.mk hy123
 clear hy123
 replace H := Option.bind_eq_some_iff.mp H
 obtain ⟨⟨t126, t127⟩, A40, H⟩ := H
 replace H : (spec_l7Draw.l0 k t126 s0_0 t127 t120 ([] : List (S121))) = some (r1, r2, r3) := H
 have A4 := Aside0.mk A40
 clear A40
 have H' := Aside0.mk H
 clear H
 go_enter Try.func115, Try.ntmps115
 go_wp2_with (first | ((with_reducible refine gate_dst (N := 4) rfl ?_); refine box_event ?hg (N := 4) ?hd (cs := #[.int .i64 0, .slice none 0 0]) (t := 45) ?hr ?_; (case hd => rfl); (case hg => rfl); (case hr => first | (go_simp; done) | (go_simp; rfl)); intro gb119 hg w5 hbox hb; have n0_ := Aside0.mk (IsS106.below (by repeat (first | (with_reducible first | exact HI0.out | apply IsS106.alloc | apply IsS106.drewN | apply IsS106.drew | apply IsS106.set_1) | exact HI0.out)) hb); have n1_ := Aside0.mk (KeepBut.trans (by repeat (first | (with_reducible first | exact HK.out | apply KeepBut.set_ | apply keep_drewN | apply keep_drew | apply keep_alloc) | exact HK.out)) (KeepBut.of_below hb g none) (.inl rfl)); have n2_ := Aside0.mk (below_step (by repeat (first | (with_reducible first | exact HB.out | apply bwA | apply bwN | apply bwD | refine below_set ?_ (IsS106.ge HI0.out)) | exact HB.out)) hb); have n3_ := Aside0.mk (hbox); have n4_ := Aside0.mk ((by rw [hg]; exact (keep_size (w := w) (g := g) (row := none) (by repeat (first | (with_reducible first | exact HK.out | apply KeepBut.set_ | apply keep_drewN | apply keep_drew | apply keep_alloc) | exact HK.out))) : w.heap.size ≤ gb119)); have n5_ := Aside0.mk ((Nat.le_trans HW0.out (by rw [hg]; exact (keep_size (w := w) (g := g) (row := none) (by repeat (first | (with_reducible first | exact HK.out | apply KeepBut.set_ | apply keep_drewN | apply keep_drew | apply keep_alloc) | exact HK.out))) : w.heap.size ≤ gb119) : w0.heap.size ≤ gb119)); have n6_ := Aside0.mk ((by rw [hg]; exact Nat.ne_of_lt (IsS106.lt (show IsS106 w0 _ g s0_0 s0_1 from by repeat (first | (with_reducible first | exact HI0.out | apply IsS106.alloc | apply IsS106.drewN | apply IsS106.drew | apply IsS106.set_1) | exact HI0.out))) : g ≠ gb119)); have n7_ := Aside0.mk ((by rw [hg]; exact Nat.ne_of_gt (IsS106.lt (show IsS106 w0 _ g s0_0 s0_1 from by repeat (first | (with_reducible first | exact HI0.out | apply IsS106.alloc | apply IsS106.drewN | apply IsS106.drew | apply IsS106.set_1) | exact HI0.out))) : gb119 ≠ g)); clear HI0; clear HK; clear HB; have HI0 := n0_; have HK := n1_; have HB := n2_; have BK119 := n3_; have GW119 := n4_; have GE119 := n5_; have NB0_119 := n6_; have NB119_0 := n7_; clear n0_ n1_ n2_ n3_ n4_ n5_ n6_ n7_; clear hb hbox hg) | ((with_reducible refine gate_callee (f := 49) rfl ?_); refine goesL_ (some 11) rfl rfl Try.func49 (by kernel_rfl) rfl #[.pointer (some ⟨g, 0, none⟩), .int .i64 (wrap64 (a1 + 1))] rfl lmB ?_; (with_reducible refine (spec_l40Rd_pick.calls k g s0_0 s0_1 (wrap64 (a1 + 1)) t120 t121 w0 _ ?side1 ?side2 A3.out).mono ?_); (case side1 => repeat (first | (with_reducible first | exact HI0.out | apply IsS106.alloc | apply IsS106.drewN | apply IsS106.drew | apply IsS106.set_1 | refine IsS106.far ?_ NB0_119.out _) | exact HI0.out)); (case side2 => repeat (first | (with_reducible first | exact HB.out | apply bwA | apply bwN | apply bwD | refine below_set ?_ (IsS106.ge HI0.out) | refine below_set ?_ GE119.out) | exact HB.out)); rintro e w6 ⟨rfl, hi, hb, hk⟩; refine ⟨_, rfl, ?_⟩; have n0_ := Aside0.mk (KeepBut.blk hk (g' := gb119) (o := .cells #[.int .i64 0, .slice none 0 0] 45 (0, 0)) (bvK BK119.out) NB119_0.out (by simp)); have n1_ := Aside0.mk (KeepBut.trans (by repeat (first | (with_reducible first | exact HK.out | apply KeepBut.set_ | apply keep_drewN | apply keep_drew | apply keep_alloc | refine keep_far ?_ GW119.out _) | exact HK.out)) hk (.inl rfl)); have n2_ := Aside0.mk (hb); have n3_ := Aside0.mk (hi); clear BK119; clear HK; clear HB; clear HI0; have BK119 := n0_; have HK := n1_; have HB := n2_; have HI0 := n3_; clear n0_ n1_ n2_ n3_; (try clear hb); (try clear hb2); (try clear hk); (try clear hi)) | ((with_reducible refine gate_dst (N := 5) rfl ?_); refine box_event ?hg (N := 5) ?hd (cs := #[.int .i64 0, .slice none 0 0]) (t := 45) ?hr ?_; (case hd => rfl); (case hg => rfl); (case hr => first | (go_simp; done) | (go_simp; rfl)); intro gb122 hg w7 hbox hb; have n0_ := Aside0.mk (IsS106.below (by repeat (first | (with_reducible first | exact HI0.out | apply IsS106.alloc | apply IsS106.drewN | apply IsS106.drew | apply IsS106.set_1 | refine IsS106.far ?_ NB0_119.out _) | exact HI0.out)) hb); have n1_ := Aside0.mk (blk_below (g := gb119) (o := .cells #[.int .i64 0, .slice none 0 0] 45 (0, 0)) (bvK BK119.out) hb); have n2_ := Aside0.mk (KeepBut.trans (by repeat (first | (with_reducible first | exact HK.out | apply KeepBut.set_ | apply keep_drewN | apply keep_drew | apply keep_alloc | refine keep_far ?_ GW119.out _) | exact HK.out)) (KeepBut.of_below hb g none) (.inl rfl)); have n3_ := Aside0.mk (below_step (by repeat (first | (with_reducible first | exact HB.out | apply bwA | apply bwN | apply bwD | refine below_set ?_ (IsS106.ge HI0.out) | refine below_set ?_ GE119.out) | exact HB.out)) hb); have n4_ := Aside0.mk (hbox); have n5_ := Aside0.mk ((by rw [hg]; exact (keep_size (w := w) (g := g) (row := none) (by repeat (first | (with_reducible first | exact HK.out | apply KeepBut.set_ | apply keep_drewN | apply keep_drew | apply keep_alloc | refine keep_far ?_ GW119.out _) | exact HK.out))) : w.heap.size ≤ gb122)); have n6_ := Aside0.mk ((Nat.le_trans HW0.out (by rw [hg]; exact (keep_size (w := w) (g := g) (row := none) (by repeat (first | (with_reducible first | exact HK.out | apply KeepBut.set_ | apply keep_drewN | apply keep_drew | apply keep_alloc | refine keep_far ?_ GW119.out _) | exact HK.out))) : w.heap.size ≤ gb122) : w0.heap.size ≤ gb122)); have n7_ := Aside0.mk ((by rw [hg]; exact Nat.ne_of_lt (blk_lt (g := gb119) (o := .cells #[.int .i64 0, .slice none 0 0] 45 (0, 0)) (bvK BK119.out)) : gb119 ≠ gb122)); have n8_ := Aside0.mk ((by rw [hg]; exact Nat.ne_of_gt (blk_lt (g := gb119) (o := .cells #[.int .i64 0, .slice none 0 0] 45 (0, 0)) (bvK BK119.out)) : gb122 ≠ gb119)); have n9_ := Aside0.mk ((by rw [hg]; exact Nat.ne_of_lt (IsS106.lt (show IsS106 w0 _ g s0_0 t121 from by repeat (first | (with_reducible first | exact HI0.out | apply IsS106.alloc | apply IsS106.drewN | apply IsS106.drew | apply IsS106.set_1 | refine IsS106.far ?_ NB0_119.out _) | exact HI0.out))) : g ≠ gb122)); have n10_ := Aside0.mk ((by rw [hg]; exact Nat.ne_of_gt (IsS106.lt (show IsS106 w0 _ g s0_0 t121 from by repeat (first | (with_reducible first | exact HI0.out | apply IsS106.alloc | apply IsS106.drewN | apply IsS106.drew | apply IsS106.set_1 | refine IsS106.far ?_ NB0_119.out _) | exact HI0.out))) : gb122 ≠ g)); clear HI0; clear BK119; clear HK; clear HB; have HI0 := n0_; have BK119 := n1_; have HK := n2_; have HB := n3_; have BK122 := n4_; have GW122 := n5_; have GE122 := n6_; have NB119_122 := n7_; have NB122_119 := n8_; have NB0_122 := n9_; have NB122_0 := n10_; clear n0_ n1_ n2_ n3_ n4_ n5_ n6_ n7_ n8_ n9_ n10_; clear hb hbox hg; have hnb8 := NB122_119.out; have hnc8 := NB119_122.out; have hnb9 := NB122_0.out; have hnc9 := NB0_122.out; have hcz10_0 : w7.cell? ⟨gb122, 0, none⟩ = some (.int .i64 0) := (blk_cell BK122.out 0).trans rfl; have hcz10_1 : w7.cell? ⟨gb122, 1, none⟩ = some (.slice none 0 0) := (blk_cell BK122.out 1).trans rfl; have hfz10_0 := blk_frozen BK122.out 0; have hfz10_1 := blk_frozen BK122.out 1) | ((with_reducible refine gate_dst (N := 14) rfl ?_); refine Kd.R_lit (Kd.int .i64) _ 3 ?hg (N := 14) ?hd (xs := ([3, 6, 10, 1, 14, 0] : List Int)) (inner := [.int .i64 3, .int .i64 6, .int .i64 10, .int .i64 1, .int .i64 14, .int .i64 0]) (ok := fun _ => True) (okp := fun _ => True) ?hr ?hp (fun _ hk => hk) trivial (Below.refl _ _) (Nat.le_refl _) (by simp) ?_; (case hd => rfl); (case hg => rfl); (case hr => first | (go_simp; done) | (go_simp; rfl)); (case hp => exact (Reps.one (show Kd.M (Kd.int .i64) _ _ _ 3 [.int .i64 3] from rfl) (Reps.one (show Kd.M (Kd.int .i64) _ _ _ 6 [.int .i64 6] from rfl) (Reps.one (show Kd.M (Kd.int .i64) _ _ _ 10 [.int .i64 10] from rfl) (Reps.one (show Kd.M (Kd.int .i64) _ _ _ 1 [.int .i64 1] from rfl) (Reps.one (show Kd.M (Kd.int .i64) _ _ _ 14 [.int .i64 14] from rfl) (Reps.one (show Kd.M (Kd.int .i64) _ _ _ 0 [.int .i64 0] from rfl) (Reps.none _ _)))))))); intro v124 w11 ho12 hb hg_ hnew_; clear hg_ hnew_; (first | rw [← Ny123.out] at ho12 | (simp only [Int.reduceToNat] at ho12; rw [← Ny123.out] at ho12)); have n0_ := Aside0.mk (Kd.R_lower ho12 (keep_size (w := w) (g := g) (row := none) (by repeat (first | (with_reducible first | exact HK.out | apply KeepBut.set_ | apply keep_drewN | apply keep_drew | apply keep_alloc | refine keep_far ?_ GW119.out _ | refine keep_far ?_ GW122.out _) | exact HK.out)))); have n1_ := Aside0.mk (IsS106.below (show IsS106 w0 ((w7.setCell ⟨gb122, 0, none⟩ (.int .i64 t120)).setCell ⟨gb122, 1, none⟩ (.slice none 0 0)) g s0_0 t121 from by repeat (first | (with_reducible first | exact HI0.out | apply IsS106.alloc | apply IsS106.drewN | apply IsS106.drew | apply IsS106.set_1 | refine IsS106.far ?_ NB0_119.out _ | refine IsS106.far ?_ NB0_122.out _) | exact HI0.out)) hb); have n2_ := Aside0.mk (blk_below (g := gb119) (o := .cells #[.int .i64 0, .slice none 0 0] 45 (0, 0)) (by (with_reducible repeat (first | refine blk_drewN ?_ _ | refine blk_drew ?_ | refine blk_alloc ?_ _)); refine blk_far ?_ NB119_122.out _; (with_reducible repeat (first | refine blk_drewN ?_ _ | refine blk_drew ?_ | refine blk_alloc ?_ _)); refine blk_far ?_ NB119_122.out _; (with_reducible repeat (first | refine blk_drewN ?_ _ | refine blk_drew ?_ | refine blk_alloc ?_ _)); exact BK119.out) hb); have n3_ := Aside0.mk (blk_below (g := gb122) (o := .cells #[.int .i64 t120, .slice none 0 0] 45 (0, 0)) (by (with_reducible repeat (first | refine blk_drewN ?_ _ | refine blk_drew ?_ | refine blk_alloc ?_ _)); refine blk_put (cs := #[.int .i64 t120, .slice none 0 0]) ?_ 1 _ rfl; (with_reducible repeat (first | refine blk_drewN ?_ _ | refine blk_drew ?_ | refine blk_alloc ?_ _)); refine blk_put (cs := #[.int .i64 0, .slice none 0 0]) ?_ 0 _ rfl; (with_reducible repeat (first | refine blk_drewN ?_ _ | refine blk_drew ?_ | refine blk_alloc ?_ _)); exact BK122.out) hb); have n4_ := Aside0.mk (KeepBut.trans (by repeat (first | (with_reducible first | exact HK.out | apply KeepBut.set_ | apply keep_drewN | apply keep_drew | apply keep_alloc | refine keep_far ?_ GW119.out _ | refine keep_far ?_ GW122.out _) | exact HK.out)) (KeepBut.of_below hb g none) (.inl rfl)); have n5_ := Aside0.mk (below_step (by repeat (first | (with_reducible first | exact HB.out | apply bwA | apply bwN | apply bwD | refine below_set ?_ (IsS106.ge HI0.out) | refine below_set ?_ GE119.out | refine below_set ?_ GE122.out) | exact HB.out)) hb); clear HI0; clear BK119; clear BK122; clear HK; clear HB; have HO125 := n0_; have HI0 := n1_; have BK119 := n2_; have BK122 := n3_; have HK := n4_; have HB := n5_; clear n0_ n1_ n2_ n3_ n4_ n5_; clear hb ho12; obtain ⟨Ao13, co13, eo13⟩ := Kd.R_slice HO125.out; subst eo13) | ((with_reducible refine gate_callee (f := 51) rfl ?_); refine goesL_ (some 15) rfl rfl Try.func51 (by kernel_rfl) rfl #[.pointer (some ⟨g, 0, none⟩), .slice Ao13 y123.length co13] rfl lmB ?_; (with_reducible refine (spec_l40Rd_num.calls k g s0_0 t121 _ _ y123 t126 t127 w0 _ ?side1 ?side2 ?side3 ?side4 ?side5 A4.out).mono ?_); (case side1 => repeat (first | (with_reducible first | exact HI0.out | apply IsS106.alloc | apply IsS106.drewN | apply IsS106.drew | apply IsS106.set_1 | refine IsS106.far ?_ NB0_119.out _ | refine IsS106.far ?_ NB0_122.out _) | exact HI0.out)); (case side2 => repeat (first | (with_reducible first | exact HB.out | apply bwA | apply bwN | apply bwD | refine below_set ?_ (IsS106.ge HI0.out) | refine below_set ?_ GE119.out | refine below_set ?_ GE122.out) | exact HB.out)); (case side3 => repeat (first | exact (Kd.R_reads' HO125.out).2.2 | (with_reducible refine Kd.C_alloc ?_ _) | (with_reducible refine Kd.C_drewN ?_ _) | (with_reducible refine Kd.C_drew ?_))); (case side4 => exact (Kd.R_reads' HO125.out).2.1); (case side5 => exact far_slice (IsS106.own_ne HI0.out HO125.out (by decide))); rintro e w14 ⟨rfl, hi, hb, hk⟩; refine ⟨_, rfl, ?_⟩; have n0_ := Aside0.mk (KeepBut.blk hk (g' := gb119) (o := .cells #[.int .i64 0, .slice none 0 0] 45 (0, 0)) (bvK BK119.out) NB119_0.out (by simp)); have n1_ := Aside0.mk (KeepBut.blk hk (g' := gb122) (o := .cells #[.int .i64 t120, .slice none 0 0] 45 (0, 0)) (bvK BK122.out) NB122_0.out (by simp)); have n2_ := Aside0.mk (Kd.R_mono (Kd.R_keep (IsS106.apart (show IsS106 w0 _ g s0_0 t121 from by repeat (first | (with_reducible first | exact HI0.out | apply IsS106.alloc | apply IsS106.drewN | apply IsS106.drew | apply IsS106.set_1 | refine IsS106.far ?_ NB0_119.out _ | refine IsS106.far ?_ NB0_122.out _) | exact HI0.out)) (rvR HO125.out) (by decide)) hk (fun _ h => h.2)) (fun _ h => h.1)); have n3_ := Aside0.mk (KeepBut.trans (by repeat (first | (with_reducible first | exact HK.out | apply KeepBut.set_ | apply keep_drewN | apply keep_drew | apply keep_alloc | refine keep_far ?_ GW119.out _ | refine keep_far ?_ GW122.out _) | exact HK.out)) hk (.inl rfl)); have n4_ := Aside0.mk (hb); have n5_ := Aside0.mk (hi); clear BK119; clear BK122; clear HO125; clear HK; clear HB; clear HI0; have BK119 := n0_; have BK122 := n1_; have HO125 := n2_; have HK := n3_; have HB := n4_; have HI0 := n5_; clear n0_ n1_ n2_ n3_ n4_ n5_; (try clear hb); (try clear hb2); (try clear hk); (try clear hi)))
 go_loopg [6] k (fun kq v6 w' => ∃ (x6_1 : Int) (x1001_1 : Int) (x123001_1 : List (S121)) (u123001 : Value), v6 = .int .i64 x6_1 ∧ Aside0 (spec_l7Draw.l0 kq x6_1 s0_0 x1001_1 t120 x123001_1 = some (r1, r2, r3)) ∧ Aside0 (kq ≤ k) ∧ Aside0 (Kd.R k121 121 w' w.heap.size (fun _ => True) u123001 x123001_1) ∧ Aside0 (w'.heap[gb119]? = some (.cells #[.int .i64 0, (.slice none 0 0)] 45 (0, 0))) ∧ Aside0 (w'.heap[gb122]? = some (.cells #[.int .i64 t120, u123001] 45 (0, 0))) ∧ Aside0 (IsS106 w0 w' g s0_0 x1001_1) ∧ Aside0 (KeepBut w w' g none) ∧ Aside0 (Below w0.heap.size w0 w'))
 case atStart => exact ⟨(t126), (t127), (([] : List (S121))), (.slice none 0 0), rsd, H', ⟨Nat.le_refl _⟩, ⟨by first | exact Kd.R_nil _ _ _ _ _ | exact Kd.N_nil _ _ _ _ _ | exact Kd.V_nil _ _ _ _ _ | exact Kd.Q_nil _ _ _ _ _ | exact Kd.S_nil _ _ _ _ _⟩, ⟨bvK BK119.out⟩, ⟨bvK BK122.out⟩, ⟨by repeat (first | (with_reducible first | exact HI0.out | apply IsS106.alloc | apply IsS106.drewN | apply IsS106.drew | apply IsS106.set_1 | refine IsS106.far ?_ NB0_119.out _ | refine IsS106.far ?_ NB0_122.out _) | exact HI0.out)⟩, ⟨by repeat (first | (with_reducible first | exact HK.out | apply KeepBut.set_ | apply keep_drewN | apply keep_drew | apply keep_alloc | refine keep_far ?_ GW119.out _ | refine keep_far ?_ GW122.out _) | exact HK.out)⟩, ⟨by repeat (first | (with_reducible first | exact HB.out | apply bwA | apply bwN | apply bwD | refine below_set ?_ (IsS106.ge HI0.out) | refine below_set ?_ GE119.out | refine below_set ?_ GE122.out) | exact HB.out)⟩⟩
 case round =>
  clear H'
  try clear c1
  try clear p2
  try clear c4
  try clear c5
  try clear p6
  try clear c8
  try clear c9
  try clear c11
  try clear hcz10_0
  try clear hcz10_1
  try clear hfz10_0
  try clear hfz10_1
  obtain ⟨x6_1, x1001_1, x123001_1, u123001, rfl, HA, HK1, HO_123001, BK119, BK122, HI0, HK, HB⟩ := hrel
  cases gk with
  | zero => exact absurd HA.out (by simp [spec_l7Draw.l0])
  | succ k1 =>
   have H := HA.out
   clear HA
   simp only [spec_l7Draw.l0] at H
   by_cases c15 : x6_1 > 0
   ·rw [if_pos c15] at H
    have c15b0 : decide (0 < x6_1) = true := decide_eq_true c15
    clear c15
    replace H := Option.bind_eq_some_iff.mp H
    obtain ⟨t128, A160, H⟩ := H
    replace H : ((spec_l40Rd_pick.f k1 s0_0 x1001_1 (wrap64 (2 * t128))).bind fun bt129 => ((spec_l40Rd_pick.f k1 s0_0 bt129.2 (wrap64 (Int.tdiv (wrap64 ((wrap64 (2 * t128)) + 1)) 2))).bind fun bt131 => (if x123001_1.length < 8796093022208 then (spec_l7Draw.l0 k1 (wrap64 (x6_1 - 1)) s0_0 bt131.2 t120 (x123001_1 ++ [(⟨bt129.1, wrap64 ((wrap64 ((wrap64 (2 * t128)) - 1)) - bt131.1)⟩ : S121)])) else (none)))) = some (r1, r2, r3) := H
    have A16 := Aside0.mk A160
    clear A160
    replace H := Option.bind_eq_some_iff.mp H
    obtain ⟨⟨t129, t130⟩, A170, H⟩ := H
    replace H : ((spec_l40Rd_pick.f k1 s0_0 t130 (wrap64 (Int.tdiv (wrap64 ((wrap64 (2 * t128)) + 1)) 2))).bind fun bt131 => (if x123001_1.length < 8796093022208 then (spec_l7Draw.l0 k1 (wrap64 (x6_1 - 1)) s0_0 bt131.2 t120 (x123001_1 ++ [(⟨t129, wrap64 ((wrap64 ((wrap64 (2 * t128)) - 1)) - bt131.1)⟩ : S121)])) else (none))) = some (r1, r2, r3) := H
    have A17 := Aside0.mk A170
    clear A170
    replace H := Option.bind_eq_some_iff.mp H
    obtain ⟨⟨t131, t132⟩, A180, H⟩ := H
    replace H : (if x123001_1.length < 8796093022208 then (spec_l7Draw.l0 k1 (wrap64 (x6_1 - 1)) s0_0 t132 t120 (x123001_1 ++ [(⟨t129, wrap64 ((wrap64 ((wrap64 (2 * t128)) - 1)) - t131)⟩ : S121)])) else (none)) = some (r1, r2, r3) := H
    have A18 := Aside0.mk A180
    clear A180
    by_cases c19 : x123001_1.length < 8796093022208
    ·rw [if_pos c19] at H
     have LMc19 := Aside0.mk c19
     clear c19
     obtain ⟨y133, hy133⟩ : ∃ y_ : List (S121), y_ = (x123001_1 ++ [(⟨t129, wrap64 ((wrap64 ((wrap64 (2 * t128)) - 1)) - t131)⟩ : S121)]) := ⟨_, rfl⟩
     replace H : (spec_l7Draw.l0 k1 (wrap64 (x6_1 - 1)) s0_0 t132 t120 y133) = some (r1, r2, r3) := by first | (rw [hy133]; with_reducible exact H) | (have H2_ := (Option.bind_some _ _).symm.trans H; rw [hy133]; with_reducible exact H2_) | (have H2_ := (Option.bind_some _ _).symm.trans H; with_reducible exact H2_) | with_reducible exact H | (rw [hy133]; exact H) | exact H
     have Ny133 := Aside0.mk hy133
     clear hy133
     have H' := Aside0.mk H
     clear H
     have hnb20 := NB122_119.out
     have hnc20 := NB119_122.out
     have hnb21 := NB122_0.out
     have hnc21 := NB0_122.out
     have hcz22_0 : wr.cell? ⟨gb122, 0, none⟩ = some (.int .i64 t120) := (blk_cell BK122.out 0).trans rfl
     have hcz22_1 : wr.cell? ⟨gb122, 1, none⟩ = some (u123001) := (blk_cell BK122.out 1).trans rfl
     have hfz22_0 := blk_frozen BK122.out 0
     have hfz22_1 := blk_frozen BK122.out 1
     obtain ⟨Ao23, co23, eo23⟩ := Kd.R_slice HO_123001.out
     subst eo23
     try go_wp2_with (first | ((with_reducible refine gate_callee (f := 110) rfl ?_); refine goesL_ (some 21) rfl rfl Try.func110 (by kernel_rfl) rfl #[.agg #[.int .i64 t120, .slice Ao23 x123001_1.length co23]] rfl lmB ?_; (with_reducible refine (spec_l7Nodes.calls t120 _ _ x123001_1 t128 _ ?side1 ?side2 A16.out).mono ?_); (case side1 => repeat (first | exact (Kd.R_reads' HO_123001.out).2.2 | (with_reducible refine Kd.C_alloc ?_ _) | (with_reducible refine Kd.C_drewN ?_ _) | (with_reducible refine Kd.C_drew ?_))); (case side2 => exact (Kd.R_reads' HO_123001.out).2.1); rintro e w24 ⟨rfl, hb⟩; refine ⟨_, rfl, ?_⟩; have n0_ := Aside0.mk (Kd.R_below (rvR HO_123001.out) hb); have n1_ := Aside0.mk (blk_below (g := gb119) (o := .cells #[.int .i64 0, .slice none 0 0] 45 (0, 0)) (bvK BK119.out) hb); have n2_ := Aside0.mk (blk_below (g := gb122) (o := .cells #[.int .i64 t120, .slice Ao23 x123001_1.length co23] 45 (0, 0)) (bvK BK122.out) hb); have n3_ := Aside0.mk (IsS106.below (by repeat (first | (with_reducible first | exact HI0.out | apply IsS106.alloc | apply IsS106.drewN | apply IsS106.drew | apply IsS106.set_1 | refine IsS106.far ?_ NB0_119.out _ | refine IsS106.far ?_ NB0_122.out _) | exact HI0.out)) hb); have n4_ := Aside0.mk (KeepBut.trans (by repeat (first | (with_reducible first | exact HK.out | apply KeepBut.set_ | apply keep_drewN | apply keep_drew | apply keep_alloc | refine keep_far ?_ GW119.out _ | refine keep_far ?_ GW122.out _) | exact HK.out)) (KeepBut.of_below hb g none) (.inl rfl)); have n5_ := Aside0.mk (below_step (by repeat (first | (with_reducible first | exact HB.out | apply bwA | apply bwN | apply bwD | refine below_set ?_ (IsS106.ge HI0.out) | refine below_set ?_ GE119.out | refine below_set ?_ GE122.out) | exact HB.out)) hb); clear HO_123001; clear BK119; clear BK122; clear HI0; clear HK; clear HB; have HO_123001 := n0_; have BK119 := n1_; have BK122 := n2_; have HI0 := n3_; have HK := n4_; have HB := n5_; clear n0_ n1_ n2_ n3_ n4_ n5_; (try clear hb); (try clear hb2); (try clear hk); (try clear hi)))
     have n0_ := Aside0.mk (Kd.R_drew HO_123001.out)
     have n1_ := Aside0.mk (blk_drew BK119.out)
     have n2_ := Aside0.mk (blk_drew BK122.out)
     have n3_ := Aside0.mk (IsS106.drew HI0.out)
     have n4_ := Aside0.mk (keep_drew HK.out)
     have n5_ := Aside0.mk (below_drew1 HB.out)
     clear HO_123001
     clear BK119
     clear BK122
     clear HI0
     clear HK
     clear HB
     have HO_123001 := n0_
     have BK119 := n1_
     have BK122 := n2_
     have HI0 := n3_
     have HK := n4_
     have HB := n5_
     clear n0_ n1_ n2_ n3_ n4_ n5_
     refine start_ (n := 18) (S := fun w' => w'.cell? ⟨gb122, 0, none⟩ = some (.int .i64 t120) ∧ w'.cell? ⟨gb122, 1, none⟩ = some (.slice Ao23 x123001_1.length co23)) (ds := [17]) (Pt.bm 18 0) (by kernel_rfl) rfl rfl ⟨(blk_cell BK122.out 0).trans rfl, (blk_cell BK122.out 1).trans rfl⟩ (fun hHeld => ?_); refine with_tabW spec_l7Draw.tab6 spec_l7Draw.bits6 (fun HT_ HW_ => ?_)
     generalize w24.drew = w25 at HO_123001 BK119 BK122 HI0 HK HB hHeld ⊢
     refine Pt.pu 0 (some 23) (Pt.bm 18 1) (any_of HT_.out (by kernel_rfl)) ?_
     refine Pt.pu 2 (some 25) (Pt.bm 18 5) (any_of HT_.out (by kernel_rfl)) ?_
     refine Pt.pu 3 (some 26) (Pt.bm 18 13) (any_of HT_.out (by kernel_rfl)) ?_
     refine Pt.pu 5 (some 28) (Pt.bm 18 45) (any_of HT_.out (by kernel_rfl)) ?_
     refine Pt.pu 6 (some 29) (Pt.bm 18 109) (any_of HT_.out (by kernel_rfl)) ?_
     refine Pt.pu 7 (some 30) (Pt.bm 18 237) (any_of HT_.out (by kernel_rfl)) ?_
     refine Pt.pu 8 (some 31) (Pt.bm 18 493) (any_of HT_.out (by kernel_rfl)) ?_
     refine Pt.pu 9 (some 32) (Pt.bm 18 1005) (any_of HT_.out (by kernel_rfl)) ?_
     refine Pt.pu 10 (some 33) (Pt.bm 18 2029) (any_of HT_.out (by kernel_rfl)) ?_
     refine Pt.tk 1 (some 24) (Pt.bm 18 2031) rfl rfl (take_ofW HT_.out HW_.out (by kernel_rfl)) hHeld (Or.inl ⟨by rfl, by rintro w' ⟨s0, s1⟩; go_simp; with_reducible rfl⟩) ?_
     refine one_ (i := 4) (N := some 27) (Pt.bm 18 2047) rfl rfl (one_of HT_.out (by kernel_rfl)) (by decide) (fun K hK => ?_)
     refine goes_ Try.func49 (by kernel_rfl) rfl #[.pointer (some ⟨g, 0, none⟩), .int .i64 (wrap64 (2 * t128))] (by rfl) rfl rfl lmB ?_
     with_reducible refine (spec_l40Rd_pick.calls k1 g s0_0 x1001_1 (wrap64 (2 * t128)) t129 t130 w0 _ ?side1 ?side2 A17.out).mono ?_
     (case side1 => repeat (first | (with_reducible first | exact HI0.out | apply IsS106.alloc | apply IsS106.drewN | apply IsS106.drew | apply IsS106.set_1 | refine IsS106.far ?_ NB0_119.out _ | refine IsS106.far ?_ NB0_122.out _) | exact HI0.out))
     (case side2 => repeat (first | (with_reducible first | exact HB.out | apply bwA | apply bwN | apply bwD | refine below_set ?_ (IsS106.ge HI0.out) | refine below_set ?_ GE119.out | refine below_set ?_ GE122.out) | exact HB.out))
     rintro e w26 ⟨rfl, hi, hb, hk⟩
     refine ⟨_, rfl, ?_⟩
     have n0_ := Aside0.mk (Kd.R_mono (Kd.R_keep (IsS106.apart (show IsS106 w0 _ g s0_0 x1001_1 from by repeat (first | (with_reducible first | exact HI0.out | apply IsS106.alloc | apply IsS106.drewN | apply IsS106.drew | apply IsS106.set_1 | refine IsS106.far ?_ NB0_119.out _ | refine IsS106.far ?_ NB0_122.out _) | exact HI0.out)) (rvR HO_123001.out) (by decide)) hk (fun _ h => h.2)) (fun _ h => h.1))
     have n1_ := Aside0.mk (KeepBut.blk hk (g' := gb119) (o := .cells #[.int .i64 0, .slice none 0 0] 45 (0, 0)) (bvK BK119.out) NB119_0.out (by simp))
     have n2_ := Aside0.mk (KeepBut.blk hk (g' := gb122) (o := .cells #[.int .i64 t120, .slice Ao23 x123001_1.length co23] 45 (0, 0)) (bvK BK122.out) NB122_0.out (by simp))
     have n3_ := Aside0.mk (KeepBut.trans (by repeat (first | (with_reducible first | exact HK.out | apply KeepBut.set_ | apply keep_drewN | apply keep_drew | apply keep_alloc | refine keep_far ?_ GW119.out _ | refine keep_far ?_ GW122.out _) | exact HK.out)) hk (.inl rfl))
     have n4_ := Aside0.mk (hb)
     have n5_ := Aside0.mk (hi)
     clear HO_123001
     clear BK119
     clear BK122
     clear HK
     clear HB
     clear HI0
     have HO_123001 := n0_
     have BK119 := n1_
     have BK122 := n2_
     have HK := n3_
     have HB := n4_
     have HI0 := n5_
     clear n0_ n1_ n2_ n3_ n4_ n5_
     (try clear hb)
     (try clear hb2)
     (try clear hk)
     (try clear hi)
     refine hK.out _ _ ⟨(blk_cell BK122.out 0).trans rfl, (blk_cell BK122.out 1).trans rfl⟩ (fun hHeld => ?_)
     clear hK K
     refine norm_ (a' := ?_) ?_ ?_
     rotate_left
     ·show Act.put _ (some 27) _ = _
      simp only [Act.put, List.setIfInBounds_toArray, List.set_cons_zero, List.set_cons_succ, i64_w, i32_w]
      rfl
     refine one_ (i := 11) (N := some 34) (Pt.bm 18 4095) rfl rfl (one_of HT_.out (by kernel_rfl)) (by decide) (fun K hK => ?_)
     refine goes_ Try.func49 (by kernel_rfl) rfl #[.pointer (some ⟨g, 0, none⟩), .int .i64 (wrap64 (Int.tdiv (wrap64 ((wrap64 (2 * t128)) + 1)) 2))] (by rfl) rfl rfl lmB ?_
     with_reducible refine (spec_l40Rd_pick.calls k1 g s0_0 t130 (wrap64 (Int.tdiv (wrap64 ((wrap64 (2 * t128)) + 1)) 2)) t131 t132 w0 _ ?side1 ?side2 A18.out).mono ?_
     (case side1 => repeat (first | (with_reducible first | exact HI0.out | apply IsS106.alloc | apply IsS106.drewN | apply IsS106.drew | apply IsS106.set_1 | refine IsS106.far ?_ NB0_119.out _ | refine IsS106.far ?_ NB0_122.out _) | exact HI0.out))
     (case side2 => repeat (first | (with_reducible first | exact HB.out | apply bwA | apply bwN | apply bwD | refine below_set ?_ (IsS106.ge HI0.out) | refine below_set ?_ GE119.out | refine below_set ?_ GE122.out) | exact HB.out))
     rintro e w27 ⟨rfl, hi, hb, hk⟩
     refine ⟨_, rfl, ?_⟩
     have n0_ := Aside0.mk (Kd.R_mono (Kd.R_keep (IsS106.apart (show IsS106 w0 _ g s0_0 t130 from by repeat (first | (with_reducible first | exact HI0.out | apply IsS106.alloc | apply IsS106.drewN | apply IsS106.drew | apply IsS106.set_1 | refine IsS106.far ?_ NB0_119.out _ | refine IsS106.far ?_ NB0_122.out _) | exact HI0.out)) (rvR HO_123001.out) (by decide)) hk (fun _ h => h.2)) (fun _ h => h.1))
     have n1_ := Aside0.mk (KeepBut.blk hk (g' := gb119) (o := .cells #[.int .i64 0, .slice none 0 0] 45 (0, 0)) (bvK BK119.out) NB119_0.out (by simp))
     have n2_ := Aside0.mk (KeepBut.blk hk (g' := gb122) (o := .cells #[.int .i64 t120, .slice Ao23 x123001_1.length co23] 45 (0, 0)) (bvK BK122.out) NB122_0.out (by simp))
     have n3_ := Aside0.mk (KeepBut.trans (by repeat (first | (with_reducible first | exact HK.out | apply KeepBut.set_ | apply keep_drewN | apply keep_drew | apply keep_alloc | refine keep_far ?_ GW119.out _ | refine keep_far ?_ GW122.out _) | exact HK.out)) hk (.inl rfl))
     have n4_ := Aside0.mk (hb)
     have n5_ := Aside0.mk (hi)
     clear HO_123001
     clear BK119
     clear BK122
     clear HK
     clear HB
     clear HI0
     have HO_123001 := n0_
     have BK119 := n1_
     have BK122 := n2_
     have HK := n3_
     have HB := n4_
     have HI0 := n5_
     clear n0_ n1_ n2_ n3_ n4_ n5_
     (try clear hb)
     (try clear hb2)
     (try clear hk)
     (try clear hi)
     refine hK.out _ _ ⟨(blk_cell BK122.out 0).trans rfl, (blk_cell BK122.out 1).trans rfl⟩ (fun hHeld => ?_)
     clear hK K
     refine norm_ (a' := ?_) ?_ ?_
     rotate_left
     ·show Act.put _ (some 34) _ = _
      simp only [Act.put, List.setIfInBounds_toArray, List.set_cons_zero, List.set_cons_succ, i64_w, i32_w]
      rfl
     refine Pt.pu 12 (some 35) (Pt.bm 18 8191) (any_of HT_.out (by kernel_rfl)) ?_
     refine Pt.pu 13 (some 36) (Pt.bm 18 16383) (any_of HT_.out (by kernel_rfl)) ?_
     refine one_ (i := 14) (N := some 37) (Pt.bm 18 32767) rfl rfl (one_of HT_.out (by kernel_rfl)) (by decide) (fun K hK => ?_)
     refine value_ (w1 := ?_) (v := ?_) (by rfl) rfl ?_ ?_
     rotate_left 2
     ·go_simp
      constructor
      ·rfl
      ·rfl
     refine hK.out _ _ ⟨(blk_cell (blk_alloc BK122.out _) 0).trans rfl, (blk_cell (blk_alloc BK122.out _) 1).trans rfl⟩ (fun hHeld => ?_)
     clear hK K
     refine norm_ (a' := ?_) ?_ ?_
     rotate_left
     ·show Act.put _ (some 37) _ = _
      simp only [Act.put, List.setIfInBounds_toArray, List.set_cons_zero, List.set_cons_succ, i64_w, i32_w]
      rfl
     refine one_ (i := 15) (N := some 38) (Pt.bm 18 65535) rfl rfl (one_of HT_.out (by kernel_rfl)) (by decide) (fun K hK => ?_)
     refine Kd.R_append_step k121 w.heap.size (by rfl) (.tmp 24) (.tmp 37) 43 121 (.agg #[(.int .i64 0), (.int .i64 0)]) 16 rfl Try.underlying43 info121 rfl (by decide) (by omega) (.slice Ao23 x123001_1.length co23) x123001_1 (⟨t129, wrap64 ((wrap64 ((wrap64 (2 * t128)) - 1)) - t131)⟩ : S121) [.int .i64 t129, .int .i64 (wrap64 ((wrap64 ((wrap64 (2 * t128)) - 1)) - t131))] (fun _ => True) (fun _ => False) rfl rfl ?aP (fun _ hk => hk.elim) ?aF ?aO (Below.refl _ _) ?aS ?aL ?_
     (case aP => exact k121_mkM _ _ _ (⟨t129, wrap64 ((wrap64 ((wrap64 (2 * t128)) - 1)) - t131)⟩ : S121))
     (case aF => exact (fun _ _ => trivial))
     (case aO => exact (rvR HO_123001.out))
     (case aS => exact (keep_size (w := w) (g := g) (row := none) (by repeat (first | (with_reducible first | exact HK.out | apply KeepBut.set_ | apply keep_drewN | apply keep_drew | apply keep_alloc | refine keep_far ?_ GW119.out _ | refine keep_far ?_ GW122.out _) | exact HK.out))))
     (case aL => have := LMc19.out; omega)
     intro v134 w28 ho hb hg hat
     rw [← Ny133.out] at ho
     have n0_ := Aside0.mk (blk_grown (g := gb119) (o := .cells #[.int .i64 0, .slice none 0 0] 45 (0, 0)) (bvK BK119.out) hg (Kd.R_ne HO_123001.out BK119.out (by decide)))
     have n1_ := Aside0.mk (blk_grown (g := gb122) (o := .cells #[.int .i64 t120, .slice Ao23 x123001_1.length co23] 45 (0, 0)) (bvK BK122.out) hg (Kd.R_ne HO_123001.out BK122.out (by decide)))
     have n2_ := Aside0.mk (IsS106.grown (by repeat (first | (with_reducible first | exact HI0.out | apply IsS106.alloc | apply IsS106.drewN | apply IsS106.drew | apply IsS106.set_1 | refine IsS106.far ?_ NB0_119.out _ | refine IsS106.far ?_ NB0_122.out _) | exact HI0.out)) hg (IsS106.own_ne HI0.out HO_123001.out (by decide)))
     have n3_ := Aside0.mk (below_weaken (by repeat (first | (with_reducible first | exact HB.out | apply bwA | apply bwN | apply bwD | refine below_set ?_ (IsS106.ge HI0.out) | refine below_set ?_ GE119.out | refine below_set ?_ GE122.out) | exact HB.out)) HL.out hb)
     have n4_ := Aside0.mk (KeepBut.trans (by repeat (first | (with_reducible first | exact HK.out | apply KeepBut.set_ | apply keep_drewN | apply keep_drew | apply keep_alloc | refine keep_far ?_ GW119.out _ | refine keep_far ?_ GW122.out _) | exact HK.out)) (KeepBut.of_grown hg g) (Kd.R_base2 HO_123001.out))
     have n5_ := Aside0.mk (ho)
     clear BK119
     clear BK122
     clear HI0
     clear HB
     clear HK
     clear HO_123001
     have BK119 := n0_
     have BK122 := n1_
     have HI0 := n2_
     have HB := n3_
     have HK := n4_
     have HO135 := n5_
     clear n0_ n1_ n2_ n3_ n4_ n5_
     clear ho hb hg hat
     obtain ⟨Ao29, co29, eo29⟩ := Kd.R_slice HO135.out
     (first | subst eo29 | (injection eo29 with f1_ f2_ f3_; have f4_ := f1_.symm; have f5_ := f3_.symm; clear f1_ f2_ f3_; subst f4_; subst f5_))
     refine hK.out _ _ ⟨(blk_cell BK122.out 0).trans rfl, (blk_cell BK122.out 1).trans rfl⟩ (fun hHeld => ?_)
     clear hK K
     refine norm_ (a' := ?_) ?_ ?_
     rotate_left
     ·show Act.put _ (some 38) _ = _
      simp only [Act.put, List.setIfInBounds_toArray, List.set_cons_zero, List.set_cons_succ, i64_w, i32_w]
      rfl
     refine Pt.pu 16 (some 39) (Pt.bm 18 131071) (any_of HT_.out (by kernel_rfl)) ?_
     refine last_ (i := 17) (N := none) (Pt.bm 18 262143) rfl rfl (one_of HT_.out (by kernel_rfl)) (by decide) (fun K hK => ?_)
     have hs30 : w28.cell? ⟨gb122, 1, none⟩ = some (.slice Ao23 x123001_1.length co23) := (blk_cell BK122.out 1).trans rfl
     have hfs30 := blk_frozen BK122.out 1
     have hns30_0 := NB119_122.out
     have hms30_0 := NB122_119.out
     refine skip_ (w1 := ?_) (by rfl) rfl ?_ ?_
     rotate_left
     ·go_simp
      rfl
     refine hK.out _ _ ?_
     clear hK K
     refine done_ (done_of HT_.out (by kernel_rfl)) ?_
     try go_wp2
     go_roundg k1
     case measure => have := HK1.out; omega
     case rel => exact ⟨(wrap64 (x6_1 - 1)), (t132), (y133), (.slice Ao29 y133.length co29), rsd, H', ⟨by have := HK1.out; omega⟩, ⟨by (with_reducible repeat (first | apply Kd.R_alloc | apply Kd.R_drewN | apply Kd.R_drew)); exact Kd.R_mono (Kd.R_far (p := ⟨gb122, 1, none⟩) (Kd.R_types HO135.out BK122.out (by decide)) (fun _ hk => hk.2) (.slice Ao29 y133.length co29)) (fun _ hk => trivial)⟩, ⟨by (with_reducible repeat (first | refine blk_drewN ?_ _ | refine blk_drew ?_ | refine blk_alloc ?_ _)); refine blk_far ?_ NB119_122.out _; (with_reducible repeat (first | refine blk_drewN ?_ _ | refine blk_drew ?_ | refine blk_alloc ?_ _)); exact BK119.out⟩, ⟨by (with_reducible repeat (first | refine blk_drewN ?_ _ | refine blk_drew ?_ | refine blk_alloc ?_ _)); refine blk_put (cs := #[.int .i64 t120, .slice Ao23 x123001_1.length co23]) ?_ 1 _ rfl; (with_reducible repeat (first | refine blk_drewN ?_ _ | refine blk_drew ?_ | refine blk_alloc ?_ _)); exact BK122.out⟩, ⟨by repeat (first | (with_reducible first | exact HI0.out | apply IsS106.alloc | apply IsS106.drewN | apply IsS106.drew | apply IsS106.set_1 | refine IsS106.far ?_ NB0_119.out _ | refine IsS106.far ?_ NB0_122.out _) | exact HI0.out)⟩, ⟨by repeat (first | (with_reducible first | exact HK.out | apply KeepBut.set_ | apply keep_drewN | apply keep_drew | apply keep_alloc | refine keep_far ?_ GW119.out _ | refine keep_far ?_ GW122.out _) | exact HK.out)⟩, ⟨by repeat (first | (with_reducible first | exact HB.out | apply bwA | apply bwN | apply bwD | refine below_set ?_ (IsS106.ge HI0.out) | refine below_set ?_ GE119.out | refine below_set ?_ GE122.out) | exact HB.out)⟩⟩
    ·rw [if_neg c19] at H
     exact absurd H (by simp)
   ·rw [if_neg c15] at H
    have c15b0 : decide (0 < x6_1) = false := decide_eq_false c15
    clear c15
    simp only [Option.some.injEq, Prod.mk.injEq] at H
    obtain ⟨rfl, rfl, rfl⟩ := H
    have hnb31 := NB122_119.out
    have hnc31 := NB119_122.out
    have hnb32 := NB122_0.out
    have hnc32 := NB0_122.out
    have hcz33_0 : wr.cell? ⟨gb122, 0, none⟩ = some (.int .i64 t120) := (blk_cell BK122.out 0).trans rfl
    have hcz33_1 : wr.cell? ⟨gb122, 1, none⟩ = some (u123001) := (blk_cell BK122.out 1).trans rfl
    have hfz33_0 := blk_frozen BK122.out 0
    have hfz33_1 := blk_frozen BK122.out 1
    have hnb34 := NB119_0.out
    have hnc34 := NB0_119.out
    have hcz35_0 : wr.cell? ⟨gb119, 0, none⟩ = some (.int .i64 0) := (blk_cell BK119.out 0).trans rfl
    have hcz35_1 : wr.cell? ⟨gb119, 1, none⟩ = some (.slice none 0 0) := (blk_cell BK119.out 1).trans rfl
    have hfz35_0 := blk_frozen BK119.out 0
    have hfz35_1 := blk_frozen BK119.out 1
    obtain ⟨Ao36, co36, eo36⟩ := Kd.R_slice HO_123001.out
    subst eo36
    go_wp2
    refine bodyPost_ret (results_cell_row rfl _ _ gb119 45 #[.int .i64 t120, .slice Ao36 x123001_1.length co36] (0, 0) _ rfl (by (with_reducible repeat (first | refine blk_drewN ?_ _ | refine blk_drew ?_ | refine blk_alloc ?_ _)); refine blk_put (cs := #[.int .i64 t120, .slice none 0 0]) ?_ 1 _ rfl; (with_reducible repeat (first | refine blk_drewN ?_ _ | refine blk_drew ?_ | refine blk_alloc ?_ _)); refine blk_put (cs := #[.int .i64 0, .slice none 0 0]) ?_ 0 _ rfl; (with_reducible repeat (first | refine blk_drewN ?_ _ | refine blk_drew ?_ | refine blk_alloc ?_ _)); exact BK119.out) Try.underlying45 rfl (by kernel_rfl)) rfl ?_
    exact ⟨_, ers, by (with_reducible repeat (first | apply Kd.R_alloc | apply Kd.R_drewN | apply Kd.R_drew)); exact Kd.R_mono (Kd.R_far (p := ⟨gb119, 1, none⟩) (Kd.R_far (p := ⟨gb119, 0, none⟩) (Kd.R_types HO_123001.out BK119.out (by decide)) (fun _ hk => hk.2) (.int .i64 t120)) (fun _ hk => hk.2) (.slice Ao36 x123001_1.length co36)) (fun _ hk => trivial), by repeat (first | (with_reducible first | exact HI0.out | apply IsS106.alloc | apply IsS106.drewN | apply IsS106.drew | apply IsS106.set_1 | refine IsS106.far ?_ NB0_119.out _ | refine IsS106.far ?_ NB0_122.out _) | exact HI0.out), by repeat (first | (with_reducible first | exact HB.out | apply bwA | apply bwN | apply bwD | refine below_set ?_ (IsS106.ge HI0.out) | refine below_set ?_ GE119.out | refine below_set ?_ GE122.out) | exact HB.out), by repeat (first | (with_reducible first | exact HK.out | apply KeepBut.set_ | apply keep_drewN | apply keep_drew | apply keep_alloc | refine keep_far ?_ GW119.out _ | refine keep_far ?_ GW122.out _) | exact HK.out)⟩

end Go.Proofs.Ytpcompnmadpljaa.QFnDiagramOf
