-- Written by a program of this session (mk.py). Lean checks it.
import Derived.Test.YtpcckoljocpchaaQFnFixedx0
import Derived.Test.YtpcckoljocpchaaQFnFixedx2
import Derived.Test.YtpcckoljocpchaaQFnFixedx6
namespace Go.Proofs.Ytpcckoljocpchaa.QFnFixed
open Go.RowKit Go.Proofs.YtpcckoljocpchaaW.PrintWords Go.Proofs.YtpcckoljocpchaaW.PrintLast Go.Proofs.YtpcckoljocpchaaW.PrintMore
attribute [local go_sem] max2_int min2_int max_two min_two max_three min_three max_four min_four   -- for this text's walks alone
set_option linter.unusedVariables false
set_option linter.unusedSimpArgs false

/-! ### spec_l7Draw: function 115 -/
def spec_l7Draw.l0 : Nat → Int → List Int → Int → Int → List (S92) → Option (Int × (List (S92)) × Int)
 | 0, _, _, _, _, _ => none
 | k + 1, x6, x1000, x1001, x230000, x230001 => if x6 > 0 then ((spec_l7Nodes.f x230000 x230001).bind fun t235 => ((spec_l40Rd_pick.f k x1000 x1001 (wrap64 (2 * t235))).bind fun bt236 => ((spec_l40Rd_pick.f k x1000 bt236.2 (wrap64 (Int.tdiv (wrap64 ((wrap64 (2 * t235)) + 1)) 2))).bind fun bt238 => (if x230001.length < 8796093022208 then (spec_l7Draw.l0 k (wrap64 (x6 - 1)) x1000 bt238.2 x230000 (x230001 ++ [(⟨bt236.1, wrap64 ((wrap64 ((wrap64 (2 * t235)) - 1)) - bt238.1)⟩ : S92)])) else (none))))) else (some (x230000, x230001, x1001))
def spec_l7Draw.f (k : Nat) (s0_0 : List Int) (s0_1 : Int) (a1 : Int) : Option (Int × (List (S92)) × Int) := (spec_l40Rd_pick.f k s0_0 s0_1 (wrap64 (a1 + 1))).bind fun bt227 => ((spec_l40Rd_num.f k s0_0 bt227.2 (([3, 6, 10, 1, 14, 0] : List Int))).bind fun bt233 => (spec_l7Draw.l0 k bt233.1 s0_0 bt233.2 bt227.1 ([] : List (S92))))
theorem spec_l7Draw.mono_l : ∀ k, (∀ y0 y1 y2 y3 y4, LeO (spec_l7Draw.l0 k y0 y1 y2 y3 y4) (spec_l7Draw.l0 (k + 1) y0 y1 y2 y3 y4))
 | 0 => fun _ _ _ _ _ r h => by simp [spec_l7Draw.l0] at h
 | k + 1 => by
  have ih0 := spec_l7Draw.mono_l k
  ·intro y0 y1 y2 y3 y4
   unfold spec_l7Draw.l0
   repeat' first
   | (with_reducible exact ih0 _ _ _ _ _)
   | (with_reducible exact spec_l40Rd_num.mono _ _ _ _)
   | (with_reducible exact spec_l40Rd_pick.mono _ _ _ _)
   | (with_reducible exact LeO.refl _)
   | (with_reducible exact LeO.none _)
   | (with_reducible refine LeO.ite ?_ ?_)
   | (with_reducible refine LeO.bind ?_ (fun _ => ?_))
   | exact ih0 _ _ _ _ _
   | exact spec_l40Rd_num.mono _ _ _ _
   | exact spec_l40Rd_pick.mono _ _ _ _
   | exact LeO.none _
   | refine LeO.ite ?_ ?_
   | refine LeO.bind ?_ (fun _ => ?_)
theorem spec_l7Draw.mono : ∀ a0 a1 a2 k, LeO (spec_l7Draw.f k a0 a1 a2) (spec_l7Draw.f (k + 1) a0 a1 a2) := by
 intro a0 a1 a2 k
 have ih0 := spec_l7Draw.mono_l k
 unfold spec_l7Draw.f
 repeat' first
   | (with_reducible exact ih0 _ _ _ _ _)
   | (with_reducible exact spec_l40Rd_num.mono _ _ _ _)
   | (with_reducible exact spec_l40Rd_pick.mono _ _ _ _)
   | (with_reducible exact LeO.refl _)
   | (with_reducible exact LeO.none _)
   | (with_reducible refine LeO.ite ?_ ?_)
   | (with_reducible refine LeO.bind ?_ (fun _ => ?_))
   | exact ih0 _ _ _ _ _
   | exact spec_l40Rd_num.mono _ _ _ _
   | exact spec_l40Rd_pick.mono _ _ _ _
   | exact LeO.none _
   | refine LeO.ite ?_ ?_
   | refine LeO.bind ?_ (fun _ => ?_)
def spec_l7Draw.T6 : Bool × List (List Nat × List Nat) := (true, [([], []), ([0], [0]), ([], []), ([], []), ([2, 3], [2, 3]), ([], []), ([5], [5]), ([], []), ([], []), ([8], [8]), ([9], [9]), ([7, 10, 4], [7, 10]), ([6, 11], [6, 11]), ([4, 12], [4, 12]), ([13], [13]), ([1, 14, 11], [1, 14]), ([0, 1, 2, 3, 4, 5, 6, 7, 8, 9, 10, 11, 12, 13, 14, 15], []), ([16, 15, 15, 0, 1, 2, 3, 4, 5, 6, 7, 8, 9, 10, 11, 12, 13, 14, 15], [15, 16])])
def spec_l7Draw.B6 : List Nat := [0, 1, 0, 0, 12, 0, 32, 0, 0, 256, 768, 1948, 4092, 8188, 16380, 32767, 65535, 131071]
theorem spec_l7Draw.tab6 : rtab .any (opsOf Try.f115 6) = spec_l7Draw.T6 := by kernel_rfl
theorem spec_l7Draw.bits6 : waitsOk spec_l7Draw.T6.2 spec_l7Draw.B6 = true := by kernel_rfl
set_option maxHeartbeats 8000000 in
set_option maxRecDepth 100000 in
theorem spec_l7Draw.calls (k : Nat) (g : Nat) (s0_0 : List Int) (s0_1 : Int) (a1 : Int) (r1 : Int) (r2 : List (S92)) (r3 : Int) (w0 w : World) (hI : IsS121 w0 w g s0_0 s0_1) (hB : Below w0.heap.size w0 w) (h : spec_l7Draw.f k s0_0 s0_1 a1 = some (r1, r2, r3)) :
  Calls Try.prog 115 #[.pointer (some ⟨g, 0, none⟩), .int .i64 a1] w fun e w' => ∃ v1_ : Value, e = .returned (.agg #[.int .i64 r1, v1_]) ∧ Kd.R k92 92 w' w.heap.size (fun _ => True) v1_ r2 ∧ IsS121 w0 w' g s0_0 r3 ∧ Below w0.heap.size w0 w' ∧ KeepBut w w' g none := by
 have hu28 := Try.underlying28
 have hu92 := Try.underlying92
 have HI0 := Aside0.mk hI
 have HK := Aside0.mk (KeepBut.refl w g none)
 have HL := Aside0.mk hB.size
 clear hI
 have HW0 := Aside0.mk hB.size
 have HB := Aside0.mk hB
 clear hB
 have H : ((spec_l40Rd_pick.f k s0_0 s0_1 (wrap64 (a1 + 1))).bind fun bt227 => ((spec_l40Rd_num.f k s0_0 bt227.2 (([3, 6, 10, 1, 14, 0] : List Int))).bind fun bt233 => (spec_l7Draw.l0 k bt233.1 s0_0 bt233.2 bt227.1 ([] : List (S92))))) = some (r1, r2, r3) := h
 clear h
 replace H := Option.bind_eq_some_iff.mp H
 obtain ⟨⟨t227, t228⟩, A30, H⟩ := H
 replace H : ((spec_l40Rd_num.f k s0_0 t228 (([3, 6, 10, 1, 14, 0] : List Int))).bind fun bt233 => (spec_l7Draw.l0 k bt233.1 s0_0 bt233.2 t227 ([] : List (S92)))) = some (r1, r2, r3) := H
 have A3 := Aside0.mk A30
 clear A30
 obtain ⟨y230, hy230⟩ : ∃ y_ : List Int, y_ = (([3, 6, 10, 1, 14, 0] : List Int)) := ⟨_, rfl⟩
 replace H : ((spec_l40Rd_num.f k s0_0 t228 y230).bind fun bt233 => (spec_l7Draw.l0 k bt233.1 s0_0 bt233.2 t227 ([] : List (S92)))) = some (r1, r2, r3) := by first | (rw [hy230]; with_reducible exact H) | (have H2_ := (Option.bind_some _ _).symm.trans H; rw [hy230]; with_reducible exact H2_) | (have H2_ := (Option.bind_some _ _).symm.trans H; with_reducible exact H2_) | with_reducible exact H | (rw [hy230]; exact H) | exact H
 have Ny230 := Aside0.mk hy230
 clear hy230
 replace H := Option.bind_eq_some_iff.mp H
 obtain ⟨⟨t233, t234⟩, A40, H⟩ := H
 replace H : (spec_l7Draw.l0 k t233 s0_0 t234 t227 ([] : List (S92))) = some (r1, r2, r3) := H
 have A4 := Aside0.mk A40
 clear A40
 have H' := Aside0.mk H
 clear H
 go_enter Try.func115, Try.ntmps115
 go_wp2_with (first | ((with_reducible refine gate_dst (N := 4) rfl ?_); refine box_event ?hg (N := 4) ?hd (cs := #[.int .i64 0, .slice none 0 0]) (t := 28) ?hr ?_; (case hd => rfl); (case hg => rfl); (case hr => first | (go_simp; done) | (go_simp; rfl)); intro gb226 hg w5 hbox hb; have n0_ := Aside0.mk (IsS121.below (by repeat (first | (with_reducible first | exact HI0.out | apply IsS121.alloc | apply IsS121.drewN | apply IsS121.drew | apply IsS121.set_1) | exact HI0.out)) hb); have n1_ := Aside0.mk (KeepBut.trans (by repeat (first | (with_reducible first | exact HK.out | apply KeepBut.set_ | apply keep_drewN | apply keep_drew | apply keep_alloc) | exact HK.out)) (KeepBut.of_below hb g none) (.inl rfl)); have n2_ := Aside0.mk (below_step (by repeat (first | (with_reducible first | exact HB.out | apply bwA | apply bwN | apply bwD | refine below_set ?_ (IsS121.ge HI0.out)) | exact HB.out)) hb); have n3_ := Aside0.mk (hbox); have n4_ := Aside0.mk ((by rw [hg]; exact (keep_size (w := w) (g := g) (row := none) (by repeat (first | (with_reducible first | exact HK.out | apply KeepBut.set_ | apply keep_drewN | apply keep_drew | apply keep_alloc) | exact HK.out))) : w.heap.size ≤ gb226)); have n5_ := Aside0.mk ((Nat.le_trans HW0.out (by rw [hg]; exact (keep_size (w := w) (g := g) (row := none) (by repeat (first | (with_reducible first | exact HK.out | apply KeepBut.set_ | apply keep_drewN | apply keep_drew | apply keep_alloc) | exact HK.out))) : w.heap.size ≤ gb226) : w0.heap.size ≤ gb226)); have n6_ := Aside0.mk ((by rw [hg]; exact Nat.ne_of_lt (IsS121.lt (show IsS121 w0 _ g s0_0 s0_1 from by repeat (first | (with_reducible first | exact HI0.out | apply IsS121.alloc | apply IsS121.drewN | apply IsS121.drew | apply IsS121.set_1) | exact HI0.out))) : g ≠ gb226)); have n7_ := Aside0.mk ((by rw [hg]; exact Nat.ne_of_gt (IsS121.lt (show IsS121 w0 _ g s0_0 s0_1 from by repeat (first | (with_reducible first | exact HI0.out | apply IsS121.alloc | apply IsS121.drewN | apply IsS121.drew | apply IsS121.set_1) | exact HI0.out))) : gb226 ≠ g)); clear HI0; clear HK; clear HB; have HI0 := n0_; have HK := n1_; have HB := n2_; have BK226 := n3_; have GW226 := n4_; have GE226 := n5_; have NB0_226 := n6_; have NB226_0 := n7_; clear n0_ n1_ n2_ n3_ n4_ n5_ n6_ n7_; clear hb hbox hg) | ((with_reducible refine gate_callee (f := 79) rfl ?_); refine goesL_ (some 11) rfl rfl Try.func79 (by kernel_rfl) rfl #[.pointer (some ⟨g, 0, none⟩), .int .i64 (wrap64 (a1 + 1))] rfl lmB ?_; (with_reducible refine (spec_l40Rd_pick.calls k g s0_0 s0_1 (wrap64 (a1 + 1)) t227 t228 w0 _ ?side1 ?side2 A3.out).mono ?_); (case side1 => repeat (first | (with_reducible first | exact HI0.out | apply IsS121.alloc | apply IsS121.drewN | apply IsS121.drew | apply IsS121.set_1 | refine IsS121.far ?_ NB0_226.out _) | exact HI0.out)); (case side2 => repeat (first | (with_reducible first | exact HB.out | apply bwA | apply bwN | apply bwD | refine below_set ?_ (IsS121.ge HI0.out) | refine below_set ?_ GE226.out) | exact HB.out)); rintro e w6 ⟨rfl, hi, hb, hk⟩; refine ⟨_, rfl, ?_⟩; have n0_ := Aside0.mk (KeepBut.blk hk (g' := gb226) (o := .cells #[.int .i64 0, .slice none 0 0] 28 (0, 0)) (bvK BK226.out) NB226_0.out (by simp)); have n1_ := Aside0.mk (KeepBut.trans (by repeat (first | (with_reducible first | exact HK.out | apply KeepBut.set_ | apply keep_drewN | apply keep_drew | apply keep_alloc | refine keep_far ?_ GW226.out _) | exact HK.out)) hk (.inl rfl)); have n2_ := Aside0.mk (hb); have n3_ := Aside0.mk (hi); clear BK226; clear HK; clear HB; clear HI0; have BK226 := n0_; have HK := n1_; have HB := n2_; have HI0 := n3_; clear n0_ n1_ n2_ n3_; (try clear hb); (try clear hb2); (try clear hk); (try clear hi)) | ((with_reducible refine gate_dst (N := 5) rfl ?_); refine box_event ?hg (N := 5) ?hd (cs := #[.int .i64 0, .slice none 0 0]) (t := 28) ?hr ?_; (case hd => rfl); (case hg => rfl); (case hr => first | (go_simp; done) | (go_simp; rfl)); intro gb229 hg w7 hbox hb; have n0_ := Aside0.mk (IsS121.below (by repeat (first | (with_reducible first | exact HI0.out | apply IsS121.alloc | apply IsS121.drewN | apply IsS121.drew | apply IsS121.set_1 | refine IsS121.far ?_ NB0_226.out _) | exact HI0.out)) hb); have n1_ := Aside0.mk (blk_below (g := gb226) (o := .cells #[.int .i64 0, .slice none 0 0] 28 (0, 0)) (bvK BK226.out) hb); have n2_ := Aside0.mk (KeepBut.trans (by repeat (first | (with_reducible first | exact HK.out | apply KeepBut.set_ | apply keep_drewN | apply keep_drew | apply keep_alloc | refine keep_far ?_ GW226.out _) | exact HK.out)) (KeepBut.of_below hb g none) (.inl rfl)); have n3_ := Aside0.mk (below_step (by repeat (first | (with_reducible first | exact HB.out | apply bwA | apply bwN | apply bwD | refine below_set ?_ (IsS121.ge HI0.out) | refine below_set ?_ GE226.out) | exact HB.out)) hb); have n4_ := Aside0.mk (hbox); have n5_ := Aside0.mk ((by rw [hg]; exact (keep_size (w := w) (g := g) (row := none) (by repeat (first | (with_reducible first | exact HK.out | apply KeepBut.set_ | apply keep_drewN | apply keep_drew | apply keep_alloc | refine keep_far ?_ GW226.out _) | exact HK.out))) : w.heap.size ≤ gb229)); have n6_ := Aside0.mk ((Nat.le_trans HW0.out (by rw [hg]; exact (keep_size (w := w) (g := g) (row := none) (by repeat (first | (with_reducible first | exact HK.out | apply KeepBut.set_ | apply keep_drewN | apply keep_drew | apply keep_alloc | refine keep_far ?_ GW226.out _) | exact HK.out))) : w.heap.size ≤ gb229) : w0.heap.size ≤ gb229)); have n7_ := Aside0.mk ((by rw [hg]; exact Nat.ne_of_lt (blk_lt (g := gb226) (o := .cells #[.int .i64 0, .slice none 0 0] 28 (0, 0)) (bvK BK226.out)) : gb226 ≠ gb229)); have n8_ := Aside0.mk ((by rw [hg]; exact Nat.ne_of_gt (blk_lt (g := gb226) (o := .cells #[.int .i64 0, .slice none 0 0] 28 (0, 0)) (bvK BK226.out)) : gb229 ≠ gb226)); have n9_ := Aside0.mk ((by rw [hg]; exact Nat.ne_of_lt (IsS121.lt (show IsS121 w0 _ g s0_0 t228 from by repeat (first | (with_reducible first | exact HI0.out | apply IsS121.alloc | apply IsS121.drewN | apply IsS121.drew | apply IsS121.set_1 | refine IsS121.far ?_ NB0_226.out _) | exact HI0.out))) : g ≠ gb229)); have n10_ := Aside0.mk ((by rw [hg]; exact Nat.ne_of_gt (IsS121.lt (show IsS121 w0 _ g s0_0 t228 from by repeat (first | (with_reducible first | exact HI0.out | apply IsS121.alloc | apply IsS121.drewN | apply IsS121.drew | apply IsS121.set_1 | refine IsS121.far ?_ NB0_226.out _) | exact HI0.out))) : gb229 ≠ g)); clear HI0; clear BK226; clear HK; clear HB; have HI0 := n0_; have BK226 := n1_; have HK := n2_; have HB := n3_; have BK229 := n4_; have GW229 := n5_; have GE229 := n6_; have NB226_229 := n7_; have NB229_226 := n8_; have NB0_229 := n9_; have NB229_0 := n10_; clear n0_ n1_ n2_ n3_ n4_ n5_ n6_ n7_ n8_ n9_ n10_; clear hb hbox hg; have hnb8 := NB229_226.out; have hnc8 := NB226_229.out; have hnb9 := NB229_0.out; have hnc9 := NB0_229.out; have hcz10_0 : w7.cell? ⟨gb229, 0, none⟩ = some (.int .i64 0) := (blk_cell BK229.out 0).trans rfl; have hcz10_1 : w7.cell? ⟨gb229, 1, none⟩ = some (.slice none 0 0) := (blk_cell BK229.out 1).trans rfl; have hfz10_0 := blk_frozen BK229.out 0; have hfz10_1 := blk_frozen BK229.out 1) | ((with_reducible refine gate_dst (N := 14) rfl ?_); refine Kd.R_lit (Kd.int .i64) _ 3 ?hg (N := 14) ?hd (xs := ([3, 6, 10, 1, 14, 0] : List Int)) (inner := [.int .i64 3, .int .i64 6, .int .i64 10, .int .i64 1, .int .i64 14, .int .i64 0]) (ok := fun _ => True) (okp := fun _ => True) ?hr ?hp (fun _ hk => hk) trivial (Below.refl _ _) (Nat.le_refl _) (by simp) ?_; (case hd => rfl); (case hg => rfl); (case hr => first | (go_simp; done) | (go_simp; rfl)); (case hp => exact (Reps.one (show Kd.M (Kd.int .i64) _ _ _ 3 [.int .i64 3] from rfl) (Reps.one (show Kd.M (Kd.int .i64) _ _ _ 6 [.int .i64 6] from rfl) (Reps.one (show Kd.M (Kd.int .i64) _ _ _ 10 [.int .i64 10] from rfl) (Reps.one (show Kd.M (Kd.int .i64) _ _ _ 1 [.int .i64 1] from rfl) (Reps.one (show Kd.M (Kd.int .i64) _ _ _ 14 [.int .i64 14] from rfl) (Reps.one (show Kd.M (Kd.int .i64) _ _ _ 0 [.int .i64 0] from rfl) (Reps.none _ _)))))))); intro v231 w11 ho12 hb hg_ hnew_; clear hg_ hnew_; (first | rw [← Ny230.out] at ho12 | (simp only [Int.reduceToNat] at ho12; rw [← Ny230.out] at ho12)); have n0_ := Aside0.mk (Kd.R_lower ho12 (keep_size (w := w) (g := g) (row := none) (by repeat (first | (with_reducible first | exact HK.out | apply KeepBut.set_ | apply keep_drewN | apply keep_drew | apply keep_alloc | refine keep_far ?_ GW226.out _ | refine keep_far ?_ GW229.out _) | exact HK.out)))); have n1_ := Aside0.mk (IsS121.below (show IsS121 w0 ((w7.setCell ⟨gb229, 0, none⟩ (.int .i64 t227)).setCell ⟨gb229, 1, none⟩ (.slice none 0 0)) g s0_0 t228 from by repeat (first | (with_reducible first | exact HI0.out | apply IsS121.alloc | apply IsS121.drewN | apply IsS121.drew | apply IsS121.set_1 | refine IsS121.far ?_ NB0_226.out _ | refine IsS121.far ?_ NB0_229.out _) | exact HI0.out)) hb); have n2_ := Aside0.mk (blk_below (g := gb226) (o := .cells #[.int .i64 0, .slice none 0 0] 28 (0, 0)) (by (with_reducible repeat (first | refine blk_drewN ?_ _ | refine blk_drew ?_ | refine blk_alloc ?_ _)); refine blk_far ?_ NB226_229.out _; (with_reducible repeat (first | refine blk_drewN ?_ _ | refine blk_drew ?_ | refine blk_alloc ?_ _)); refine blk_far ?_ NB226_229.out _; (with_reducible repeat (first | refine blk_drewN ?_ _ | refine blk_drew ?_ | refine blk_alloc ?_ _)); exact BK226.out) hb); have n3_ := Aside0.mk (blk_below (g := gb229) (o := .cells #[.int .i64 t227, .slice none 0 0] 28 (0, 0)) (by (with_reducible repeat (first | refine blk_drewN ?_ _ | refine blk_drew ?_ | refine blk_alloc ?_ _)); refine blk_put (cs := #[.int .i64 t227, .slice none 0 0]) ?_ 1 _ rfl; (with_reducible repeat (first | refine blk_drewN ?_ _ | refine blk_drew ?_ | refine blk_alloc ?_ _)); refine blk_put (cs := #[.int .i64 0, .slice none 0 0]) ?_ 0 _ rfl; (with_reducible repeat (first | refine blk_drewN ?_ _ | refine blk_drew ?_ | refine blk_alloc ?_ _)); exact BK229.out) hb); have n4_ := Aside0.mk (KeepBut.trans (by repeat (first | (with_reducible first | exact HK.out | apply KeepBut.set_ | apply keep_drewN | apply keep_drew | apply keep_alloc | refine keep_far ?_ GW226.out _ | refine keep_far ?_ GW229.out _) | exact HK.out)) (KeepBut.of_below hb g none) (.inl rfl)); have n5_ := Aside0.mk (below_step (by repeat (first | (with_reducible first | exact HB.out | apply bwA | apply bwN | apply bwD | refine below_set ?_ (IsS121.ge HI0.out) | refine below_set ?_ GE226.out | refine below_set ?_ GE229.out) | exact HB.out)) hb); clear HI0; clear BK226; clear BK229; clear HK; clear HB; have HO232 := n0_; have HI0 := n1_; have BK226 := n2_; have BK229 := n3_; have HK := n4_; have HB := n5_; clear n0_ n1_ n2_ n3_ n4_ n5_; clear hb ho12; obtain ⟨Ao13, co13, eo13⟩ := Kd.R_slice HO232.out; subst eo13) | ((with_reducible refine gate_callee (f := 80) rfl ?_); refine goesL_ (some 15) rfl rfl Try.func80 (by kernel_rfl) rfl #[.pointer (some ⟨g, 0, none⟩), .slice Ao13 y230.length co13] rfl lmB ?_; (with_reducible refine (spec_l40Rd_num.calls k g s0_0 t228 _ _ y230 t233 t234 w0 _ ?side1 ?side2 ?side3 ?side4 ?side5 A4.out).mono ?_); (case side1 => repeat (first | (with_reducible first | exact HI0.out | apply IsS121.alloc | apply IsS121.drewN | apply IsS121.drew | apply IsS121.set_1 | refine IsS121.far ?_ NB0_226.out _ | refine IsS121.far ?_ NB0_229.out _) | exact HI0.out)); (case side2 => repeat (first | (with_reducible first | exact HB.out | apply bwA | apply bwN | apply bwD | refine below_set ?_ (IsS121.ge HI0.out) | refine below_set ?_ GE226.out | refine below_set ?_ GE229.out) | exact HB.out)); (case side3 => exact kcR (Kd.R_reads' HO232.out).2.2); (case side4 => exact (Kd.R_reads' HO232.out).2.1); (case side5 => exact far_slice (IsS121.own_ne HI0.out HO232.out (by decide))); rintro e w14 ⟨rfl, hi, hb, hk⟩; refine ⟨_, rfl, ?_⟩; have n0_ := Aside0.mk (KeepBut.blk hk (g' := gb226) (o := .cells #[.int .i64 0, .slice none 0 0] 28 (0, 0)) (bvK BK226.out) NB226_0.out (by simp)); have n1_ := Aside0.mk (KeepBut.blk hk (g' := gb229) (o := .cells #[.int .i64 t227, .slice none 0 0] 28 (0, 0)) (bvK BK229.out) NB229_0.out (by simp)); have n2_ := Aside0.mk (Kd.R_mono (Kd.R_keep (IsS121.apart (show IsS121 w0 _ g s0_0 t228 from by repeat (first | (with_reducible first | exact HI0.out | apply IsS121.alloc | apply IsS121.drewN | apply IsS121.drew | apply IsS121.set_1 | refine IsS121.far ?_ NB0_226.out _ | refine IsS121.far ?_ NB0_229.out _) | exact HI0.out)) (rvR HO232.out) (by decide)) hk (fun _ h => h.2)) (fun _ h => h.1)); have n3_ := Aside0.mk (KeepBut.trans (by repeat (first | (with_reducible first | exact HK.out | apply KeepBut.set_ | apply keep_drewN | apply keep_drew | apply keep_alloc | refine keep_far ?_ GW226.out _ | refine keep_far ?_ GW229.out _) | exact HK.out)) hk (.inl rfl)); have n4_ := Aside0.mk (hb); have n5_ := Aside0.mk (hi); clear BK226; clear BK229; clear HO232; clear HK; clear HB; clear HI0; have BK226 := n0_; have BK229 := n1_; have HO232 := n2_; have HK := n3_; have HB := n4_; have HI0 := n5_; clear n0_ n1_ n2_ n3_ n4_ n5_; (try clear hb); (try clear hb2); (try clear hk); (try clear hi)))
 go_loopg [6] k (fun kq v6 w' => ∃ (x6_1 : Int) (x1001_1 : Int) (x230001_1 : List (S92)) (u230001 : Value), v6 = .int .i64 x6_1 ∧ Aside0 (spec_l7Draw.l0 kq x6_1 s0_0 x1001_1 t227 x230001_1 = some (r1, r2, r3)) ∧ Aside0 (kq ≤ k) ∧ Aside0 (Kd.R k92 92 w' w.heap.size (fun _ => True) u230001 x230001_1) ∧ Aside0 (w'.heap[gb226]? = some (.cells #[.int .i64 0, (.slice none 0 0)] 28 (0, 0))) ∧ Aside0 (w'.heap[gb229]? = some (.cells #[.int .i64 t227, u230001] 28 (0, 0))) ∧ Aside0 (IsS121 w0 w' g s0_0 x1001_1) ∧ Aside0 (KeepBut w w' g none) ∧ Aside0 (Below w0.heap.size w0 w'))
 case atStart => exact ⟨(t233), (t234), (([] : List (S92))), (.slice none 0 0), rsd, H', ⟨Nat.le_refl _⟩, ⟨by first | exact Kd.R_nil _ _ _ _ _ | exact Kd.N_nil _ _ _ _ _ | exact Kd.V_nil _ _ _ _ _ | exact Kd.Q_nil _ _ _ _ _ | exact Kd.S_nil _ _ _ _ _⟩, ⟨bvK BK226.out⟩, ⟨bvK BK229.out⟩, ⟨by repeat (first | (with_reducible first | exact HI0.out | apply IsS121.alloc | apply IsS121.drewN | apply IsS121.drew | apply IsS121.set_1 | refine IsS121.far ?_ NB0_226.out _ | refine IsS121.far ?_ NB0_229.out _) | exact HI0.out)⟩, ⟨by repeat (first | (with_reducible first | exact HK.out | apply KeepBut.set_ | apply keep_drewN | apply keep_drew | apply keep_alloc | refine keep_far ?_ GW226.out _ | refine keep_far ?_ GW229.out _) | exact HK.out)⟩, ⟨by repeat (first | (with_reducible first | exact HB.out | apply bwA | apply bwN | apply bwD | refine below_set ?_ (IsS121.ge HI0.out) | refine below_set ?_ GE226.out | refine below_set ?_ GE229.out) | exact HB.out)⟩⟩
 case round =>
  clear H'
  try clear c1
  try clear p2
  try clear p6
  try clear c7
  try clear c8
  try clear c9
  try clear c11
  try clear hcz10_0
  try clear hcz10_1
  try clear hfz10_0
  try clear hfz10_1
  obtain ⟨x6_1, x1001_1, x230001_1, u230001, rfl, HA, HK1, HO_230001, BK226, BK229, HI0, HK, HB⟩ := hrel
  cases gk with
  | zero => exact absurd HA.out (by simp [spec_l7Draw.l0])
  | succ k1 =>
   have H := HA.out
   clear HA
   simp only [spec_l7Draw.l0] at H
   by_cases c15 : x6_1 > 0
   ·rw [if_pos c15] at H
    have c15b0 : decide (0 < x6_1) = true := decide_eq_true c15
    clear c15
    replace H := Option.bind_eq_some_iff.mp H
    obtain ⟨t235, A160, H⟩ := H
    replace H : ((spec_l40Rd_pick.f k1 s0_0 x1001_1 (wrap64 (2 * t235))).bind fun bt236 => ((spec_l40Rd_pick.f k1 s0_0 bt236.2 (wrap64 (Int.tdiv (wrap64 ((wrap64 (2 * t235)) + 1)) 2))).bind fun bt238 => (if x230001_1.length < 8796093022208 then (spec_l7Draw.l0 k1 (wrap64 (x6_1 - 1)) s0_0 bt238.2 t227 (x230001_1 ++ [(⟨bt236.1, wrap64 ((wrap64 ((wrap64 (2 * t235)) - 1)) - bt238.1)⟩ : S92)])) else (none)))) = some (r1, r2, r3) := H
    have A16 := Aside0.mk A160
    clear A160
    replace H := Option.bind_eq_some_iff.mp H
    obtain ⟨⟨t236, t237⟩, A170, H⟩ := H
    replace H : ((spec_l40Rd_pick.f k1 s0_0 t237 (wrap64 (Int.tdiv (wrap64 ((wrap64 (2 * t235)) + 1)) 2))).bind fun bt238 => (if x230001_1.length < 8796093022208 then (spec_l7Draw.l0 k1 (wrap64 (x6_1 - 1)) s0_0 bt238.2 t227 (x230001_1 ++ [(⟨t236, wrap64 ((wrap64 ((wrap64 (2 * t235)) - 1)) - bt238.1)⟩ : S92)])) else (none))) = some (r1, r2, r3) := H
    have A17 := Aside0.mk A170
    clear A170
    replace H := Option.bind_eq_some_iff.mp H
    obtain ⟨⟨t238, t239⟩, A180, H⟩ := H
    replace H : (if x230001_1.length < 8796093022208 then (spec_l7Draw.l0 k1 (wrap64 (x6_1 - 1)) s0_0 t239 t227 (x230001_1 ++ [(⟨t236, wrap64 ((wrap64 ((wrap64 (2 * t235)) - 1)) - t238)⟩ : S92)])) else (none)) = some (r1, r2, r3) := H
    have A18 := Aside0.mk A180
    clear A180
    by_cases c19 : x230001_1.length < 8796093022208
    ·rw [if_pos c19] at H
     have LMc19 := Aside0.mk c19
     clear c19
     obtain ⟨y240, hy240⟩ : ∃ y_ : List (S92), y_ = (x230001_1 ++ [(⟨t236, wrap64 ((wrap64 ((wrap64 (2 * t235)) - 1)) - t238)⟩ : S92)]) := ⟨_, rfl⟩
     replace H : (spec_l7Draw.l0 k1 (wrap64 (x6_1 - 1)) s0_0 t239 t227 y240) = some (r1, r2, r3) := by first | (rw [hy240]; with_reducible exact H) | (have H2_ := (Option.bind_some _ _).symm.trans H; rw [hy240]; with_reducible exact H2_) | (have H2_ := (Option.bind_some _ _).symm.trans H; with_reducible exact H2_) | with_reducible exact H | (rw [hy240]; exact H) | exact H
     have Ny240 := Aside0.mk hy240
     clear hy240
     have H' := Aside0.mk H
     clear H
     have hnb20 := NB229_226.out
     have hnc20 := NB226_229.out
     have hnb21 := NB229_0.out
     have hnc21 := NB0_229.out
     have hcz22_0 : wr.cell? ⟨gb229, 0, none⟩ = some (.int .i64 t227) := (blk_cell BK229.out 0).trans rfl
     have hcz22_1 : wr.cell? ⟨gb229, 1, none⟩ = some (u230001) := (blk_cell BK229.out 1).trans rfl
     have hfz22_0 := blk_frozen BK229.out 0
     have hfz22_1 := blk_frozen BK229.out 1
     obtain ⟨Ao23, co23, eo23⟩ := Kd.R_slice HO_230001.out
     subst eo23
     try go_wp2_with (first | ((with_reducible refine gate_callee (f := 105) rfl ?_); refine goesL_ (some 21) rfl rfl Try.func105 (by kernel_rfl) rfl #[.agg #[.int .i64 t227, .slice Ao23 x230001_1.length co23]] rfl lmB ?_; (with_reducible refine (spec_l7Nodes.calls t227 _ _ x230001_1 t235 _ ?side1 ?side2 A16.out).mono ?_); (case side1 => exact kcR (Kd.R_reads' HO_230001.out).2.2); (case side2 => exact (Kd.R_reads' HO_230001.out).2.1); rintro e w24 ⟨rfl, hb⟩; refine ⟨_, rfl, ?_⟩; have n0_ := Aside0.mk (Kd.R_below (rvR HO_230001.out) hb); have n1_ := Aside0.mk (blk_below (g := gb226) (o := .cells #[.int .i64 0, .slice none 0 0] 28 (0, 0)) (bvK BK226.out) hb); have n2_ := Aside0.mk (blk_below (g := gb229) (o := .cells #[.int .i64 t227, .slice Ao23 x230001_1.length co23] 28 (0, 0)) (bvK BK229.out) hb); have n3_ := Aside0.mk (IsS121.below (by repeat (first | (with_reducible first | exact HI0.out | apply IsS121.alloc | apply IsS121.drewN | apply IsS121.drew | apply IsS121.set_1 | refine IsS121.far ?_ NB0_226.out _ | refine IsS121.far ?_ NB0_229.out _) | exact HI0.out)) hb); have n4_ := Aside0.mk (KeepBut.trans (by repeat (first | (with_reducible first | exact HK.out | apply KeepBut.set_ | apply keep_drewN | apply keep_drew | apply keep_alloc | refine keep_far ?_ GW226.out _ | refine keep_far ?_ GW229.out _) | exact HK.out)) (KeepBut.of_below hb g none) (.inl rfl)); have n5_ := Aside0.mk (below_step (by repeat (first | (with_reducible first | exact HB.out | apply bwA | apply bwN | apply bwD | refine below_set ?_ (IsS121.ge HI0.out) | refine below_set ?_ GE226.out | refine below_set ?_ GE229.out) | exact HB.out)) hb); clear HO_230001; clear BK226; clear BK229; clear HI0; clear HK; clear HB; have HO_230001 := n0_; have BK226 := n1_; have BK229 := n2_; have HI0 := n3_; have HK := n4_; have HB := n5_; clear n0_ n1_ n2_ n3_ n4_ n5_; (try clear hb); (try clear hb2); (try clear hk); (try clear hi)))
     have n0_ := Aside0.mk (Kd.R_drew HO_230001.out)
     have n1_ := Aside0.mk (blk_drew BK226.out)
     have n2_ := Aside0.mk (blk_drew BK229.out)
     have n3_ := Aside0.mk (IsS121.drew HI0.out)
     have n4_ := Aside0.mk (keep_drew HK.out)
     have n5_ := Aside0.mk (below_drew1 HB.out)
     clear HO_230001
     clear BK226
     clear BK229
     clear HI0
     clear HK
     clear HB
     have HO_230001 := n0_
     have BK226 := n1_
     have BK229 := n2_
     have HI0 := n3_
     have HK := n4_
     have HB := n5_
     clear n0_ n1_ n2_ n3_ n4_ n5_
     refine start_ (n := 18) (S := fun w' => w'.cell? ⟨gb229, 0, none⟩ = some (.int .i64 t227) ∧ w'.cell? ⟨gb229, 1, none⟩ = some (.slice Ao23 x230001_1.length co23)) (ds := [17]) (Pt.bm 18 0) (by kernel_rfl) rfl rfl ⟨(blk_cell BK229.out 0).trans rfl, (blk_cell BK229.out 1).trans rfl⟩ (fun hHeld => ?_); refine with_tabW spec_l7Draw.tab6 spec_l7Draw.bits6 (fun HT_ HW_ => ?_)
     generalize w24.drew = w25 at HO_230001 BK226 BK229 HI0 HK HB hHeld ⊢
     refine Pt.pu 0 (some 23) (Pt.bm 18 1) (any_of HT_.out (by kernel_rfl)) ?_
     refine Pt.pu 2 (some 25) (Pt.bm 18 5) (any_of HT_.out (by kernel_rfl)) ?_
     refine Pt.pu 3 (some 26) (Pt.bm 18 13) (any_of HT_.out (by kernel_rfl)) ?_
     refine Pt.pu 5 (some 28) (Pt.bm 18 45) (any_of HT_.out (by kernel_rfl)) ?_
     refine Pt.pu 6 (some 29) (Pt.bm 18 109) (any_of HT_.out (by kernel_rfl)) ?_
     refine Pt.pu 7 (some 30) (Pt.bm 18 237) (any_of HT_.out (by kernel_rfl)) ?_
     refine Pt.pu 8 (some 31) (Pt.bm 18 493) (any_of HT_.out (by kernel_rfl)) ?_
     refine Pt.pu 9 (some 32) (Pt.bm 18 1005) (any_of HT_.out (by kernel_rfl)) ?_
     refine Pt.pu 10 (some 33) (Pt.bm 18 2029) (any_of HT_.out (by kernel_rfl)) ?_
     refine Pt.tk 1 (some 24) (Pt.bm 18 2031) rfl rfl (take_ofW HT_.out HW_.out (by kernel_rfl)) hHeld (Or.inl ⟨by rfl, by rintro w' ⟨s0, s1⟩; go_simp; with_reducible rfl⟩) ?_
     refine one_ (i := 4) (N := some 27) (Pt.bm 18 2047) rfl rfl (one_of HT_.out (by kernel_rfl)) (by decide) (fun K hK => ?_)
     refine goes_ Try.func79 (by kernel_rfl) rfl #[.pointer (some ⟨g, 0, none⟩), .int .i64 (wrap64 (2 * t235))] (by rfl) rfl rfl lmB ?_
     with_reducible refine (spec_l40Rd_pick.calls k1 g s0_0 x1001_1 (wrap64 (2 * t235)) t236 t237 w0 _ ?side1 ?side2 A17.out).mono ?_
     (case side1 => repeat (first | (with_reducible first | exact HI0.out | apply IsS121.alloc | apply IsS121.drewN | apply IsS121.drew | apply IsS121.set_1 | refine IsS121.far ?_ NB0_226.out _ | refine IsS121.far ?_ NB0_229.out _) | exact HI0.out))
     (case side2 => repeat (first | (with_reducible first | exact HB.out | apply bwA | apply bwN | apply bwD | refine below_set ?_ (IsS121.ge HI0.out) | refine below_set ?_ GE226.out | refine below_set ?_ GE229.out) | exact HB.out))
     rintro e w26 ⟨rfl, hi, hb, hk⟩
     refine ⟨_, rfl, ?_⟩
     have n0_ := Aside0.mk (Kd.R_mono (Kd.R_keep (IsS121.apart (show IsS121 w0 _ g s0_0 x1001_1 from by repeat (first | (with_reducible first | exact HI0.out | apply IsS121.alloc | apply IsS121.drewN | apply IsS121.drew | apply IsS121.set_1 | refine IsS121.far ?_ NB0_226.out _ | refine IsS121.far ?_ NB0_229.out _) | exact HI0.out)) (rvR HO_230001.out) (by decide)) hk (fun _ h => h.2)) (fun _ h => h.1))
     have n1_ := Aside0.mk (KeepBut.blk hk (g' := gb226) (o := .cells #[.int .i64 0, .slice none 0 0] 28 (0, 0)) (bvK BK226.out) NB226_0.out (by simp))
     have n2_ := Aside0.mk (KeepBut.blk hk (g' := gb229) (o := .cells #[.int .i64 t227, .slice Ao23 x230001_1.length co23] 28 (0, 0)) (bvK BK229.out) NB229_0.out (by simp))
     have n3_ := Aside0.mk (KeepBut.trans (by repeat (first | (with_reducible first | exact HK.out | apply KeepBut.set_ | apply keep_drewN | apply keep_drew | apply keep_alloc | refine keep_far ?_ GW226.out _ | refine keep_far ?_ GW229.out _) | exact HK.out)) hk (.inl rfl))
     have n4_ := Aside0.mk (hb)
     have n5_ := Aside0.mk (hi)
     clear HO_230001
     clear BK226
     clear BK229
     clear HK
     clear HB
     clear HI0
     have HO_230001 := n0_
     have BK226 := n1_
     have BK229 := n2_
     have HK := n3_
     have HB := n4_
     have HI0 := n5_
     clear n0_ n1_ n2_ n3_ n4_ n5_
     (try clear hb)
     (try clear hb2)
     (try clear hk)
     (try clear hi)
     refine hK.out _ _ ⟨(blk_cell BK229.out 0).trans rfl, (blk_cell BK229.out 1).trans rfl⟩ (fun hHeld => ?_)
     clear hK K
     refine norm_ (a' := ?_) ?_ ?_
     rotate_left
     ·show Act.put _ (some 27) _ = _
      simp only [Act.put, List.setIfInBounds_toArray, List.set_cons_zero, List.set_cons_succ, i64_w, i32_w]
      rfl
     refine one_ (i := 11) (N := some 34) (Pt.bm 18 4095) rfl rfl (one_of HT_.out (by kernel_rfl)) (by decide) (fun K hK => ?_)
     refine goes_ Try.func79 (by kernel_rfl) rfl #[.pointer (some ⟨g, 0, none⟩), .int .i64 (wrap64 (Int.tdiv (wrap64 ((wrap64 (2 * t235)) + 1)) 2))] (by rfl) rfl rfl lmB ?_
     with_reducible refine (spec_l40Rd_pick.calls k1 g s0_0 t237 (wrap64 (Int.tdiv (wrap64 ((wrap64 (2 * t235)) + 1)) 2)) t238 t239 w0 _ ?side1 ?side2 A18.out).mono ?_
     (case side1 => repeat (first | (with_reducible first | exact HI0.out | apply IsS121.alloc | apply IsS121.drewN | apply IsS121.drew | apply IsS121.set_1 | refine IsS121.far ?_ NB0_226.out _ | refine IsS121.far ?_ NB0_229.out _) | exact HI0.out))
     (case side2 => repeat (first | (with_reducible first | exact HB.out | apply bwA | apply bwN | apply bwD | refine below_set ?_ (IsS121.ge HI0.out) | refine below_set ?_ GE226.out | refine below_set ?_ GE229.out) | exact HB.out))
     rintro e w27 ⟨rfl, hi, hb, hk⟩
     refine ⟨_, rfl, ?_⟩
     have n0_ := Aside0.mk (Kd.R_mono (Kd.R_keep (IsS121.apart (show IsS121 w0 _ g s0_0 t237 from by repeat (first | (with_reducible first | exact HI0.out | apply IsS121.alloc | apply IsS121.drewN | apply IsS121.drew | apply IsS121.set_1 | refine IsS121.far ?_ NB0_226.out _ | refine IsS121.far ?_ NB0_229.out _) | exact HI0.out)) (rvR HO_230001.out) (by decide)) hk (fun _ h => h.2)) (fun _ h => h.1))
     have n1_ := Aside0.mk (KeepBut.blk hk (g' := gb226) (o := .cells #[.int .i64 0, .slice none 0 0] 28 (0, 0)) (bvK BK226.out) NB226_0.out (by simp))
     have n2_ := Aside0.mk (KeepBut.blk hk (g' := gb229) (o := .cells #[.int .i64 t227, .slice Ao23 x230001_1.length co23] 28 (0, 0)) (bvK BK229.out) NB229_0.out (by simp))
     have n3_ := Aside0.mk (KeepBut.trans (by repeat (first | (with_reducible first | exact HK.out | apply KeepBut.set_ | apply keep_drewN | apply keep_drew | apply keep_alloc | refine keep_far ?_ GW226.out _ | refine keep_far ?_ GW229.out _) | exact HK.out)) hk (.inl rfl))
     have n4_ := Aside0.mk (hb)
     have n5_ := Aside0.mk (hi)
     clear HO_230001
     clear BK226
     clear BK229
     clear HK
     clear HB
     clear HI0
     have HO_230001 := n0_
     have BK226 := n1_
     have BK229 := n2_
     have HK := n3_
     have HB := n4_
     have HI0 := n5_
     clear n0_ n1_ n2_ n3_ n4_ n5_
     (try clear hb)
     (try clear hb2)
     (try clear hk)
     (try clear hi)
     refine hK.out _ _ ⟨(blk_cell BK229.out 0).trans rfl, (blk_cell BK229.out 1).trans rfl⟩ (fun hHeld => ?_)
     clear hK K
     refine norm_ (a' := ?_) ?_ ?_
     rotate_left
     ·show Act.put _ (some 34) _ = _
      simp only [Act.put, List.setIfInBounds_toArray, List.set_cons_zero, List.set_cons_succ, i64_w, i32_w]
      rfl
     refine Pt.pu 12 (some 35) (Pt.bm 18 8191) (any_of HT_.out (by kernel_rfl)) ?_
     refine Pt.pu 13 (some 36) (Pt.bm 18 16383) (any_of HT_.out (by kernel_rfl)) ?_
     refine one_ (i := 14) (N := some 37) (Pt.bm 18 32767) rfl rfl (one_of HT_.out (by kernel_rfl)) (by decide) (fun K hK => ?_)
     refine value_ (w1 := ?_) (v := ?_) (by rfl) rfl ?_ ?_
     rotate_left 2
     ·go_simp
      constructor
      ·rfl
      ·rfl
     refine hK.out _ _ ⟨(blk_cell (blk_alloc BK229.out _) 0).trans rfl, (blk_cell (blk_alloc BK229.out _) 1).trans rfl⟩ (fun hHeld => ?_)
     clear hK K
     refine norm_ (a' := ?_) ?_ ?_
     rotate_left
     ·show Act.put _ (some 37) _ = _
      simp only [Act.put, List.setIfInBounds_toArray, List.set_cons_zero, List.set_cons_succ, i64_w, i32_w]
      rfl
     refine one_ (i := 15) (N := some 38) (Pt.bm 18 65535) rfl rfl (one_of HT_.out (by kernel_rfl)) (by decide) (fun K hK => ?_)
     refine Kd.R_append_step k92 w.heap.size (by rfl) (.tmp 24) (.tmp 37) 26 92 (.agg #[(.int .i64 0), (.int .i64 0)]) 16 rfl Try.underlying26 info92 rfl (by decide) (by omega) (.slice Ao23 x230001_1.length co23) x230001_1 (⟨t236, wrap64 ((wrap64 ((wrap64 (2 * t235)) - 1)) - t238)⟩ : S92) [.int .i64 t236, .int .i64 (wrap64 ((wrap64 ((wrap64 (2 * t235)) - 1)) - t238))] (fun _ => True) (fun _ => False) rfl rfl ?aP (fun _ hk => hk.elim) ?aF ?aO (Below.refl _ _) ?aS ?aL ?_
     (case aP => exact k92_mkM _ _ _ (⟨t236, wrap64 ((wrap64 ((wrap64 (2 * t235)) - 1)) - t238)⟩ : S92))
     (case aF => exact (fun _ _ => trivial))
     (case aO => exact (rvR HO_230001.out))
     (case aS => exact (keep_size (w := w) (g := g) (row := none) (by repeat (first | (with_reducible first | exact HK.out | apply KeepBut.set_ | apply keep_drewN | apply keep_drew | apply keep_alloc | refine keep_far ?_ GW226.out _ | refine keep_far ?_ GW229.out _) | exact HK.out))))
     (case aL => have := LMc19.out; omega)
     intro v241 w28 ho hb hg hat
     rw [← Ny240.out] at ho
     have n0_ := Aside0.mk (blk_grown (g := gb226) (o := .cells #[.int .i64 0, .slice none 0 0] 28 (0, 0)) (bvK BK226.out) hg (Kd.R_ne HO_230001.out BK226.out (by decide)))
     have n1_ := Aside0.mk (blk_grown (g := gb229) (o := .cells #[.int .i64 t227, .slice Ao23 x230001_1.length co23] 28 (0, 0)) (bvK BK229.out) hg (Kd.R_ne HO_230001.out BK229.out (by decide)))
     have n2_ := Aside0.mk (IsS121.grown (by repeat (first | (with_reducible first | exact HI0.out | apply IsS121.alloc | apply IsS121.drewN | apply IsS121.drew | apply IsS121.set_1 | refine IsS121.far ?_ NB0_226.out _ | refine IsS121.far ?_ NB0_229.out _) | exact HI0.out)) hg (IsS121.own_ne HI0.out HO_230001.out (by decide)))
     have n3_ := Aside0.mk (below_weaken (by repeat (first | (with_reducible first | exact HB.out | apply bwA | apply bwN | apply bwD | refine below_set ?_ (IsS121.ge HI0.out) | refine below_set ?_ GE226.out | refine below_set ?_ GE229.out) | exact HB.out)) HL.out hb)
     have n4_ := Aside0.mk (KeepBut.trans (by repeat (first | (with_reducible first | exact HK.out | apply KeepBut.set_ | apply keep_drewN | apply keep_drew | apply keep_alloc | refine keep_far ?_ GW226.out _ | refine keep_far ?_ GW229.out _) | exact HK.out)) (KeepBut.of_grown hg g) (Kd.R_base2 HO_230001.out))
     have n5_ := Aside0.mk (ho)
     clear BK226
     clear BK229
     clear HI0
     clear HB
     clear HK
     clear HO_230001
     have BK226 := n0_
     have BK229 := n1_
     have HI0 := n2_
     have HB := n3_
     have HK := n4_
     have HO242 := n5_
     clear n0_ n1_ n2_ n3_ n4_ n5_
     clear ho hb hg hat
     obtain ⟨Ao29, co29, eo29⟩ := Kd.R_slice HO242.out
     (first | subst eo29 | (injection eo29 with f1_ f2_ f3_; have f4_ := f1_.symm; have f5_ := f3_.symm; clear f1_ f2_ f3_; subst f4_; subst f5_))
     refine hK.out _ _ ⟨(blk_cell BK229.out 0).trans rfl, (blk_cell BK229.out 1).trans rfl⟩ (fun hHeld => ?_)
     clear hK K
     refine norm_ (a' := ?_) ?_ ?_
     rotate_left
     ·show Act.put _ (some 38) _ = _
      simp only [Act.put, List.setIfInBounds_toArray, List.set_cons_zero, List.set_cons_succ, i64_w, i32_w]
      rfl
     refine Pt.pu 16 (some 39) (Pt.bm 18 131071) (any_of HT_.out (by kernel_rfl)) ?_
     refine last_ (i := 17) (N := none) (Pt.bm 18 262143) rfl rfl (one_of HT_.out (by kernel_rfl)) (by decide) (fun K hK => ?_)
     have hs30 : w28.cell? ⟨gb229, 1, none⟩ = some (.slice Ao23 x230001_1.length co23) := (blk_cell BK229.out 1).trans rfl
     have hfs30 := blk_frozen BK229.out 1
     have hns30_0 := NB226_229.out
     have hms30_0 := NB229_226.out
     refine skip_ (w1 := ?_) (by rfl) rfl ?_ ?_
     rotate_left
     ·go_simp
      rfl
     refine hK.out _ _ ?_
     clear hK K
     refine done_ (done_of HT_.out (by kernel_rfl)) ?_
     try go_wp2
     go_roundg k1
     case measure => have := HK1.out; omega
     case rel => exact ⟨(wrap64 (x6_1 - 1)), (t239), (y240), (.slice Ao29 y240.length co29), rsd, H', ⟨by have := HK1.out; omega⟩, ⟨by (with_reducible repeat (first | apply Kd.R_alloc | apply Kd.R_drewN | apply Kd.R_drew)); exact Kd.R_mono (Kd.R_far (p := ⟨gb229, 1, none⟩) (Kd.R_types HO242.out BK229.out (by decide)) (fun _ hk => hk.2) (.slice Ao29 y240.length co29)) (fun _ hk => trivial)⟩, ⟨by (with_reducible repeat (first | refine blk_drewN ?_ _ | refine blk_drew ?_ | refine blk_alloc ?_ _)); refine blk_far ?_ NB226_229.out _; (with_reducible repeat (first | refine blk_drewN ?_ _ | refine blk_drew ?_ | refine blk_alloc ?_ _)); exact BK226.out⟩, ⟨by (with_reducible repeat (first | refine blk_drewN ?_ _ | refine blk_drew ?_ | refine blk_alloc ?_ _)); refine blk_put (cs := #[.int .i64 t227, .slice Ao23 x230001_1.length co23]) ?_ 1 _ rfl; (with_reducible repeat (first | refine blk_drewN ?_ _ | refine blk_drew ?_ | refine blk_alloc ?_ _)); exact BK229.out⟩, ⟨by repeat (first | (with_reducible first | exact HI0.out | apply IsS121.alloc | apply IsS121.drewN | apply IsS121.drew | apply IsS121.set_1 | refine IsS121.far ?_ NB0_226.out _ | refine IsS121.far ?_ NB0_229.out _) | exact HI0.out)⟩, ⟨by repeat (first | (with_reducible first | exact HK.out | apply KeepBut.set_ | apply keep_drewN | apply keep_drew | apply keep_alloc | refine keep_far ?_ GW226.out _ | refine keep_far ?_ GW229.out _) | exact HK.out)⟩, ⟨by repeat (first | (with_reducible first | exact HB.out | apply bwA | apply bwN | apply bwD | refine below_set ?_ (IsS121.ge HI0.out) | refine below_set ?_ GE226.out | refine below_set ?_ GE229.out) | exact HB.out)⟩⟩
    ·rw [if_neg c19] at H
     exact absurd H (by simp)
   ·rw [if_neg c15] at H
    have c15b0 : decide (0 < x6_1) = false := decide_eq_false c15
    clear c15
    simp only [Option.some.injEq, Prod.mk.injEq] at H
    obtain ⟨rfl, rfl, rfl⟩ := H
    have hnb31 := NB229_226.out
    have hnc31 := NB226_229.out
    have hnb32 := NB229_0.out
    have hnc32 := NB0_229.out
    have hcz33_0 : wr.cell? ⟨gb229, 0, none⟩ = some (.int .i64 t227) := (blk_cell BK229.out 0).trans rfl
    have hcz33_1 : wr.cell? ⟨gb229, 1, none⟩ = some (u230001) := (blk_cell BK229.out 1).trans rfl
    have hfz33_0 := blk_frozen BK229.out 0
    have hfz33_1 := blk_frozen BK229.out 1
    have hnb34 := NB226_0.out
    have hnc34 := NB0_226.out
    have hcz35_0 : wr.cell? ⟨gb226, 0, none⟩ = some (.int .i64 0) := (blk_cell BK226.out 0).trans rfl
    have hcz35_1 : wr.cell? ⟨gb226, 1, none⟩ = some (.slice none 0 0) := (blk_cell BK226.out 1).trans rfl
    have hfz35_0 := blk_frozen BK226.out 0
    have hfz35_1 := blk_frozen BK226.out 1
    obtain ⟨Ao36, co36, eo36⟩ := Kd.R_slice HO_230001.out
    subst eo36
    go_wp2
    refine bodyPost_ret (results_cell_row rfl _ _ gb226 28 #[.int .i64 t227, .slice Ao36 x230001_1.length co36] (0, 0) _ rfl (by (with_reducible repeat (first | refine blk_drewN ?_ _ | refine blk_drew ?_ | refine blk_alloc ?_ _)); refine blk_put (cs := #[.int .i64 t227, .slice none 0 0]) ?_ 1 _ rfl; (with_reducible repeat (first | refine blk_drewN ?_ _ | refine blk_drew ?_ | refine blk_alloc ?_ _)); refine blk_put (cs := #[.int .i64 0, .slice none 0 0]) ?_ 0 _ rfl; (with_reducible repeat (first | refine blk_drewN ?_ _ | refine blk_drew ?_ | refine blk_alloc ?_ _)); exact BK226.out) Try.underlying28 rfl (by kernel_rfl)) rfl ?_
    exact ⟨_, ers, by (with_reducible repeat (first | apply Kd.R_alloc | apply Kd.R_drewN | apply Kd.R_drew)); exact Kd.R_mono (Kd.R_far (p := ⟨gb226, 1, none⟩) (Kd.R_far (p := ⟨gb226, 0, none⟩) (Kd.R_types HO_230001.out BK226.out (by decide)) (fun _ hk => hk.2) (.int .i64 t227)) (fun _ hk => hk.2) (.slice Ao36 x230001_1.length co36)) (fun _ hk => trivial), by repeat (first | (with_reducible first | exact HI0.out | apply IsS121.alloc | apply IsS121.drewN | apply IsS121.drew | apply IsS121.set_1 | refine IsS121.far ?_ NB0_226.out _ | refine IsS121.far ?_ NB0_229.out _) | exact HI0.out), by repeat (first | (with_reducible first | exact HB.out | apply bwA | apply bwN | apply bwD | refine below_set ?_ (IsS121.ge HI0.out) | refine below_set ?_ GE226.out | refine below_set ?_ GE229.out) | exact HB.out), by repeat (first | (with_reducible first | exact HK.out | apply KeepBut.set_ | apply keep_drewN | apply keep_drew | apply keep_alloc | refine keep_far ?_ GW226.out _ | refine keep_far ?_ GW229.out _) | exact HK.out)⟩

end Go.Proofs.Ytpcckoljocpchaa.QFnFixed
