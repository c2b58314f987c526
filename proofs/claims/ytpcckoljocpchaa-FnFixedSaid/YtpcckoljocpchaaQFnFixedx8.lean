-- Written by a program of this session (mk.py). Lean checks it.
import Derived.Test.YtpcckoljocpchaaQFnFixedx0
import Derived.Test.YtpcckoljocpchaaQFnFixedx6
import Derived.Test.YtpcckoljocpchaaQFnFixedx7
namespace Go.Proofs.Ytpcckoljocpchaa.QFnFixed
open Go.RowKit Go.Proofs.YtpcckoljocpchaaW.PrintWords Go.Proofs.YtpcckoljocpchaaW.PrintLast Go.Proofs.YtpcckoljocpchaaW.PrintMore
attribute [local go_sem] max2_int min2_int max_two min_two max_three min_three max_four min_four   -- for this text's walks alone
set_option linter.unusedVariables false
set_option linter.unusedSimpArgs false

/-! ### spec_l7Any: function 78 -/
def spec_l7Any.j0 : Nat → Bool → List Int → Int → Int → List (S92) → Option (Int × (List (S92)) × Int)
 | 0, _, _, _, _, _ => none
 | k + 1, x21, x1000, x1001, x250000, x250001 => if x21 = true then ((spec_l40Rd_num.f k x1000 x1001 (([(-1), 13] : List Int))).bind fun bt257 => (some (bt257.1, x250001, bt257.2))) else ((spec_l40Rd_pick.f k x1000 x1001 (x250001.length : Int)).bind fun bt259 => ((spec_l40Rd_num.f k x1000 bt259.2 (([(-1), wrap64 (2 * (wrap64 ((wrap64 (1 + x250000)) + bt259.1)))] : List Int))).bind fun bt264 => (if 0 ≤ bt259.1 then (if bt259.1 < (x250001.length : Int) then (some (x250000, (x250001.set (bt259.1 : Int).toNat (⟨bt264.1, 0⟩ : S92)), bt264.2)) else (none)) else (none))))
def spec_l7Any.f (k : Nat) (s0_0 : List Int) (s0_1 : Int) (a1 : Int) : Option (Int × (List (S92)) × Int) := (spec_l7Draw.f k s0_0 s0_1 a1).bind fun bt244 => ((spec_l40Rd_pick.f k s0_0 bt244.2.2 14).bind fun bt250 => (if bt250.1 = 0 then ((spec_l40Rd_pick.f k s0_0 bt250.2 2).bind fun bt252 => (if bt252.1 = 0 then (spec_l7Any.j0 k true s0_0 bt252.2 bt244.1 bt244.2.1) else (spec_l7Any.j0 k ((bt244.2.1.length : Int) == 0) s0_0 bt252.2 bt244.1 bt244.2.1))) else (some (bt244.1, bt244.2.1, bt250.2))))
theorem spec_l7Any.mono_l : ∀ k, (∀ y0 y1 y2 y3 y4, LeO (spec_l7Any.j0 k y0 y1 y2 y3 y4) (spec_l7Any.j0 (k + 1) y0 y1 y2 y3 y4))
 | 0 => fun _ _ _ _ _ r h => by simp [spec_l7Any.j0] at h
 | k + 1 => by
  have ih0 := spec_l7Any.mono_l k
  ·intro y0 y1 y2 y3 y4
   unfold spec_l7Any.j0
   repeat' first
   | (with_reducible exact ih0 _ _ _ _ _)
   | (with_reducible exact spec_l40Rd_num.mono _ _ _ _)
   | (with_reducible exact spec_l40Rd_pick.mono _ _ _ _)
   | (with_reducible exact spec_l7Draw.mono _ _ _ _)
   | (with_reducible exact LeO.refl _)
   | (with_reducible exact LeO.none _)
   | (with_reducible refine LeO.ite ?_ ?_)
   | (with_reducible refine LeO.bind ?_ (fun _ => ?_))
   | exact ih0 _ _ _ _ _
   | exact spec_l40Rd_num.mono _ _ _ _
   | exact spec_l40Rd_pick.mono _ _ _ _
   | exact spec_l7Draw.mono _ _ _ _
   | exact LeO.none _
   | refine LeO.ite ?_ ?_
   | refine LeO.bind ?_ (fun _ => ?_)
theorem spec_l7Any.mono : ∀ a0 a1 a2 k, LeO (spec_l7Any.f k a0 a1 a2) (spec_l7Any.f (k + 1) a0 a1 a2) := by
 intro a0 a1 a2 k
 have ih0 := spec_l7Any.mono_l k
 unfold spec_l7Any.f
 repeat' first
   | (with_reducible exact ih0 _ _ _ _ _)
   | (with_reducible exact spec_l40Rd_num.mono _ _ _ _)
   | (with_reducible exact spec_l40Rd_pick.mono _ _ _ _)
   | (with_reducible exact spec_l7Draw.mono _ _ _ _)
   | (with_reducible exact LeO.refl _)
   | (with_reducible exact LeO.none _)
   | (with_reducible refine LeO.ite ?_ ?_)
   | (with_reducible refine LeO.bind ?_ (fun _ => ?_))
   | exact ih0 _ _ _ _ _
   | exact spec_l40Rd_num.mono _ _ _ _
   | exact spec_l40Rd_pick.mono _ _ _ _
   | exact spec_l7Draw.mono _ _ _ _
   | exact LeO.none _
   | refine LeO.ite ?_ ?_
   | refine LeO.bind ?_ (fun _ => ?_)
def spec_l7Any.T6 : Bool × List (List Nat × List Nat) := (true, [([], []), ([0], [0]), ([], []), ([], []), ([], []), ([4], [4]), ([5], [5]), ([], []), ([6, 7], [6, 7]), ([8], [8]), ([9], [9]), ([3, 10], [3, 10]), ([11], [11]), ([1, 2, 0, 1, 2, 3, 4, 5, 6, 7, 8, 9, 10, 11, 12], [1, 2]), ([13, 12, 11, 0, 1, 2, 3, 4, 5, 6, 7, 8, 9, 10, 11, 12], [12, 13])])
def spec_l7Any.B6 : List Nat := [0, 1, 0, 0, 0, 16, 48, 0, 240, 496, 1008, 2040, 4088, 8191, 16383]
theorem spec_l7Any.tab6 : rtab .any (opsOf Try.f78 6) = spec_l7Any.T6 := by kernel_rfl
theorem spec_l7Any.bits6 : waitsOk spec_l7Any.T6.2 spec_l7Any.B6 = true := by kernel_rfl
set_option maxHeartbeats 8000000 in
set_option maxRecDepth 100000 in
theorem spec_l7Any.calls (k : Nat) (g : Nat) (s0_0 : List Int) (s0_1 : Int) (a1 : Int) (r1 : Int) (r2 : List (S92)) (r3 : Int) (w0 w : World) (hI : IsS121 w0 w g s0_0 s0_1) (hB : Below w0.heap.size w0 w) (h : spec_l7Any.f k s0_0 s0_1 a1 = some (r1, r2, r3)) :
  Calls Try.prog 78 #[.pointer (some ⟨g, 0, none⟩), .int .i64 a1] w fun e w' => ∃ v1_ : Value, e = .returned (.agg #[.int .i64 r1, v1_]) ∧ Kd.R k92 92 w' w.heap.size (fun _ => True) v1_ r2 ∧ IsS121 w0 w' g s0_0 r3 ∧ Below w0.heap.size w0 w' ∧ KeepBut w w' g none := by
 have hu28 := Try.underlying28
 have hu92 := Try.underlying92
 have HI0 := Aside0.mk hI
 have HK := Aside0.mk (KeepBut.refl w g none)
 have HL := Aside0.mk hB.size
 clear hI
 have HW0 := Aside0.mk hB.size
 have HB := Aside0.mk hB
 clear hB
 have H : ((spec_l7Draw.f k s0_0 s0_1 a1).bind fun bt244 => ((spec_l40Rd_pick.f k s0_0 bt244.2.2 14).bind fun bt250 => (if bt250.1 = 0 then ((spec_l40Rd_pick.f k s0_0 bt250.2 2).bind fun bt252 => (if bt252.1 = 0 then (spec_l7Any.j0 k true s0_0 bt252.2 bt244.1 bt244.2.1) else (spec_l7Any.j0 k ((bt244.2.1.length : Int) == 0) s0_0 bt252.2 bt244.1 bt244.2.1))) else (some (bt244.1, bt244.2.1, bt250.2))))) = some (r1, r2, r3) := h
 clear h
 replace H := Option.bind_eq_some_iff.mp H
 obtain ⟨⟨t244, t245, t248⟩, A30, H⟩ := H
 replace H : ((spec_l40Rd_pick.f k s0_0 t248 14).bind fun bt250 => (if bt250.1 = 0 then ((spec_l40Rd_pick.f k s0_0 bt250.2 2).bind fun bt252 => (if bt252.1 = 0 then (spec_l7Any.j0 k true s0_0 bt252.2 t244 t245) else (spec_l7Any.j0 k ((t245.length : Int) == 0) s0_0 bt252.2 t244 t245))) else (some (t244, t245, bt250.2)))) = some (r1, r2, r3) := H
 have A3 := Aside0.mk A30
 clear A30
 replace H := Option.bind_eq_some_iff.mp H
 obtain ⟨⟨t250, t251⟩, A40, H⟩ := H
 replace H : (if t250 = 0 then ((spec_l40Rd_pick.f k s0_0 t251 2).bind fun bt252 => (if bt252.1 = 0 then (spec_l7Any.j0 k true s0_0 bt252.2 t244 t245) else (spec_l7Any.j0 k ((t245.length : Int) == 0) s0_0 bt252.2 t244 t245))) else (some (t244, t245, t251))) = some (r1, r2, r3) := H
 have A4 := Aside0.mk A40
 clear A40
 by_cases c5 : t250 = 0
 ·rw [if_pos c5] at H
  have c5b0 : (t250 == 0) = true := beq_iff_eq.mpr c5
  have c5b1 : (t250 != 0) = false := bne_eq_false_iff_eq.mpr c5
  clear c5
  have HC6 := Aside0.mk H
  clear H
  go_enter Try.func78, Try.ntmps78
  go_upto_region 3 with (first | ((with_reducible refine gate_dst (N := 4) rfl ?_); (try (refine gate_guard (by rfl) ?_; dsimp only)); refine box_event ?hg (N := 4) ?hd (cs := #[.int .i64 0, .slice none 0 0]) (t := 28) ?hr ?_; (case hd => rfl); (case hg => rfl); (case hr => first | (go_simp; done) | (go_simp; rfl)); intro gb243 hg w7 hbox hb; have n0_ := Aside0.mk (IsS121.below (by repeat (first | (with_reducible first | exact HI0.out | apply IsS121.alloc | apply IsS121.drewN | apply IsS121.drew | apply IsS121.set_1) | exact HI0.out)) hb); have n1_ := Aside0.mk (KeepBut.trans (by repeat (first | (with_reducible first | exact HK.out | apply KeepBut.set_ | apply keep_drewN | apply keep_drew | apply keep_alloc) | exact HK.out)) (KeepBut.of_below hb g none) (.inl rfl)); have n2_ := Aside0.mk (below_step (by repeat (first | (with_reducible first | exact HB.out | apply bwA | apply bwN | apply bwD | refine below_set ?_ (IsS121.ge HI0.out)) | exact HB.out)) hb); have n3_ := Aside0.mk (hbox); have n4_ := Aside0.mk ((by rw [hg]; exact (keep_size (w := w) (g := g) (row := none) (by repeat (first | (with_reducible first | exact HK.out | apply KeepBut.set_ | apply keep_drewN | apply keep_drew | apply keep_alloc) | exact HK.out))) : w.heap.size ≤ gb243)); have n5_ := Aside0.mk ((Nat.le_trans HW0.out (by rw [hg]; exact (keep_size (w := w) (g := g) (row := none) (by repeat (first | (with_reducible first | exact HK.out | apply KeepBut.set_ | apply keep_drewN | apply keep_drew | apply keep_alloc) | exact HK.out))) : w.heap.size ≤ gb243) : w0.heap.size ≤ gb243)); have n6_ := Aside0.mk ((by rw [hg]; exact Nat.ne_of_lt (IsS121.lt (show IsS121 w0 _ g s0_0 s0_1 from by repeat (first | (with_reducible first | exact HI0.out | apply IsS121.alloc | apply IsS121.drewN | apply IsS121.drew | apply IsS121.set_1) | exact HI0.out))) : g ≠ gb243)); have n7_ := Aside0.mk ((by rw [hg]; exact Nat.ne_of_gt (IsS121.lt (show IsS121 w0 _ g s0_0 s0_1 from by repeat (first | (with_reducible first | exact HI0.out | apply IsS121.alloc | apply IsS121.drewN | apply IsS121.drew | apply IsS121.set_1) | exact HI0.out))) : gb243 ≠ g)); clear HI0; clear HK; clear HB; have HI0 := n0_; have HK := n1_; have HB := n2_; have BK243 := n3_; have GW243 := n4_; have GE243 := n5_; have NB0_243 := n6_; have NB243_0 := n7_; clear n0_ n1_ n2_ n3_ n4_ n5_ n6_ n7_; clear hb hbox hg) | ((with_reducible refine gate_callee (f := 115) rfl ?_); refine goesL_ (some 9) rfl rfl Try.func115 (by kernel_rfl) rfl #[.pointer (some ⟨g, 0, none⟩), .int .i64 a1] rfl lmB ?_; (with_reducible refine (spec_l7Draw.calls k g s0_0 s0_1 a1 t244 t245 t248 w0 _ ?side1 ?side2 A3.out).mono ?_); (case side1 => repeat (first | (with_reducible first | exact HI0.out | apply IsS121.alloc | apply IsS121.drewN | apply IsS121.drew | apply IsS121.set_1 | refine IsS121.far ?_ NB0_243.out _) | exact HI0.out)); (case side2 => repeat (first | (with_reducible first | exact HB.out | apply bwA | apply bwN | apply bwD | refine below_set ?_ (IsS121.ge HI0.out) | refine below_set ?_ GE243.out) | exact HB.out)); rintro e w8 ⟨v246, rfl, ho0, hi, hb, hk⟩; refine ⟨_, rfl, ?_⟩; have n0_ := Aside0.mk (KeepBut.blk hk (g' := gb243) (o := .cells #[.int .i64 0, .slice none 0 0] 28 (0, 0)) (bvK BK243.out) NB243_0.out (by simp)); have n1_ := Aside0.mk (Kd.R_lower ho0 (keep_size (w := w) (g := g) (row := none) (by repeat (first | (with_reducible first | exact HK.out | apply KeepBut.set_ | apply keep_drewN | apply keep_drew | apply keep_alloc | refine keep_far ?_ GW243.out _) | exact HK.out)))); have n2_ := Aside0.mk (KeepBut.trans (by repeat (first | (with_reducible first | exact HK.out | apply KeepBut.set_ | apply keep_drewN | apply keep_drew | apply keep_alloc | refine keep_far ?_ GW243.out _) | exact HK.out)) hk (.inl rfl)); have n3_ := Aside0.mk (hb); have n4_ := Aside0.mk (hi); clear BK243; clear HK; clear HB; clear HI0; have BK243 := n0_; have HO247 := n1_; have HK := n2_; have HB := n3_; have HI0 := n4_; clear n0_ n1_ n2_ n3_ n4_; (try clear hb); (try clear hb2); (try clear hk); (try clear hi); (try clear ho0)) | ((with_reducible refine gate_dst (N := 5) rfl ?_); (try (refine gate_guard (by rfl) ?_; dsimp only)); refine box_event ?hg (N := 5) ?hd (cs := #[.int .i64 0, .slice none 0 0]) (t := 28) ?hr ?_; (case hd => rfl); (case hg => rfl); (case hr => first | (go_simp; done) | (go_simp; rfl)); intro gb249 hg w9 hbox hb; have n0_ := Aside0.mk (Kd.R_below (rvR HO247.out) hb); have n1_ := Aside0.mk (IsS121.below (by repeat (first | (with_reducible first | exact HI0.out | apply IsS121.alloc | apply IsS121.drewN | apply IsS121.drew | apply IsS121.set_1 | refine IsS121.far ?_ NB0_243.out _) | exact HI0.out)) hb); have n2_ := Aside0.mk (blk_below (g := gb243) (o := .cells #[.int .i64 0, .slice none 0 0] 28 (0, 0)) (bvK BK243.out) hb); have n3_ := Aside0.mk (KeepBut.trans (by repeat (first | (with_reducible first | exact HK.out | apply KeepBut.set_ | apply keep_drewN | apply keep_drew | apply keep_alloc | refine keep_far ?_ GW243.out _) | exact HK.out)) (KeepBut.of_below hb g none) (.inl rfl)); have n4_ := Aside0.mk (below_step (by repeat (first | (with_reducible first | exact HB.out | apply bwA | apply bwN | apply bwD | refine below_set ?_ (IsS121.ge HI0.out) | refine below_set ?_ GE243.out) | exact HB.out)) hb); have n5_ := Aside0.mk (hbox); have n6_ := Aside0.mk ((by rw [hg]; exact (keep_size (w := w) (g := g) (row := none) (by repeat (first | (with_reducible first | exact HK.out | apply KeepBut.set_ | apply keep_drewN | apply keep_drew | apply keep_alloc | refine keep_far ?_ GW243.out _) | exact HK.out))) : w.heap.size ≤ gb249)); have n7_ := Aside0.mk ((Nat.le_trans HW0.out (by rw [hg]; exact (keep_size (w := w) (g := g) (row := none) (by repeat (first | (with_reducible first | exact HK.out | apply KeepBut.set_ | apply keep_drewN | apply keep_drew | apply keep_alloc | refine keep_far ?_ GW243.out _) | exact HK.out))) : w.heap.size ≤ gb249) : w0.heap.size ≤ gb249)); have n8_ := Aside0.mk ((by rw [hg]; exact Nat.ne_of_lt (blk_lt (g := gb243) (o := .cells #[.int .i64 0, .slice none 0 0] 28 (0, 0)) (bvK BK243.out)) : gb243 ≠ gb249)); have n9_ := Aside0.mk ((by rw [hg]; exact Nat.ne_of_gt (blk_lt (g := gb243) (o := .cells #[.int .i64 0, .slice none 0 0] 28 (0, 0)) (bvK BK243.out)) : gb249 ≠ gb243)); have n10_ := Aside0.mk ((by rw [hg]; exact Nat.ne_of_lt (IsS121.lt (show IsS121 w0 _ g s0_0 t248 from by repeat (first | (with_reducible first | exact HI0.out | apply IsS121.alloc | apply IsS121.drewN | apply IsS121.drew | apply IsS121.set_1 | refine IsS121.far ?_ NB0_243.out _) | exact HI0.out))) : g ≠ gb249)); have n11_ := Aside0.mk ((by rw [hg]; exact Nat.ne_of_gt (IsS121.lt (show IsS121 w0 _ g s0_0 t248 from by repeat (first | (with_reducible first | exact HI0.out | apply IsS121.alloc | apply IsS121.drewN | apply IsS121.drew | apply IsS121.set_1 | refine IsS121.far ?_ NB0_243.out _) | exact HI0.out))) : gb249 ≠ g)); clear HO247; clear HI0; clear BK243; clear HK; clear HB; have HO247 := n0_; have HI0 := n1_; have BK243 := n2_; have HK := n3_; have HB := n4_; have BK249 := n5_; have GW249 := n6_; have GE249 := n7_; have NB243_249 := n8_; have NB249_243 := n9_; have NB0_249 := n10_; have NB249_0 := n11_; clear n0_ n1_ n2_ n3_ n4_ n5_ n6_ n7_ n8_ n9_ n10_ n11_; clear hb hbox hg; have hnb10 := NB249_243.out; have hnc10 := NB243_249.out; have hnb11 := NB249_0.out; have hnc11 := NB0_249.out; have hcz12_0 : w9.cell? ⟨gb249, 0, none⟩ = some (.int .i64 0) := (blk_cell BK249.out 0).trans rfl; have hcz12_1 : w9.cell? ⟨gb249, 1, none⟩ = some (.slice none 0 0) := (blk_cell BK249.out 1).trans rfl; have hfz12_0 := blk_frozen BK249.out 0; have hfz12_1 := blk_frozen BK249.out 1; obtain ⟨Ao13, co13, eo13⟩ := Kd.R_slice HO247.out; subst eo13) | ((with_reducible refine gate_callee (f := 79) rfl ?_); refine goesL_ (some 11) rfl rfl Try.func79 (by kernel_rfl) rfl #[.pointer (some ⟨g, 0, none⟩), .int .i64 14] rfl lmB ?_; (with_reducible refine (spec_l40Rd_pick.calls k g s0_0 t248 14 t250 t251 w0 _ ?side1 ?side2 A4.out).mono ?_); (case side1 => repeat (first | (with_reducible first | exact HI0.out | apply IsS121.alloc | apply IsS121.drewN | apply IsS121.drew | apply IsS121.set_1 | refine IsS121.far ?_ NB0_243.out _ | refine IsS121.far ?_ NB0_249.out _) | exact HI0.out)); (case side2 => repeat (first | (with_reducible first | exact HB.out | apply bwA | apply bwN | apply bwD | refine below_set ?_ (IsS121.ge HI0.out) | refine below_set ?_ GE243.out | refine below_set ?_ GE249.out) | exact HB.out)); rintro e w14 ⟨rfl, hi, hb, hk⟩; refine ⟨_, rfl, ?_⟩; have n0_ := Aside0.mk (KeepBut.blk hk (g' := gb243) (o := .cells #[.int .i64 0, .slice none 0 0] 28 (0, 0)) (by (with_reducible repeat (first | refine blk_drewN ?_ _ | refine blk_drew ?_ | refine blk_alloc ?_ _)); refine blk_far ?_ NB243_249.out _; (with_reducible repeat (first | refine blk_drewN ?_ _ | refine blk_drew ?_ | refine blk_alloc ?_ _)); refine blk_far ?_ NB243_249.out _; (with_reducible repeat (first | refine blk_drewN ?_ _ | refine blk_drew ?_ | refine blk_alloc ?_ _)); exact BK243.out) NB243_0.out (by simp)); have n1_ := Aside0.mk (Kd.R_mono (Kd.R_keep (IsS121.apart (show IsS121 w0 _ g s0_0 t248 from by repeat (first | (with_reducible first | exact HI0.out | apply IsS121.alloc | apply IsS121.drewN | apply IsS121.drew | apply IsS121.set_1 | refine IsS121.far ?_ NB0_243.out _ | refine IsS121.far ?_ NB0_249.out _) | exact HI0.out)) (by (with_reducible repeat (first | apply Kd.R_alloc | apply Kd.R_drewN | apply Kd.R_drew)); exact (Kd.R_mono (Kd.R_far (p := ⟨gb249, 1, none⟩) (Kd.R_far (p := ⟨gb249, 0, none⟩) (Kd.R_types HO247.out BK249.out (by decide)) (fun _ hk => hk.2) (.int .i64 t244)) (fun _ hk => hk.2) (.slice Ao13 t245.length co13)) (fun _ h_ => h_.1))) (by decide)) hk (fun _ h => h.2)) (fun _ h => h.1)); have n2_ := Aside0.mk (KeepBut.blk hk (g' := gb249) (o := .cells #[.int .i64 t244, .slice Ao13 t245.length co13] 28 (0, 0)) (by (with_reducible repeat (first | refine blk_drewN ?_ _ | refine blk_drew ?_ | refine blk_alloc ?_ _)); refine blk_put (cs := #[.int .i64 t244, .slice none 0 0]) ?_ 1 _ rfl; (with_reducible repeat (first | refine blk_drewN ?_ _ | refine blk_drew ?_ | refine blk_alloc ?_ _)); refine blk_put (cs := #[.int .i64 0, .slice none 0 0]) ?_ 0 _ rfl; (with_reducible repeat (first | refine blk_drewN ?_ _ | refine blk_drew ?_ | refine blk_alloc ?_ _)); exact BK249.out) NB249_0.out (by simp)); have n3_ := Aside0.mk (KeepBut.trans (by repeat (first | (with_reducible first | exact HK.out | apply KeepBut.set_ | apply keep_drewN | apply keep_drew | apply keep_alloc | refine keep_far ?_ GW243.out _ | refine keep_far ?_ GW249.out _) | exact HK.out)) hk (.inl rfl)); have n4_ := Aside0.mk (hb); have n5_ := Aside0.mk (hi); clear BK243; clear HO247; clear BK249; clear HK; clear HB; clear HI0; have BK243 := n0_; have HO247 := n1_; have BK249 := n2_; have HK := n3_; have HB := n4_; have HI0 := n5_; clear n0_ n1_ n2_ n3_ n4_ n5_; (try clear hb); (try clear hb2); (try clear hk); (try clear hi)))
  (try simp only [Act.put, List.setIfInBounds_toArray, List.set_cons_zero, List.set_cons_succ])
  go_cut [21] (fun v21 wc => ∃ (kq : Nat) (x21_5 : Bool) (x1001_5 : Int), v21 = .bool x21_5 ∧ Aside0 (spec_l7Any.j0 kq x21_5 s0_0 x1001_5 t244 t245 = some (r1, r2, r3)) ∧ Aside0 (kq ≤ k) ∧ Aside0 (Kd.R k92 92 wc w.heap.size (fun _ => True) (.slice Ao13 t245.length co13) t245) ∧ Aside0 (wc.heap[gb243]? = some (.cells #[.int .i64 0, (.slice none 0 0)] 28 (0, 0))) ∧ Aside0 (wc.heap[gb249]? = some (.cells #[.int .i64 t244, (.slice Ao13 t245.length co13)] 28 (0, 0))) ∧ Aside0 (IsS121 w0 wc g s0_0 x1001_5) ∧ Aside0 (KeepBut w wc g none) ∧ Aside0 (Below w0.heap.size w0 wc))
  case first =>
   have H := HC6.out
   clear HC6
   replace H := Option.bind_eq_some_iff.mp H
   obtain ⟨⟨t252, t253⟩, A150, H⟩ := H
   replace H : (if t252 = 0 then (spec_l7Any.j0 k true s0_0 t253 t244 t245) else (spec_l7Any.j0 k ((t245.length : Int) == 0) s0_0 t253 t244 t245)) = some (r1, r2, r3) := H
   have A15 := Aside0.mk A150
   clear A150
   by_cases c16 : t252 = 0
   ·rw [if_pos c16] at H
    have c16b0 : (t252 == 0) = true := beq_iff_eq.mpr c16
    have c16b1 : (t252 != 0) = false := bne_eq_false_iff_eq.mpr c16
    clear c16
    (first | rw [c16b0] | (simp only [i64_w, i32_w]; rw [c16b0]) | skip)
    have H' := Aside0.mk H
    clear H
    go_wp2_with (first | ((with_reducible refine gate_callee (f := 79) rfl ?_); refine goesL_ (some 14) rfl rfl Try.func79 (by kernel_rfl) rfl #[.pointer (some ⟨g, 0, none⟩), .int .i64 2] rfl lmB ?_; (with_reducible refine (spec_l40Rd_pick.calls k g s0_0 t251 2 t252 t253 w0 _ ?side1 ?side2 A15.out).mono ?_); (case side1 => repeat (first | (with_reducible first | exact HI0.out | apply IsS121.alloc | apply IsS121.drewN | apply IsS121.drew | apply IsS121.set_1 | refine IsS121.far ?_ NB0_243.out _ | refine IsS121.far ?_ NB0_249.out _) | exact HI0.out)); (case side2 => repeat (first | (with_reducible first | exact HB.out | apply bwA | apply bwN | apply bwD | refine below_set ?_ (IsS121.ge HI0.out) | refine below_set ?_ GE243.out | refine below_set ?_ GE249.out) | exact HB.out)); rintro e w17 ⟨rfl, hi, hb, hk⟩; refine ⟨_, rfl, ?_⟩; have n0_ := Aside0.mk (KeepBut.blk hk (g' := gb243) (o := .cells #[.int .i64 0, .slice none 0 0] 28 (0, 0)) (bvK BK243.out) NB243_0.out (by simp)); have n1_ := Aside0.mk (Kd.R_mono (Kd.R_keep (IsS121.apart (show IsS121 w0 _ g s0_0 t251 from by repeat (first | (with_reducible first | exact HI0.out | apply IsS121.alloc | apply IsS121.drewN | apply IsS121.drew | apply IsS121.set_1 | refine IsS121.far ?_ NB0_243.out _ | refine IsS121.far ?_ NB0_249.out _) | exact HI0.out)) (rvR HO247.out) (by decide)) hk (fun _ h => h.2)) (fun _ h => h.1)); have n2_ := Aside0.mk (KeepBut.blk hk (g' := gb249) (o := .cells #[.int .i64 t244, .slice Ao13 t245.length co13] 28 (0, 0)) (bvK BK249.out) NB249_0.out (by simp)); have n3_ := Aside0.mk (KeepBut.trans (by repeat (first | (with_reducible first | exact HK.out | apply KeepBut.set_ | apply keep_drewN | apply keep_drew | apply keep_alloc | refine keep_far ?_ GW243.out _ | refine keep_far ?_ GW249.out _) | exact HK.out)) hk (.inl rfl)); have n4_ := Aside0.mk (hb); have n5_ := Aside0.mk (hi); clear BK243; clear HO247; clear BK249; clear HK; clear HB; clear HI0; have BK243 := n0_; have HO247 := n1_; have BK249 := n2_; have HK := n3_; have HB := n4_; have HI0 := n5_; clear n0_ n1_ n2_ n3_ n4_ n5_; (try clear hb); (try clear hb2); (try clear hk); (try clear hi)))
    go_meet
    case rel => exact ⟨_, (true), (t253), rsd, H', ⟨by first | omega | exact Nat.le_refl _⟩, ⟨rvR HO247.out⟩, ⟨bvK BK243.out⟩, ⟨bvK BK249.out⟩, ⟨by repeat (first | (with_reducible first | exact HI0.out | apply IsS121.alloc | apply IsS121.drewN | apply IsS121.drew | apply IsS121.set_1 | refine IsS121.far ?_ NB0_243.out _ | refine IsS121.far ?_ NB0_249.out _) | exact HI0.out)⟩, ⟨by repeat (first | (with_reducible first | exact HK.out | apply KeepBut.set_ | apply keep_drewN | apply keep_drew | apply keep_alloc | refine keep_far ?_ GW243.out _ | refine keep_far ?_ GW249.out _) | exact HK.out)⟩, ⟨by repeat (first | (with_reducible first | exact HB.out | apply bwA | apply bwN | apply bwD | refine below_set ?_ (IsS121.ge HI0.out) | refine below_set ?_ GE243.out | refine below_set ?_ GE249.out) | exact HB.out)⟩⟩
   ·rw [if_neg c16] at H
    have c16b0 : (t252 == 0) = false := beq_eq_false_iff_ne.mpr c16
    have c16b1 : (t252 != 0) = true := bne_iff_ne.mpr c16
    (first | rw [c16b0] | (simp only [i64_w, i32_w]; rw [c16b0]) | skip)
    have H' := Aside0.mk H
    clear H
    go_wp2_with (first | ((with_reducible refine gate_callee (f := 79) rfl ?_); refine goesL_ (some 14) rfl rfl Try.func79 (by kernel_rfl) rfl #[.pointer (some ⟨g, 0, none⟩), .int .i64 2] rfl lmB ?_; (with_reducible refine (spec_l40Rd_pick.calls k g s0_0 t251 2 t252 t253 w0 _ ?side1 ?side2 A15.out).mono ?_); (case side1 => repeat (first | (with_reducible first | exact HI0.out | apply IsS121.alloc | apply IsS121.drewN | apply IsS121.drew | apply IsS121.set_1 | refine IsS121.far ?_ NB0_243.out _ | refine IsS121.far ?_ NB0_249.out _) | exact HI0.out)); (case side2 => repeat (first | (with_reducible first | exact HB.out | apply bwA | apply bwN | apply bwD | refine below_set ?_ (IsS121.ge HI0.out) | refine below_set ?_ GE243.out | refine below_set ?_ GE249.out) | exact HB.out)); rintro e w18 ⟨rfl, hi, hb, hk⟩; refine ⟨_, rfl, ?_⟩; have n0_ := Aside0.mk (KeepBut.blk hk (g' := gb243) (o := .cells #[.int .i64 0, .slice none 0 0] 28 (0, 0)) (bvK BK243.out) NB243_0.out (by simp)); have n1_ := Aside0.mk (Kd.R_mono (Kd.R_keep (IsS121.apart (show IsS121 w0 _ g s0_0 t251 from by repeat (first | (with_reducible first | exact HI0.out | apply IsS121.alloc | apply IsS121.drewN | apply IsS121.drew | apply IsS121.set_1 | refine IsS121.far ?_ NB0_243.out _ | refine IsS121.far ?_ NB0_249.out _) | exact HI0.out)) (rvR HO247.out) (by decide)) hk (fun _ h => h.2)) (fun _ h => h.1)); have n2_ := Aside0.mk (KeepBut.blk hk (g' := gb249) (o := .cells #[.int .i64 t244, .slice Ao13 t245.length co13] 28 (0, 0)) (bvK BK249.out) NB249_0.out (by simp)); have n3_ := Aside0.mk (KeepBut.trans (by repeat (first | (with_reducible first | exact HK.out | apply KeepBut.set_ | apply keep_drewN | apply keep_drew | apply keep_alloc | refine keep_far ?_ GW243.out _ | refine keep_far ?_ GW249.out _) | exact HK.out)) hk (.inl rfl)); have n4_ := Aside0.mk (hb); have n5_ := Aside0.mk (hi); clear BK243; clear HO247; clear BK249; clear HK; clear HB; clear HI0; have BK243 := n0_; have HO247 := n1_; have BK249 := n2_; have HK := n3_; have HB := n4_; have HI0 := n5_; clear n0_ n1_ n2_ n3_ n4_ n5_; (try clear hb); (try clear hb2); (try clear hk); (try clear hi); have hnb19 := NB249_243.out; have hnc19 := NB243_249.out; have hnb20 := NB249_0.out; have hnc20 := NB0_249.out; have hcz21_0 : w18.cell? ⟨gb249, 0, none⟩ = some (.int .i64 t244) := (blk_cell BK249.out 0).trans rfl; have hcz21_1 : w18.cell? ⟨gb249, 1, none⟩ = some (.slice Ao13 t245.length co13) := (blk_cell BK249.out 1).trans rfl; have hfz21_0 := blk_frozen BK249.out 0; have hfz21_1 := blk_frozen BK249.out 1))
    go_meet
    case rel => exact ⟨_, (((t245.length : Int) == 0)), (t253), rsd, H', ⟨by first | omega | exact Nat.le_refl _⟩, ⟨rvR HO247.out⟩, ⟨bvK BK243.out⟩, ⟨bvK BK249.out⟩, ⟨by repeat (first | (with_reducible first | exact HI0.out | apply IsS121.alloc | apply IsS121.drewN | apply IsS121.drew | apply IsS121.set_1 | refine IsS121.far ?_ NB0_243.out _ | refine IsS121.far ?_ NB0_249.out _) | exact HI0.out)⟩, ⟨by repeat (first | (with_reducible first | exact HK.out | apply KeepBut.set_ | apply keep_drewN | apply keep_drew | apply keep_alloc | refine keep_far ?_ GW243.out _ | refine keep_far ?_ GW249.out _) | exact HK.out)⟩, ⟨by repeat (first | (with_reducible first | exact HB.out | apply bwA | apply bwN | apply bwD | refine below_set ?_ (IsS121.ge HI0.out) | refine below_set ?_ GE243.out | refine below_set ?_ GE249.out) | exact HB.out)⟩⟩
  case rest =>
   clear HC6
   try clear c1
   try clear c2
   try clear p2
   try clear c5
   try clear c5b0
   try clear c5b1
   try clear c7
   try clear c10
   try clear c11
   try clear c16
   try clear c16b0
   try clear c16b1
   try clear c19
   try clear c20
   try clear hcz12_0
   try clear hcz12_1
   try clear hcz21_0
   try clear hcz21_1
   try clear hfz12_0
   try clear hfz12_1
   try clear hfz21_0
   try clear hfz21_1
   obtain ⟨kq, x21_5, x1001_5, rfl, HA, HJ5, HO_250001, BK243, BK249, HI0, HK, HB⟩ := hcut
   cases kq with
   | zero => exact absurd HA.out (by simp [spec_l7Any.j0])
   | succ kj5 =>
    have H := HA.out
    clear HA
    simp only [spec_l7Any.j0] at H
    by_cases c22 : x21_5 = true
    ·subst c22
     have H1 : ((spec_l40Rd_num.f kj5 s0_0 x1001_5 (([(-1), 13] : List Int))).bind fun bt257 => (some (bt257.1, t245, bt257.2))) = some (r1, r2, r3) := by rw [if_pos rfl] at H; exact H
     clear H
     have H := H1
     clear H1
     obtain ⟨y254, hy254⟩ : ∃ y_ : List Int, y_ = (([(-1), 13] : List Int)) := ⟨_, rfl⟩
     replace H : ((spec_l40Rd_num.f kj5 s0_0 x1001_5 y254).bind fun bt257 => (some (bt257.1, t245, bt257.2))) = some (r1, r2, r3) := by first | (rw [hy254]; with_reducible exact H) | (have H2_ := (Option.bind_some _ _).symm.trans H; rw [hy254]; with_reducible exact H2_) | (have H2_ := (Option.bind_some _ _).symm.trans H; with_reducible exact H2_) | with_reducible exact H | (rw [hy254]; exact H) | exact H
     have Ny254 := Aside0.mk hy254
     clear hy254
     replace H := Option.bind_eq_some_iff.mp H
     obtain ⟨⟨t257, t258⟩, A230, H⟩ := H
     replace H : (some (t257, t245, t258)) = some (r1, r2, r3) := H
     have A23 := Aside0.mk A230
     clear A230
     simp only [Option.some.injEq, Prod.mk.injEq] at H
     obtain ⟨rfl, rfl, rfl⟩ := H
     go_wp2_with (first | ((with_reducible refine gate_dst (N := 23) rfl ?_); (try (refine gate_guard (by rfl) ?_; dsimp only)); refine Kd.R_lit (Kd.int .i64) _ 3 ?hg (N := 23) ?hd (xs := ([(-1), 13] : List Int)) (inner := [.int .i64 (-1), .int .i64 13]) (ok := fun _ => True) (okp := fun _ => True) ?hr ?hp (fun _ hk => hk) trivial (Below.refl _ _) (Nat.le_refl _) (by simp) ?_; (case hd => rfl); (case hg => rfl); (case hr => first | (go_simp; done) | (go_simp; rfl)); (case hp => exact (Reps.one (show Kd.M (Kd.int .i64) _ _ _ (-1) [.int .i64 (-1)] from rfl) (Reps.one (show Kd.M (Kd.int .i64) _ _ _ 13 [.int .i64 13] from rfl) (Reps.none _ _)))); intro v255 w24 ho25 hb hg_ hnew_; clear hg_ hnew_; (first | rw [← Ny254.out] at ho25 | (simp only [Int.reduceToNat] at ho25; rw [← Ny254.out] at ho25)); have n0_ := Aside0.mk (Kd.R_below (rvR HO_250001.out) hb); have n1_ := Aside0.mk (Kd.R_lower ho25 (keep_size (w := w) (g := g) (row := none) (by repeat (first | (with_reducible first | exact HK.out | apply KeepBut.set_ | apply keep_drewN | apply keep_drew | apply keep_alloc | refine keep_far ?_ GW243.out _ | refine keep_far ?_ GW249.out _) | exact HK.out)))); have n2_ := Aside0.mk (blk_below (g := gb243) (o := .cells #[.int .i64 0, .slice none 0 0] 28 (0, 0)) (bvK BK243.out) hb); have n3_ := Aside0.mk (blk_below (g := gb249) (o := .cells #[.int .i64 t244, .slice Ao13 t245.length co13] 28 (0, 0)) (bvK BK249.out) hb); have n4_ := Aside0.mk (IsS121.below (by repeat (first | (with_reducible first | exact HI0.out | apply IsS121.alloc | apply IsS121.drewN | apply IsS121.drew | apply IsS121.set_1 | refine IsS121.far ?_ NB0_243.out _ | refine IsS121.far ?_ NB0_249.out _) | exact HI0.out)) hb); have n5_ := Aside0.mk (KeepBut.trans (by repeat (first | (with_reducible first | exact HK.out | apply KeepBut.set_ | apply keep_drewN | apply keep_drew | apply keep_alloc | refine keep_far ?_ GW243.out _ | refine keep_far ?_ GW249.out _) | exact HK.out)) (KeepBut.of_below hb g none) (.inl rfl)); have n6_ := Aside0.mk (below_step (by repeat (first | (with_reducible first | exact HB.out | apply bwA | apply bwN | apply bwD | refine below_set ?_ (IsS121.ge HI0.out) | refine below_set ?_ GE243.out | refine below_set ?_ GE249.out) | exact HB.out)) hb); clear HO_250001; clear BK243; clear BK249; clear HI0; clear HK; clear HB; have HO_250001 := n0_; have HO256 := n1_; have BK243 := n2_; have BK249 := n3_; have HI0 := n4_; have HK := n5_; have HB := n6_; clear n0_ n1_ n2_ n3_ n4_ n5_ n6_; clear hb ho25; obtain ⟨Ao26, co26, eo26⟩ := Kd.R_slice HO256.out; subst eo26) | ((with_reducible refine gate_callee (f := 80) rfl ?_); refine goesL_ (some 24) rfl rfl Try.func80 (by kernel_rfl) rfl #[.pointer (some ⟨g, 0, none⟩), .slice Ao26 y254.length co26] rfl lmB ?_; (with_reducible refine (spec_l40Rd_num.calls kj5 g s0_0 x1001_5 _ _ y254 t257 t258 w0 _ ?side1 ?side2 ?side3 ?side4 ?side5 A23.out).mono ?_); (case side1 => repeat (first | (with_reducible first | exact HI0.out | apply IsS121.alloc | apply IsS121.drewN | apply IsS121.drew | apply IsS121.set_1 | refine IsS121.far ?_ NB0_243.out _ | refine IsS121.far ?_ NB0_249.out _) | exact HI0.out)); (case side2 => repeat (first | (with_reducible first | exact HB.out | apply bwA | apply bwN | apply bwD | refine below_set ?_ (IsS121.ge HI0.out) | refine below_set ?_ GE243.out | refine below_set ?_ GE249.out) | exact HB.out)); (case side3 => exact kcR (Kd.R_reads' HO256.out).2.2); (case side4 => exact (Kd.R_reads' HO256.out).2.1); (case side5 => exact far_slice (IsS121.own_ne HI0.out HO256.out (by decide))); rintro e w27 ⟨rfl, hi, hb, hk⟩; refine ⟨_, rfl, ?_⟩; have n0_ := Aside0.mk (Kd.R_mono (Kd.R_keep (IsS121.apart (show IsS121 w0 _ g s0_0 x1001_5 from by repeat (first | (with_reducible first | exact HI0.out | apply IsS121.alloc | apply IsS121.drewN | apply IsS121.drew | apply IsS121.set_1 | refine IsS121.far ?_ NB0_243.out _ | refine IsS121.far ?_ NB0_249.out _) | exact HI0.out)) (rvR HO_250001.out) (by decide)) hk (fun _ h => h.2)) (fun _ h => h.1)); have n1_ := Aside0.mk (KeepBut.blk hk (g' := gb243) (o := .cells #[.int .i64 0, .slice none 0 0] 28 (0, 0)) (bvK BK243.out) NB243_0.out (by simp)); have n2_ := Aside0.mk (KeepBut.blk hk (g' := gb249) (o := .cells #[.int .i64 t244, .slice Ao13 t245.length co13] 28 (0, 0)) (bvK BK249.out) NB249_0.out (by simp)); have n3_ := Aside0.mk (Kd.R_mono (Kd.R_keep (IsS121.apart (show IsS121 w0 _ g s0_0 x1001_5 from by repeat (first | (with_reducible first | exact HI0.out | apply IsS121.alloc | apply IsS121.drewN | apply IsS121.drew | apply IsS121.set_1 | refine IsS121.far ?_ NB0_243.out _ | refine IsS121.far ?_ NB0_249.out _) | exact HI0.out)) (rvR HO256.out) (by decide)) hk (fun _ h => h.2)) (fun _ h => h.1)); have n4_ := Aside0.mk (KeepBut.trans (by repeat (first | (with_reducible first | exact HK.out | apply KeepBut.set_ | apply keep_drewN | apply keep_drew | apply keep_alloc | refine keep_far ?_ GW243.out _ | refine keep_far ?_ GW249.out _) | exact HK.out)) hk (.inl rfl)); have n5_ := Aside0.mk (hb); have n6_ := Aside0.mk (hi); clear HO_250001; clear BK243; clear BK249; clear HO256; clear HK; clear HB; clear HI0; have HO_250001 := n0_; have BK243 := n1_; have BK249 := n2_; have HO256 := n3_; have HK := n4_; have HB := n5_; have HI0 := n6_; clear n0_ n1_ n2_ n3_ n4_ n5_ n6_; (try clear hb); (try clear hb2); (try clear hk); (try clear hi); have hnb28 := NB249_243.out; have hnc28 := NB243_249.out; have hnb29 := NB249_0.out; have hnc29 := NB0_249.out; have hcz30_0 : w27.cell? ⟨gb249, 0, none⟩ = some (.int .i64 t244) := (blk_cell BK249.out 0).trans rfl; have hcz30_1 : w27.cell? ⟨gb249, 1, none⟩ = some (.slice Ao13 t245.length co13) := (blk_cell BK249.out 1).trans rfl; have hfz30_0 := blk_frozen BK249.out 0; have hfz30_1 := blk_frozen BK249.out 1; have hnb31 := NB243_0.out; have hnc31 := NB0_243.out; have hcz32_0 : w27.cell? ⟨gb243, 0, none⟩ = some (.int .i64 0) := (blk_cell BK243.out 0).trans rfl; have hcz32_1 : w27.cell? ⟨gb243, 1, none⟩ = some (.slice none 0 0) := (blk_cell BK243.out 1).trans rfl; have hfz32_0 := blk_frozen BK243.out 0; have hfz32_1 := blk_frozen BK243.out 1))
     refine bodyPost_ret (results_cell_row rfl _ _ gb243 28 #[.int .i64 t257, .slice Ao13 t245.length co13] (0, 0) _ rfl (by (with_reducible repeat (first | refine blk_drewN ?_ _ | refine blk_drew ?_ | refine blk_alloc ?_ _)); refine blk_put (cs := #[.int .i64 t257, .slice none 0 0]) ?_ 1 _ rfl; (with_reducible repeat (first | refine blk_drewN ?_ _ | refine blk_drew ?_ | refine blk_alloc ?_ _)); refine blk_put (cs := #[.int .i64 0, .slice none 0 0]) ?_ 0 _ rfl; (with_reducible repeat (first | refine blk_drewN ?_ _ | refine blk_drew ?_ | refine blk_alloc ?_ _)); refine blk_far ?_ NB243_249.out _; (with_reducible repeat (first | refine blk_drewN ?_ _ | refine blk_drew ?_ | refine blk_alloc ?_ _)); exact BK243.out) Try.underlying28 rfl (by kernel_rfl)) rfl ?_
     exact ⟨_, ers, by (with_reducible repeat (first | apply Kd.R_alloc | apply Kd.R_drewN | apply Kd.R_drew)); exact Kd.R_mono (Kd.R_far (p := ⟨gb243, 1, none⟩) (Kd.R_far (p := ⟨gb243, 0, none⟩) (Kd.R_far (p := ⟨gb249, 0, none⟩) (Kd.R_types (Kd.R_types HO_250001.out BK249.out (by decide)) BK243.out (by decide)) (fun _ hk => hk.1.2) (.int .i64 t257)) (fun _ hk => hk.2) (.int .i64 t257)) (fun _ hk => hk.2) (.slice Ao13 t245.length co13)) (fun _ hk => trivial), by repeat (first | (with_reducible first | exact HI0.out | apply IsS121.alloc | apply IsS121.drewN | apply IsS121.drew | apply IsS121.set_1 | refine IsS121.far ?_ NB0_243.out _ | refine IsS121.far ?_ NB0_249.out _) | exact HI0.out), by repeat (first | (with_reducible first | exact HB.out | apply bwA | apply bwN | apply bwD | refine below_set ?_ (IsS121.ge HI0.out) | refine below_set ?_ GE243.out | refine below_set ?_ GE249.out) | exact HB.out), by repeat (first | (with_reducible first | exact HK.out | apply KeepBut.set_ | apply keep_drewN | apply keep_drew | apply keep_alloc | refine keep_far ?_ GW243.out _ | refine keep_far ?_ GW249.out _) | exact HK.out)⟩
    ·replace c22 := Bool.eq_false_iff.mpr c22
     subst c22
     have H1 : ((spec_l40Rd_pick.f kj5 s0_0 x1001_5 (t245.length : Int)).bind fun bt259 => ((spec_l40Rd_num.f kj5 s0_0 bt259.2 (([(-1), wrap64 (2 * (wrap64 ((wrap64 (1 + t244)) + bt259.1)))] : List Int))).bind fun bt264 => (if 0 ≤ bt259.1 then (if bt259.1 < (t245.length : Int) then (some (t244, (t245.set (bt259.1 : Int).toNat (⟨bt264.1, 0⟩ : S92)), bt264.2)) else (none)) else (none)))) = some (r1, r2, r3) := by rw [if_neg (show ¬ (false = true) by decide)] at H; exact H
     clear H
     have H := H1
     clear H1
     replace H := Option.bind_eq_some_iff.mp H
     obtain ⟨⟨t259, t260⟩, A330, H⟩ := H
     replace H : ((spec_l40Rd_num.f kj5 s0_0 t260 (([(-1), wrap64 (2 * (wrap64 ((wrap64 (1 + t244)) + t259)))] : List Int))).bind fun bt264 => (if 0 ≤ t259 then (if t259 < (t245.length : Int) then (some (t244, (t245.set (t259 : Int).toNat (⟨bt264.1, 0⟩ : S92)), bt264.2)) else (none)) else (none))) = some (r1, r2, r3) := H
     have A33 := Aside0.mk A330
     clear A330
     obtain ⟨y261, hy261⟩ : ∃ y_ : List Int, y_ = (([(-1), wrap64 (2 * (wrap64 ((wrap64 (1 + t244)) + t259)))] : List Int)) := ⟨_, rfl⟩
     replace H : ((spec_l40Rd_num.f kj5 s0_0 t260 y261).bind fun bt264 => (if 0 ≤ t259 then (if t259 < (t245.length : Int) then (some (t244, (t245.set (t259 : Int).toNat (⟨bt264.1, 0⟩ : S92)), bt264.2)) else (none)) else (none))) = some (r1, r2, r3) := by first | (rw [hy261]; with_reducible exact H) | (have H2_ := (Option.bind_some _ _).symm.trans H; rw [hy261]; with_reducible exact H2_) | (have H2_ := (Option.bind_some _ _).symm.trans H; with_reducible exact H2_) | with_reducible exact H | (rw [hy261]; exact H) | exact H
     have Ny261 := Aside0.mk hy261
     clear hy261
     replace H := Option.bind_eq_some_iff.mp H
     obtain ⟨⟨t264, t265⟩, A340, H⟩ := H
     replace H : (if 0 ≤ t259 then (if t259 < (t245.length : Int) then (some (t244, (t245.set (t259 : Int).toNat (⟨t264, 0⟩ : S92)), t265)) else (none)) else (none)) = some (r1, r2, r3) := H
     have A34 := Aside0.mk A340
     clear A340
     by_cases c35 : 0 ≤ t259
     ·rw [if_pos c35] at H
      have c35b0 : decide (0 ≤ t259) = true := decide_eq_true c35
      clear c35
      by_cases c36 : t259 < (t245.length : Int)
      ·rw [if_pos c36] at H
       have c36b0 : decide (t259 < (t245.length : Int)) = true := decide_eq_true c36
       clear c36
       obtain ⟨y266, hy266⟩ : ∃ y_ : List (S92), y_ = (t245.set (t259 : Int).toNat (⟨t264, 0⟩ : S92)) := ⟨_, rfl⟩
       replace H : (some (t244, y266, t265)) = some (r1, r2, r3) := by first | (rw [hy266]; with_reducible exact H) | (have H2_ := (Option.bind_some _ _).symm.trans H; rw [hy266]; with_reducible exact H2_) | (have H2_ := (Option.bind_some _ _).symm.trans H; with_reducible exact H2_) | with_reducible exact H | (rw [hy266]; exact H) | exact H
       have Ny266 := Aside0.mk hy266
       clear hy266
       simp only [Option.some.injEq, Prod.mk.injEq] at H
       obtain ⟨rfl, rfl, rfl⟩ := H
       have hnb38 := NB249_243.out
       have hnc38 := NB243_249.out
       have hnb39 := NB249_0.out
       have hnc39 := NB0_249.out
       have hcz40_0 : wc.cell? ⟨gb249, 0, none⟩ = some (.int .i64 t244) := (blk_cell BK249.out 0).trans rfl
       have hcz40_1 : wc.cell? ⟨gb249, 1, none⟩ = some (.slice Ao13 t245.length co13) := (blk_cell BK249.out 1).trans rfl
       have hfz40_0 := blk_frozen BK249.out 0
       have hfz40_1 := blk_frozen BK249.out 1
       try go_wp2_with (first | ((with_reducible refine gate_callee (f := 79) rfl ?_); refine goesL_ (some 30) rfl rfl Try.func79 (by kernel_rfl) rfl #[.pointer (some ⟨g, 0, none⟩), .int .i64 (t245.length : Int)] rfl lmB ?_; (with_reducible refine (spec_l40Rd_pick.calls kj5 g s0_0 x1001_5 (t245.length : Int) t259 t260 w0 _ ?side1 ?side2 A33.out).mono ?_); (case side1 => repeat (first | (with_reducible first | exact HI0.out | apply IsS121.alloc | apply IsS121.drewN | apply IsS121.drew | apply IsS121.set_1 | refine IsS121.far ?_ NB0_243.out _ | refine IsS121.far ?_ NB0_249.out _) | exact HI0.out)); (case side2 => repeat (first | (with_reducible first | exact HB.out | apply bwA | apply bwN | apply bwD | refine below_set ?_ (IsS121.ge HI0.out) | refine below_set ?_ GE243.out | refine below_set ?_ GE249.out) | exact HB.out)); rintro e w41 ⟨rfl, hi, hb, hk⟩; refine ⟨_, rfl, ?_⟩; have n0_ := Aside0.mk (Kd.R_mono (Kd.R_keep (IsS121.apart (show IsS121 w0 _ g s0_0 x1001_5 from by repeat (first | (with_reducible first | exact HI0.out | apply IsS121.alloc | apply IsS121.drewN | apply IsS121.drew | apply IsS121.set_1 | refine IsS121.far ?_ NB0_243.out _ | refine IsS121.far ?_ NB0_249.out _) | exact HI0.out)) (rvR HO_250001.out) (by decide)) hk (fun _ h => h.2)) (fun _ h => h.1)); have n1_ := Aside0.mk (KeepBut.blk hk (g' := gb243) (o := .cells #[.int .i64 0, .slice none 0 0] 28 (0, 0)) (bvK BK243.out) NB243_0.out (by simp)); have n2_ := Aside0.mk (KeepBut.blk hk (g' := gb249) (o := .cells #[.int .i64 t244, .slice Ao13 t245.length co13] 28 (0, 0)) (bvK BK249.out) NB249_0.out (by simp)); have n3_ := Aside0.mk (KeepBut.trans (by repeat (first | (with_reducible first | exact HK.out | apply KeepBut.set_ | apply keep_drewN | apply keep_drew | apply keep_alloc | refine keep_far ?_ GW243.out _ | refine keep_far ?_ GW249.out _) | exact HK.out)) hk (.inl rfl)); have n4_ := Aside0.mk (hb); have n5_ := Aside0.mk (hi); clear HO_250001; clear BK243; clear BK249; clear HK; clear HB; clear HI0; have HO_250001 := n0_; have BK243 := n1_; have BK249 := n2_; have HK := n3_; have HB := n4_; have HI0 := n5_; clear n0_ n1_ n2_ n3_ n4_ n5_; (try clear hb); (try clear hb2); (try clear hk); (try clear hi)))
       have n0_ := Aside0.mk (Kd.R_drew HO_250001.out)
       have n1_ := Aside0.mk (blk_drew BK243.out)
       have n2_ := Aside0.mk (blk_drew BK249.out)
       have n3_ := Aside0.mk (IsS121.drew HI0.out)
       have n4_ := Aside0.mk (keep_drew HK.out)
       have n5_ := Aside0.mk (below_drew1 HB.out)
       clear HO_250001
       clear BK243
       clear BK249
       clear HI0
       clear HK
       clear HB
       have HO_250001 := n0_
       have BK243 := n1_
       have BK249 := n2_
       have HI0 := n3_
       have HK := n4_
       have HB := n5_
       clear n0_ n1_ n2_ n3_ n4_ n5_
       refine start_ (n := 15) (S := fun w' => w'.cell? ⟨gb249, 0, none⟩ = some (.int .i64 t244) ∧ w'.cell? ⟨gb249, 1, none⟩ = some (.slice Ao13 t245.length co13)) (ds := [14]) (Pt.bm 15 0) (by kernel_rfl) rfl rfl ⟨(blk_cell BK249.out 0).trans rfl, (blk_cell BK249.out 1).trans rfl⟩ (fun hHeld => ?_); refine with_tabW spec_l7Any.tab6 spec_l7Any.bits6 (fun HT_ HW_ => ?_)
       generalize w41.drew = w42 at HO_250001 BK243 BK249 HI0 HK HB hHeld ⊢
       refine Pt.pu 0 (some 31) (Pt.bm 15 1) (any_of HT_.out (by kernel_rfl)) ?_
       refine Pt.pu 2 (some 33) (Pt.bm 15 5) (any_of HT_.out (by kernel_rfl)) ?_
       refine Pt.pu 3 (some 34) (Pt.bm 15 13) (any_of HT_.out (by kernel_rfl)) ?_
       refine Pt.pu 4 (some 35) (Pt.bm 15 29) (any_of HT_.out (by kernel_rfl)) ?_
       refine Pt.pu 7 (some 38) (Pt.bm 15 157) (any_of HT_.out (by kernel_rfl)) ?_
       refine Pt.tk 1 (some 32) (Pt.bm 15 159) rfl rfl (take_ofW HT_.out HW_.out (by kernel_rfl)) hHeld (Or.inl ⟨by rfl, by rintro w' ⟨s0, s1⟩; go_simp; with_reducible rfl⟩) ?_
       refine Pt.tk 5 (some 36) (Pt.bm 15 191) rfl rfl (take_ofW HT_.out HW_.out (by kernel_rfl)) hHeld (Or.inl ⟨by rfl, by rintro w' ⟨s0, s1⟩; go_simp; with_reducible rfl⟩) ?_
       refine Pt.pu 6 (some 37) (Pt.bm 15 255) (any_of HT_.out (by kernel_rfl)) ?_
       refine Pt.pu 8 (some 39) (Pt.bm 15 511) (any_of HT_.out (by kernel_rfl)) ?_
       refine Pt.pu 9 (some 40) (Pt.bm 15 1023) (any_of HT_.out (by kernel_rfl)) ?_
       refine one_ (i := 10) (N := some 41) (Pt.bm 15 2047) rfl rfl (one_of HT_.out (by kernel_rfl)) (by decide) (fun K hK => ?_)
       refine Kd.R_lit_step (Kd.int .i64) _ 3 ?hg (N := 41) ?hd (xs := ([(-1), wrap64 (2 * (wrap64 ((wrap64 (1 + t244)) + t259)))] : List Int)) (inner := [.int .i64 (-1), .int .i64 (wrap64 (2 * (wrap64 ((wrap64 (1 + t244)) + t259))))]) (ok := fun _ => True) (okp := fun _ => True) ?hr ?hp (fun _ hk => hk) trivial (Below.refl _ _) (Nat.le_refl _) (by simp) ?_; (case hd => rfl); (case hg => rfl); (case hr => first | (go_simp; done) | (go_simp; rfl)); (case hp => exact (Reps.one (show Kd.M (Kd.int .i64) _ _ _ (-1) [.int .i64 (-1)] from rfl) (Reps.one (show Kd.M (Kd.int .i64) _ _ _ (wrap64 (2 * (wrap64 ((wrap64 (1 + t244)) + t259)))) [.int .i64 (wrap64 (2 * (wrap64 ((wrap64 (1 + t244)) + t259))))] from rfl) (Reps.none _ _))))
       intro v262 w43 ho44 hb hg_ hnew_
       clear hg_ hnew_
       (first | rw [← Ny261.out] at ho44 | (simp only [Int.reduceToNat] at ho44; rw [← Ny261.out] at ho44))
       have n0_ := Aside0.mk (Kd.R_below (rvR HO_250001.out) hb)
       have n1_ := Aside0.mk (Kd.R_lower ho44 (keep_size (w := w) (g := g) (row := none) (by repeat (first | (with_reducible first | exact HK.out | apply KeepBut.set_ | apply keep_drewN | apply keep_drew | apply keep_alloc | refine keep_far ?_ GW243.out _ | refine keep_far ?_ GW249.out _) | exact HK.out))))
       have n2_ := Aside0.mk (blk_below (g := gb243) (o := .cells #[.int .i64 0, .slice none 0 0] 28 (0, 0)) (bvK BK243.out) hb)
       have n3_ := Aside0.mk (blk_below (g := gb249) (o := .cells #[.int .i64 t244, .slice Ao13 t245.length co13] 28 (0, 0)) (bvK BK249.out) hb)
       have n4_ := Aside0.mk (IsS121.below (by repeat (first | (with_reducible first | exact HI0.out | apply IsS121.alloc | apply IsS121.drewN | apply IsS121.drew | apply IsS121.set_1 | refine IsS121.far ?_ NB0_243.out _ | refine IsS121.far ?_ NB0_249.out _) | exact HI0.out)) hb)
       have n5_ := Aside0.mk (KeepBut.trans (by repeat (first | (with_reducible first | exact HK.out | apply KeepBut.set_ | apply keep_drewN | apply keep_drew | apply keep_alloc | refine keep_far ?_ GW243.out _ | refine keep_far ?_ GW249.out _) | exact HK.out)) (KeepBut.of_below hb g none) (.inl rfl))
       have n6_ := Aside0.mk (below_step (by repeat (first | (with_reducible first | exact HB.out | apply bwA | apply bwN | apply bwD | refine below_set ?_ (IsS121.ge HI0.out) | refine below_set ?_ GE243.out | refine below_set ?_ GE249.out) | exact HB.out)) hb)
       clear HO_250001
       clear BK243
       clear BK249
       clear HI0
       clear HK
       clear HB
       have HO_250001 := n0_
       have HO263 := n1_
       have BK243 := n2_
       have BK249 := n3_
       have HI0 := n4_
       have HK := n5_
       have HB := n6_
       clear n0_ n1_ n2_ n3_ n4_ n5_ n6_
       clear hb ho44
       obtain ⟨Ao45, co45, eo45⟩ := Kd.R_slice HO263.out
       (first | subst eo45 | (injection eo45 with f1_ f2_ f3_; have f4_ := f1_.symm; have f5_ := f3_.symm; clear f1_ f2_ f3_; subst f4_; subst f5_))
       refine hK.out _ _ ⟨(blk_cell BK249.out 0).trans rfl, (blk_cell BK249.out 1).trans rfl⟩ (fun hHeld => ?_)
       clear hK K
       refine norm_ (a' := ?_) ?_ ?_
       rotate_left
       ·show Act.put _ (some 41) _ = _
        simp only [Act.put, List.setIfInBounds_toArray, List.set_cons_zero, List.set_cons_succ, i64_w, i32_w]
        rfl
       refine one_ (i := 11) (N := some 42) (Pt.bm 15 4095) rfl rfl (one_of HT_.out (by kernel_rfl)) (by decide) (fun K hK => ?_)
       refine goes_ Try.func80 (by kernel_rfl) rfl #[.pointer (some ⟨g, 0, none⟩), .slice Ao45 y261.length co45] (by rfl) rfl rfl lmB ?_
       with_reducible refine (spec_l40Rd_num.calls kj5 g s0_0 t260 _ _ y261 t264 t265 w0 _ ?side1 ?side2 ?side3 ?side4 ?side5 A34.out).mono ?_
       (case side1 => repeat (first | (with_reducible first | exact HI0.out | apply IsS121.alloc | apply IsS121.drewN | apply IsS121.drew | apply IsS121.set_1 | refine IsS121.far ?_ NB0_243.out _ | refine IsS121.far ?_ NB0_249.out _) | exact HI0.out))
       (case side2 => repeat (first | (with_reducible first | exact HB.out | apply bwA | apply bwN | apply bwD | refine below_set ?_ (IsS121.ge HI0.out) | refine below_set ?_ GE243.out | refine below_set ?_ GE249.out) | exact HB.out))
       (case side3 => exact kcR (Kd.R_reads' HO263.out).2.2)
       (case side4 => exact (Kd.R_reads' HO263.out).2.1)
       (case side5 => exact far_slice (IsS121.own_ne HI0.out HO263.out (by decide)))
       rintro e w46 ⟨rfl, hi, hb, hk⟩
       refine ⟨_, rfl, ?_⟩
       have n0_ := Aside0.mk (Kd.R_mono (Kd.R_keep (IsS121.apart (show IsS121 w0 _ g s0_0 t260 from by repeat (first | (with_reducible first | exact HI0.out | apply IsS121.alloc | apply IsS121.drewN | apply IsS121.drew | apply IsS121.set_1 | refine IsS121.far ?_ NB0_243.out _ | refine IsS121.far ?_ NB0_249.out _) | exact HI0.out)) (rvR HO_250001.out) (by decide)) hk (fun _ h => h.2)) (fun _ h => h.1))
       have n1_ := Aside0.mk (KeepBut.blk hk (g' := gb243) (o := .cells #[.int .i64 0, .slice none 0 0] 28 (0, 0)) (bvK BK243.out) NB243_0.out (by simp))
       have n2_ := Aside0.mk (KeepBut.blk hk (g' := gb249) (o := .cells #[.int .i64 t244, .slice Ao13 t245.length co13] 28 (0, 0)) (bvK BK249.out) NB249_0.out (by simp))
       have n3_ := Aside0.mk (Kd.R_mono (Kd.R_keep (IsS121.apart (show IsS121 w0 _ g s0_0 t260 from by repeat (first | (with_reducible first | exact HI0.out | apply IsS121.alloc | apply IsS121.drewN | apply IsS121.drew | apply IsS121.set_1 | refine IsS121.far ?_ NB0_243.out _ | refine IsS121.far ?_ NB0_249.out _) | exact HI0.out)) (rvR HO263.out) (by decide)) hk (fun _ h => h.2)) (fun _ h => h.1))
       have n4_ := Aside0.mk (KeepBut.trans (by repeat (first | (with_reducible first | exact HK.out | apply KeepBut.set_ | apply keep_drewN | apply keep_drew | apply keep_alloc | refine keep_far ?_ GW243.out _ | refine keep_far ?_ GW249.out _) | exact HK.out)) hk (.inl rfl))
       have n5_ := Aside0.mk (hb)
       have n6_ := Aside0.mk (hi)
       clear HO_250001
       clear BK243
       clear BK249
       clear HO263
       clear HK
       clear HB
       clear HI0
       have HO_250001 := n0_
       have BK243 := n1_
       have BK249 := n2_
       have HO263 := n3_
       have HK := n4_
       have HB := n5_
       have HI0 := n6_
       clear n0_ n1_ n2_ n3_ n4_ n5_ n6_
       (try clear hb)
       (try clear hb2)
       (try clear hk)
       (try clear hi)
       have p37 : 0 ≤ (t259 : Int) := oda
       have q37 : (t259 : Int) < ((t245.length : Int) : Int) := oda
       obtain ⟨go37, co37, eo37, gb37, gl37, cl37, HG37⟩ := Kd.R_form HO_250001.out (by omega)
       (first | cases eo37 | (injection eo37 with ea_ en_ ec_; (first | subst ea_ | (injection ea_ with ea_; subst ea_)); subst ec_; clear en_))
       have GB37 := Aside0.mk gb37
       have GG37 := Aside0.mk HG37
       clear gb37 gl37 HG37
       obtain ⟨ce37, hcl37, hM37, hcc37, hfr37⟩ := Kd.R_elem HO_250001.out z92 (t259 : Int) p37 q37
       obtain rfl := k92_openM hM37
       have hx37_0 : World.cell? _ ⟨go37, (t259 : Int).toNat * 2, none⟩ = some (.int .i64 ((rd_T92 t245 t259).f0)) := hcc37 0 _ rfl
       have hx37_1 : World.cell? _ ⟨go37, (t259 : Int).toNat * 2 + 1, none⟩ = some (.int .i64 ((rd_T92 t245 t259).f1)) := hcc37 1 _ rfl
       have hf37_0 : World.frozen? _ ⟨go37, (t259 : Int).toNat * 2, none⟩ = false := hfr37 0
       have hf37_1 : World.frozen? _ ⟨go37, (t259 : Int).toNat * 2 + 1, none⟩ = false := hfr37 1
       clear hcl37 hcc37 hfr37; (try clear hM37)
       replace p37 := eq_true p37
       replace q37 := eq_true q37
       have HN0_go37 := Aside0.mk (show g ≠ go37 from by have h_ := IsS121.own_ne HI0.out HO_250001.out (by decide); intro e_; exact h_ (by rw [e_]; rfl))
       obtain ⟨ce47, hcl47, hM47, hcc47, hfr47⟩ := Kd.R_elem HO_250001.out z92 (t259 : Int) (oda) (by have h_ : (t259 : Int) < ((t245.length : Int) : Int) := oda; first | exact h_ | (have e_ := (Kd.R_reads' HO_250001.out).1; omega) | simpa using h_)
       obtain rfl := k92_openM hM47
       have HP47 := (Kd.R_seg HO_250001.out (t259 : Int) (oda) (by have h_ : (t259 : Int) < ((t245.length : Int) : Int) := oda; first | exact h_ | (have e_ := (Kd.R_reads' HO_250001.out).1; omega) | simpa using h_) (seg := [.int .i64 t264, .int .i64 0]) (j := 0) hcl47 hcc47 (show 2 ≤ 2 from by decide) (x' := (⟨t264, 0⟩ : S92)) (k92_mkM _ _ _ (⟨t264, 0⟩ : S92) ) (fun _ hk => hk)).1
       rw [← Ny266.out] at HP47
       have HQ47 := Aside0.mk HP47
       clear hcl47 hcc47 hfr47 HP47; (try clear hM47)
       refine hK.out _ _ ⟨(blk_cell BK249.out 0).trans rfl, (blk_cell BK249.out 1).trans rfl⟩ (fun hHeld => ?_)
       clear hK K
       refine norm_ (a' := ?_) ?_ ?_
       rotate_left
       ·show Act.put _ (some 42) _ = _
        simp only [Act.put, List.setIfInBounds_toArray, List.set_cons_zero, List.set_cons_succ, i64_w, i32_w]
        rfl
       refine Pt.pu 12 (some 43) (Pt.bm 15 8191) (any_of HT_.out (by kernel_rfl)) ?_
       refine Pt.pu 13 (some 44) (Pt.bm 15 16383) (any_of HT_.out (by kernel_rfl)) ?_
       refine last_ (i := 14) (N := none) (Pt.bm 15 32767) rfl rfl (one_of HT_.out (by kernel_rfl)) (by decide) (fun K hK => ?_)
       refine skip_ (w1 := ?_) (by rfl) rfl ?_ ?_
       rotate_left
       ·go_simp
        rfl
       refine hK.out _ _ ?_
       clear hK K
       refine done_ (done_of HT_.out (by kernel_rfl)) ?_
       have n0_ : Aside0 (Kd.R k92 92 ((w46.setCell ⟨go37, (t259 : Int).toNat * 2, none⟩ (.int .i64 t264)).setCell ⟨go37, (t259 : Int).toNat * 2 + 1, none⟩ (.int .i64 0)) w.heap.size (fun _ => True) (.slice (some ⟨go37, 0, none⟩) t245.length co13) y266) := ⟨rvR HQ47.out⟩
       have n1_ : Aside0 (Kd.R (Kd.int .i64) 3 ((w46.setCell ⟨go37, (t259 : Int).toNat * 2, none⟩ (.int .i64 t264)).setCell ⟨go37, (t259 : Int).toNat * 2 + 1, none⟩ (.int .i64 0)) w.heap.size (fun _ => True) (.slice Ao45 y261.length co45) y261) := ⟨by (with_reducible repeat (first | apply Kd.R_alloc | apply Kd.R_drewN | apply Kd.R_drew)); exact Kd.R_mono (Kd.R_far (p := ⟨go37, (t259 : Int).toNat * 2 + 1, none⟩) (Kd.R_far (p := ⟨go37, (t259 : Int).toNat * 2, none⟩) (Kd.R_types HO263.out GG37.out (by decide)) (fun _ hk => hk.2) (.int .i64 t264)) (fun _ hk => hk.2) (.int .i64 0)) (fun _ hk => trivial)⟩
       have n2_ : Aside0 (((w46.setCell ⟨go37, (t259 : Int).toNat * 2, none⟩ (.int .i64 t264)).setCell ⟨go37, (t259 : Int).toNat * 2 + 1, none⟩ (.int .i64 0)).heap[gb243]? = some (.cells #[.int .i64 0, .slice none 0 0] 28 (0, 0))) := ⟨by (with_reducible repeat (first | refine blk_drewN ?_ _ | refine blk_drew ?_ | refine blk_alloc ?_ _)); refine blk_far ?_ (by have h_ := Kd.R_ne HO_250001.out BK243.out (by decide); intro e_; exact h_ (by rw [e_]; rfl)) _; (with_reducible repeat (first | refine blk_drewN ?_ _ | refine blk_drew ?_ | refine blk_alloc ?_ _)); refine blk_far ?_ (by have h_ := Kd.R_ne HO_250001.out BK243.out (by decide); intro e_; exact h_ (by rw [e_]; rfl)) _; (with_reducible repeat (first | refine blk_drewN ?_ _ | refine blk_drew ?_ | refine blk_alloc ?_ _)); exact BK243.out⟩
       have n3_ : Aside0 (((w46.setCell ⟨go37, (t259 : Int).toNat * 2, none⟩ (.int .i64 t264)).setCell ⟨go37, (t259 : Int).toNat * 2 + 1, none⟩ (.int .i64 0)).heap[gb249]? = some (.cells #[.int .i64 t244, .slice (some ⟨go37, 0, none⟩) t245.length co13] 28 (0, 0))) := ⟨by (with_reducible repeat (first | refine blk_drewN ?_ _ | refine blk_drew ?_ | refine blk_alloc ?_ _)); refine blk_far ?_ (by have h_ := Kd.R_ne HO_250001.out BK249.out (by decide); intro e_; exact h_ (by rw [e_]; rfl)) _; (with_reducible repeat (first | refine blk_drewN ?_ _ | refine blk_drew ?_ | refine blk_alloc ?_ _)); refine blk_far ?_ (by have h_ := Kd.R_ne HO_250001.out BK249.out (by decide); intro e_; exact h_ (by rw [e_]; rfl)) _; (with_reducible repeat (first | refine blk_drewN ?_ _ | refine blk_drew ?_ | refine blk_alloc ?_ _)); exact BK249.out⟩
       have n4_ : Aside0 (IsS121 w0 ((w46.setCell ⟨go37, (t259 : Int).toNat * 2, none⟩ (.int .i64 t264)).setCell ⟨go37, (t259 : Int).toNat * 2 + 1, none⟩ (.int .i64 0)) g s0_0 t265) := ⟨by repeat (first | (with_reducible first | exact HI0.out | apply IsS121.alloc | apply IsS121.drewN | apply IsS121.drew | apply IsS121.set_1 | refine IsS121.far ?_ HN0_go37.out _ | refine IsS121.far ?_ HN0_go37.out _ | refine IsS121.far ?_ NB0_243.out _ | refine IsS121.far ?_ NB0_249.out _) | exact HI0.out)⟩
       have n5_ : Aside0 (KeepBut w ((w46.setCell ⟨go37, (t259 : Int).toNat * 2, none⟩ (.int .i64 t264)).setCell ⟨go37, (t259 : Int).toNat * 2 + 1, none⟩ (.int .i64 0)) g none) := ⟨by repeat (first | (with_reducible first | exact HK.out | apply KeepBut.set_ | apply keep_drewN | apply keep_drew | apply keep_alloc | refine keep_far ?_ GB37.out _ | refine keep_far ?_ GB37.out _ | refine keep_far ?_ GW243.out _ | refine keep_far ?_ GW249.out _) | exact HK.out)⟩
       have n6_ : Aside0 (Below w0.heap.size w0 ((w46.setCell ⟨go37, (t259 : Int).toNat * 2, none⟩ (.int .i64 t264)).setCell ⟨go37, (t259 : Int).toNat * 2 + 1, none⟩ (.int .i64 0))) := ⟨by repeat (first | (with_reducible first | exact HB.out | apply bwA | apply bwN | apply bwD | refine below_set ?_ (Nat.le_trans HL.out GB37.out) | refine below_set ?_ (Nat.le_trans HL.out GB37.out) | refine below_set ?_ (IsS121.ge HI0.out) | refine below_set ?_ GE243.out | refine below_set ?_ GE249.out) | exact HB.out)⟩
       (try clear HO_250001)
       (try clear HO263)
       (try clear BK243)
       (try clear BK249)
       (try clear HI0)
       (try clear HK)
       (try clear HB)
       generalize ((w46.setCell ⟨go37, (t259 : Int).toNat * 2, none⟩ (.int .i64 t264)).setCell ⟨go37, (t259 : Int).toNat * 2 + 1, none⟩ (.int .i64 0)) = w48 at n0_ n1_ n2_ n3_ n4_ n5_ n6_ ⊢
       have HO_250001 := n0_
       have HO263 := n1_
       have BK243 := n2_
       have BK249 := n3_
       have HI0 := n4_
       have HK := n5_
       have HB := n6_
       clear n0_ n1_ n2_ n3_ n4_ n5_ n6_
       have hcz49_0 : w48.cell? ⟨gb249, 0, none⟩ = some (.int .i64 t244) := (blk_cell BK249.out 0).trans rfl
       have hcz49_1 : w48.cell? ⟨gb249, 1, none⟩ = some (.slice (some ⟨go37, 0, none⟩) t245.length co13) := (blk_cell BK249.out 1).trans rfl
       have hfz49_0 := blk_frozen BK249.out 0
       have hfz49_1 := blk_frozen BK249.out 1
       have hnb50 := NB243_0.out
       have hnc50 := NB0_243.out
       have hcz51_0 : w48.cell? ⟨gb243, 0, none⟩ = some (.int .i64 0) := (blk_cell BK243.out 0).trans rfl
       have hcz51_1 : w48.cell? ⟨gb243, 1, none⟩ = some (.slice none 0 0) := (blk_cell BK243.out 1).trans rfl
       have hfz51_0 := blk_frozen BK243.out 0
       have hfz51_1 := blk_frozen BK243.out 1
       try go_wp2
       refine bodyPost_ret (results_cell_row rfl _ _ gb243 28 #[.int .i64 t244, .slice (some ⟨go37, 0, none⟩) t245.length co13] (0, 0) _ rfl (by (with_reducible repeat (first | refine blk_drewN ?_ _ | refine blk_drew ?_ | refine blk_alloc ?_ _)); refine blk_put (cs := #[.int .i64 t244, .slice none 0 0]) ?_ 1 _ rfl; (with_reducible repeat (first | refine blk_drewN ?_ _ | refine blk_drew ?_ | refine blk_alloc ?_ _)); refine blk_put (cs := #[.int .i64 0, .slice none 0 0]) ?_ 0 _ rfl; (with_reducible repeat (first | refine blk_drewN ?_ _ | refine blk_drew ?_ | refine blk_alloc ?_ _)); exact BK243.out) Try.underlying28 rfl (by kernel_rfl)) rfl ?_
       exact ⟨_, ers, by (with_reducible repeat (first | apply Kd.R_alloc | apply Kd.R_drewN | apply Kd.R_drew)); exact Kd.R_mono (Kd.R_far (p := ⟨gb243, 1, none⟩) (Kd.R_far (p := ⟨gb243, 0, none⟩) (Kd.R_types HO_250001.out BK243.out (by decide)) (fun _ hk => hk.2) (.int .i64 t244)) (fun _ hk => hk.2) (.slice (some ⟨go37, 0, none⟩) t245.length co13)) (fun _ hk => trivial), by repeat (first | (with_reducible first | exact HI0.out | apply IsS121.alloc | apply IsS121.drewN | apply IsS121.drew | apply IsS121.set_1 | refine IsS121.far ?_ NB0_243.out _ | refine IsS121.far ?_ NB0_249.out _) | exact HI0.out), by repeat (first | (with_reducible first | exact HB.out | apply bwA | apply bwN | apply bwD | refine below_set ?_ (IsS121.ge HI0.out) | refine below_set ?_ GE243.out | refine below_set ?_ GE249.out) | exact HB.out), by repeat (first | (with_reducible first | exact HK.out | apply KeepBut.set_ | apply keep_drewN | apply keep_drew | apply keep_alloc | refine keep_far ?_ GW243.out _ | refine keep_far ?_ GW249.out _) | exact HK.out)⟩
      ·rw [if_neg c36] at H
       exact absurd H (by simp)
     ·rw [if_neg c35] at H
      exact absurd H (by simp)
 ·rw [if_neg c5] at H
  have c5b0 : (t250 == 0) = false := beq_eq_false_iff_ne.mpr c5
  have c5b1 : (t250 != 0) = true := bne_iff_ne.mpr c5
  simp only [Option.some.injEq, Prod.mk.injEq] at H
  obtain ⟨rfl, rfl, rfl⟩ := H
  go_enter Try.func78, Try.ntmps78
  go_wp2_with (first | ((with_reducible refine gate_dst (N := 4) rfl ?_); (try (refine gate_guard (by rfl) ?_; dsimp only)); refine box_event ?hg (N := 4) ?hd (cs := #[.int .i64 0, .slice none 0 0]) (t := 28) ?hr ?_; (case hd => rfl); (case hg => rfl); (case hr => first | (go_simp; done) | (go_simp; rfl)); intro gb243 hg w52 hbox hb; have n0_ := Aside0.mk (IsS121.below (by repeat (first | (with_reducible first | exact HI0.out | apply IsS121.alloc | apply IsS121.drewN | apply IsS121.drew | apply IsS121.set_1) | exact HI0.out)) hb); have n1_ := Aside0.mk (KeepBut.trans (by repeat (first | (with_reducible first | exact HK.out | apply KeepBut.set_ | apply keep_drewN | apply keep_drew | apply keep_alloc) | exact HK.out)) (KeepBut.of_below hb g none) (.inl rfl)); have n2_ := Aside0.mk (below_step (by repeat (first | (with_reducible first | exact HB.out | apply bwA | apply bwN | apply bwD | refine below_set ?_ (IsS121.ge HI0.out)) | exact HB.out)) hb); have n3_ := Aside0.mk (hbox); have n4_ := Aside0.mk ((by rw [hg]; exact (keep_size (w := w) (g := g) (row := none) (by repeat (first | (with_reducible first | exact HK.out | apply KeepBut.set_ | apply keep_drewN | apply keep_drew | apply keep_alloc) | exact HK.out))) : w.heap.size ≤ gb243)); have n5_ := Aside0.mk ((Nat.le_trans HW0.out (by rw [hg]; exact (keep_size (w := w) (g := g) (row := none) (by repeat (first | (with_reducible first | exact HK.out | apply KeepBut.set_ | apply keep_drewN | apply keep_drew | apply keep_alloc) | exact HK.out))) : w.heap.size ≤ gb243) : w0.heap.size ≤ gb243)); have n6_ := Aside0.mk ((by rw [hg]; exact Nat.ne_of_lt (IsS121.lt (show IsS121 w0 _ g s0_0 s0_1 from by repeat (first | (with_reducible first | exact HI0.out | apply IsS121.alloc | apply IsS121.drewN | apply IsS121.drew | apply IsS121.set_1) | exact HI0.out))) : g ≠ gb243)); have n7_ := Aside0.mk ((by rw [hg]; exact Nat.ne_of_gt (IsS121.lt (show IsS121 w0 _ g s0_0 s0_1 from by repeat (first | (with_reducible first | exact HI0.out | apply IsS121.alloc | apply IsS121.drewN | apply IsS121.drew | apply IsS121.set_1) | exact HI0.out))) : gb243 ≠ g)); clear HI0; clear HK; clear HB; have HI0 := n0_; have HK := n1_; have HB := n2_; have BK243 := n3_; have GW243 := n4_; have GE243 := n5_; have NB0_243 := n6_; have NB243_0 := n7_; clear n0_ n1_ n2_ n3_ n4_ n5_ n6_ n7_; clear hb hbox hg) | ((with_reducible refine gate_callee (f := 115) rfl ?_); refine goesL_ (some 9) rfl rfl Try.func115 (by kernel_rfl) rfl #[.pointer (some ⟨g, 0, none⟩), .int .i64 a1] rfl lmB ?_; (with_reducible refine (spec_l7Draw.calls k g s0_0 s0_1 a1 t244 t245 t248 w0 _ ?side1 ?side2 A3.out).mono ?_); (case side1 => repeat (first | (with_reducible first | exact HI0.out | apply IsS121.alloc | apply IsS121.drewN | apply IsS121.drew | apply IsS121.set_1 | refine IsS121.far ?_ NB0_243.out _) | exact HI0.out)); (case side2 => repeat (first | (with_reducible first | exact HB.out | apply bwA | apply bwN | apply bwD | refine below_set ?_ (IsS121.ge HI0.out) | refine below_set ?_ GE243.out) | exact HB.out)); rintro e w53 ⟨v246, rfl, ho0, hi, hb, hk⟩; refine ⟨_, rfl, ?_⟩; have n0_ := Aside0.mk (KeepBut.blk hk (g' := gb243) (o := .cells #[.int .i64 0, .slice none 0 0] 28 (0, 0)) (bvK BK243.out) NB243_0.out (by simp)); have n1_ := Aside0.mk (Kd.R_lower ho0 (keep_size (w := w) (g := g) (row := none) (by repeat (first | (with_reducible first | exact HK.out | apply KeepBut.set_ | apply keep_drewN | apply keep_drew | apply keep_alloc | refine keep_far ?_ GW243.out _) | exact HK.out)))); have n2_ := Aside0.mk (KeepBut.trans (by repeat (first | (with_reducible first | exact HK.out | apply KeepBut.set_ | apply keep_drewN | apply keep_drew | apply keep_alloc | refine keep_far ?_ GW243.out _) | exact HK.out)) hk (.inl rfl)); have n3_ := Aside0.mk (hb); have n4_ := Aside0.mk (hi); clear BK243; clear HK; clear HB; clear HI0; have BK243 := n0_; have HO247 := n1_; have HK := n2_; have HB := n3_; have HI0 := n4_; clear n0_ n1_ n2_ n3_ n4_; (try clear hb); (try clear hb2); (try clear hk); (try clear hi); (try clear ho0)) | ((with_reducible refine gate_dst (N := 5) rfl ?_); (try (refine gate_guard (by rfl) ?_; dsimp only)); refine box_event ?hg (N := 5) ?hd (cs := #[.int .i64 0, .slice none 0 0]) (t := 28) ?hr ?_; (case hd => rfl); (case hg => rfl); (case hr => first | (go_simp; done) | (go_simp; rfl)); intro gb249 hg w54 hbox hb; have n0_ := Aside0.mk (Kd.R_below (rvR HO247.out) hb); have n1_ := Aside0.mk (IsS121.below (by repeat (first | (with_reducible first | exact HI0.out | apply IsS121.alloc | apply IsS121.drewN | apply IsS121.drew | apply IsS121.set_1 | refine IsS121.far ?_ NB0_243.out _) | exact HI0.out)) hb); have n2_ := Aside0.mk (blk_below (g := gb243) (o := .cells #[.int .i64 0, .slice none 0 0] 28 (0, 0)) (bvK BK243.out) hb); have n3_ := Aside0.mk (KeepBut.trans (by repeat (first | (with_reducible first | exact HK.out | apply KeepBut.set_ | apply keep_drewN | apply keep_drew | apply keep_alloc | refine keep_far ?_ GW243.out _) | exact HK.out)) (KeepBut.of_below hb g none) (.inl rfl)); have n4_ := Aside0.mk (below_step (by repeat (first | (with_reducible first | exact HB.out | apply bwA | apply bwN | apply bwD | refine below_set ?_ (IsS121.ge HI0.out) | refine below_set ?_ GE243.out) | exact HB.out)) hb); have n5_ := Aside0.mk (hbox); have n6_ := Aside0.mk ((by rw [hg]; exact (keep_size (w := w) (g := g) (row := none) (by repeat (first | (with_reducible first | exact HK.out | apply KeepBut.set_ | apply keep_drewN | apply keep_drew | apply keep_alloc | refine keep_far ?_ GW243.out _) | exact HK.out))) : w.heap.size ≤ gb249)); have n7_ := Aside0.mk ((Nat.le_trans HW0.out (by rw [hg]; exact (keep_size (w := w) (g := g) (row := none) (by repeat (first | (with_reducible first | exact HK.out | apply KeepBut.set_ | apply keep_drewN | apply keep_drew | apply keep_alloc | refine keep_far ?_ GW243.out _) | exact HK.out))) : w.heap.size ≤ gb249) : w0.heap.size ≤ gb249)); have n8_ := Aside0.mk ((by rw [hg]; exact Nat.ne_of_lt (blk_lt (g := gb243) (o := .cells #[.int .i64 0, .slice none 0 0] 28 (0, 0)) (bvK BK243.out)) : gb243 ≠ gb249)); have n9_ := Aside0.mk ((by rw [hg]; exact Nat.ne_of_gt (blk_lt (g := gb243) (o := .cells #[.int .i64 0, .slice none 0 0] 28 (0, 0)) (bvK BK243.out)) : gb249 ≠ gb243)); have n10_ := Aside0.mk ((by rw [hg]; exact Nat.ne_of_lt (IsS121.lt (show IsS121 w0 _ g s0_0 t248 from by repeat (first | (with_reducible first | exact HI0.out | apply IsS121.alloc | apply IsS121.drewN | apply IsS121.drew | apply IsS121.set_1 | refine IsS121.far ?_ NB0_243.out _) | exact HI0.out))) : g ≠ gb249)); have n11_ := Aside0.mk ((by rw [hg]; exact Nat.ne_of_gt (IsS121.lt (show IsS121 w0 _ g s0_0 t248 from by repeat (first | (with_reducible first | exact HI0.out | apply IsS121.alloc | apply IsS121.drewN | apply IsS121.drew | apply IsS121.set_1 | refine IsS121.far ?_ NB0_243.out _) | exact HI0.out))) : gb249 ≠ g)); clear HO247; clear HI0; clear BK243; clear HK; clear HB; have HO247 := n0_; have HI0 := n1_; have BK243 := n2_; have HK := n3_; have HB := n4_; have BK249 := n5_; have GW249 := n6_; have GE249 := n7_; have NB243_249 := n8_; have NB249_243 := n9_; have NB0_249 := n10_; have NB249_0 := n11_; clear n0_ n1_ n2_ n3_ n4_ n5_ n6_ n7_ n8_ n9_ n10_ n11_; clear hb hbox hg; have hnb55 := NB249_243.out; have hnc55 := NB243_249.out; have hnb56 := NB249_0.out; have hnc56 := NB0_249.out; have hcz57_0 : w54.cell? ⟨gb249, 0, none⟩ = some (.int .i64 0) := (blk_cell BK249.out 0).trans rfl; have hcz57_1 : w54.cell? ⟨gb249, 1, none⟩ = some (.slice none 0 0) := (blk_cell BK249.out 1).trans rfl; have hfz57_0 := blk_frozen BK249.out 0; have hfz57_1 := blk_frozen BK249.out 1; obtain ⟨Ao58, co58, eo58⟩ := Kd.R_slice HO247.out; subst eo58) | ((with_reducible refine gate_callee (f := 79) rfl ?_); refine goesL_ (some 11) rfl rfl Try.func79 (by kernel_rfl) rfl #[.pointer (some ⟨g, 0, none⟩), .int .i64 14] rfl lmB ?_; (with_reducible refine (spec_l40Rd_pick.calls k g s0_0 t248 14 t250 t251 w0 _ ?side1 ?side2 A4.out).mono ?_); (case side1 => repeat (first | (with_reducible first | exact HI0.out | apply IsS121.alloc | apply IsS121.drewN | apply IsS121.drew | apply IsS121.set_1 | refine IsS121.far ?_ NB0_243.out _ | refine IsS121.far ?_ NB0_249.out _) | exact HI0.out)); (case side2 => repeat (first | (with_reducible first | exact HB.out | apply bwA | apply bwN | apply bwD | refine below_set ?_ (IsS121.ge HI0.out) | refine below_set ?_ GE243.out | refine below_set ?_ GE249.out) | exact HB.out)); rintro e w59 ⟨rfl, hi, hb, hk⟩; refine ⟨_, rfl, ?_⟩; have n0_ := Aside0.mk (KeepBut.blk hk (g' := gb243) (o := .cells #[.int .i64 0, .slice none 0 0] 28 (0, 0)) (by (with_reducible repeat (first | refine blk_drewN ?_ _ | refine blk_drew ?_ | refine blk_alloc ?_ _)); refine blk_far ?_ NB243_249.out _; (with_reducible repeat (first | refine blk_drewN ?_ _ | refine blk_drew ?_ | refine blk_alloc ?_ _)); refine blk_far ?_ NB243_249.out _; (with_reducible repeat (first | refine blk_drewN ?_ _ | refine blk_drew ?_ | refine blk_alloc ?_ _)); exact BK243.out) NB243_0.out (by simp)); have n1_ := Aside0.mk (Kd.R_mono (Kd.R_keep (IsS121.apart (show IsS121 w0 _ g s0_0 t248 from by repeat (first | (with_reducible first | exact HI0.out | apply IsS121.alloc | apply IsS121.drewN | apply IsS121.drew | apply IsS121.set_1 | refine IsS121.far ?_ NB0_243.out _ | refine IsS121.far ?_ NB0_249.out _) | exact HI0.out)) (by (with_reducible repeat (first | apply Kd.R_alloc | apply Kd.R_drewN | apply Kd.R_drew)); exact (Kd.R_mono (Kd.R_far (p := ⟨gb249, 1, none⟩) (Kd.R_far (p := ⟨gb249, 0, none⟩) (Kd.R_types HO247.out BK249.out (by decide)) (fun _ hk => hk.2) (.int .i64 t244)) (fun _ hk => hk.2) (.slice Ao58 t245.length co58)) (fun _ h_ => h_.1))) (by decide)) hk (fun _ h => h.2)) (fun _ h => h.1)); have n2_ := Aside0.mk (KeepBut.blk hk (g' := gb249) (o := .cells #[.int .i64 t244, .slice Ao58 t245.length co58] 28 (0, 0)) (by (with_reducible repeat (first | refine blk_drewN ?_ _ | refine blk_drew ?_ | refine blk_alloc ?_ _)); refine blk_put (cs := #[.int .i64 t244, .slice none 0 0]) ?_ 1 _ rfl; (with_reducible repeat (first | refine blk_drewN ?_ _ | refine blk_drew ?_ | refine blk_alloc ?_ _)); refine blk_put (cs := #[.int .i64 0, .slice none 0 0]) ?_ 0 _ rfl; (with_reducible repeat (first | refine blk_drewN ?_ _ | refine blk_drew ?_ | refine blk_alloc ?_ _)); exact BK249.out) NB249_0.out (by simp)); have n3_ := Aside0.mk (KeepBut.trans (by repeat (first | (with_reducible first | exact HK.out | apply KeepBut.set_ | apply keep_drewN | apply keep_drew | apply keep_alloc | refine keep_far ?_ GW243.out _ | refine keep_far ?_ GW249.out _) | exact HK.out)) hk (.inl rfl)); have n4_ := Aside0.mk (hb); have n5_ := Aside0.mk (hi); clear BK243; clear HO247; clear BK249; clear HK; clear HB; clear HI0; have BK243 := n0_; have HO247 := n1_; have BK249 := n2_; have HK := n3_; have HB := n4_; have HI0 := n5_; clear n0_ n1_ n2_ n3_ n4_ n5_; (try clear hb); (try clear hb2); (try clear hk); (try clear hi); have hcz60_0 : w59.cell? ⟨gb249, 0, none⟩ = some (.int .i64 t244) := (blk_cell BK249.out 0).trans rfl; have hcz60_1 : w59.cell? ⟨gb249, 1, none⟩ = some (.slice Ao58 t245.length co58) := (blk_cell BK249.out 1).trans rfl; have hfz60_0 := blk_frozen BK249.out 0; have hfz60_1 := blk_frozen BK249.out 1; have hnb61 := NB243_0.out; have hnc61 := NB0_243.out; have hcz62_0 : w59.cell? ⟨gb243, 0, none⟩ = some (.int .i64 0) := (blk_cell BK243.out 0).trans rfl; have hcz62_1 : w59.cell? ⟨gb243, 1, none⟩ = some (.slice none 0 0) := (blk_cell BK243.out 1).trans rfl; have hfz62_0 := blk_frozen BK243.out 0; have hfz62_1 := blk_frozen BK243.out 1))
  refine bodyPost_ret (results_cell_row rfl _ _ gb243 28 #[.int .i64 t244, .slice Ao58 t245.length co58] (0, 0) _ rfl (by (with_reducible repeat (first | refine blk_drewN ?_ _ | refine blk_drew ?_ | refine blk_alloc ?_ _)); refine blk_put (cs := #[.int .i64 t244, .slice none 0 0]) ?_ 1 _ rfl; (with_reducible repeat (first | refine blk_drewN ?_ _ | refine blk_drew ?_ | refine blk_alloc ?_ _)); refine blk_put (cs := #[.int .i64 0, .slice none 0 0]) ?_ 0 _ rfl; (with_reducible repeat (first | refine blk_drewN ?_ _ | refine blk_drew ?_ | refine blk_alloc ?_ _)); exact BK243.out) Try.underlying28 rfl (by kernel_rfl)) rfl ?_
  exact ⟨_, ers, by (with_reducible repeat (first | apply Kd.R_alloc | apply Kd.R_drewN | apply Kd.R_drew)); exact Kd.R_mono (Kd.R_far (p := ⟨gb243, 1, none⟩) (Kd.R_far (p := ⟨gb243, 0, none⟩) (Kd.R_types HO247.out BK243.out (by decide)) (fun _ hk => hk.2) (.int .i64 t244)) (fun _ hk => hk.2) (.slice Ao58 t245.length co58)) (fun _ hk => trivial), by repeat (first | (with_reducible first | exact HI0.out | apply IsS121.alloc | apply IsS121.drewN | apply IsS121.drew | apply IsS121.set_1 | refine IsS121.far ?_ NB0_243.out _ | refine IsS121.far ?_ NB0_249.out _) | exact HI0.out), by repeat (first | (with_reducible first | exact HB.out | apply bwA | apply bwN | apply bwD | refine below_set ?_ (IsS121.ge HI0.out) | refine below_set ?_ GE243.out | refine below_set ?_ GE249.out) | exact HB.out), by repeat (first | (with_reducible first | exact HK.out | apply KeepBut.set_ | apply keep_drewN | apply keep_drew | apply keep_alloc | refine keep_far ?_ GW243.out _ | refine keep_far ?_ GW249.out _) | exact HK.out)⟩

/-! ### spec_DrawFixed: function 26 -/
def spec_DrawFixed.f (k : Nat) (l0 : List Int) : Option (Int × (List (S92)) × Int × Int × Int) := (spec_l40Open.f l0).bind fun bt268 => ((spec_l7Any.f k bt268.1 bt268.2 5).bind fun bt271 => ((spec_l7Some.f k bt268.1 bt271.2.2 bt271.1 bt271.2.1).bind fun bt277 => ((spec_l40Rd_pick.f k bt268.1 bt277.2 (wrap64 (bt271.1 + 1))).bind fun bt279 => ((spec_l40Rd_num.f k bt268.1 bt279.2 (([0, 1, 1, 0, 1, 2, (-1), 0, 1] : List Int))).bind fun bt284 => (some (bt271.1, bt271.2.1, bt277.1, bt279.1, bt284.1))))))
theorem spec_DrawFixed.mono : ∀ a0 k, LeO (spec_DrawFixed.f k a0) (spec_DrawFixed.f (k + 1) a0) := by
 intro a0 k
 unfold spec_DrawFixed.f
 repeat' first
   | (with_reducible exact spec_l40Rd_num.mono _ _ _ _)
   | (with_reducible exact spec_l40Rd_pick.mono _ _ _ _)
   | (with_reducible exact spec_l7Any.mono _ _ _ _)
   | (with_reducible exact spec_l7Some.mono _ _ _ _ _)
   | (with_reducible exact LeO.refl _)
   | (with_reducible exact LeO.none _)
   | (with_reducible refine LeO.ite ?_ ?_)
   | (with_reducible refine LeO.bind ?_ (fun _ => ?_))
   | exact spec_l40Rd_num.mono _ _ _ _
   | exact spec_l40Rd_pick.mono _ _ _ _
   | exact spec_l7Any.mono _ _ _ _
   | exact spec_l7Some.mono _ _ _ _ _
   | exact LeO.none _
   | refine LeO.ite ?_ ?_
   | refine LeO.bind ?_ (fun _ => ?_)
def spec_DrawFixed.T4 : Bool × List (List Nat × List Nat) := (true, [([], []), ([], []), ([], []), ([], []), ([3], [3]), ([4], [4]), ([2, 5], [2, 5]), ([], []), ([], []), ([7, 8, 6], [7, 8]), ([0, 9, 0], [0]), ([1, 10, 0, 1, 10], [1]), ([6, 11, 0, 1, 2, 3, 4, 5, 6, 10, 11], [6]), ([9, 12, 0, 1, 2, 3, 4, 5, 6, 7, 8, 9, 10, 11, 12], [9])])
def spec_DrawFixed.B4 : List Nat := [0, 0, 0, 0, 8, 24, 60, 0, 0, 508, 1021, 2047, 4095, 8191]
theorem spec_DrawFixed.tab4 : rtab .any (opsOf Try.f26 4) = spec_DrawFixed.T4 := by kernel_rfl
theorem spec_DrawFixed.bits4 : waitsOk spec_DrawFixed.T4.2 spec_DrawFixed.B4 = true := by kernel_rfl
set_option maxHeartbeats 8000000 in
set_option maxRecDepth 100000 in
theorem spec_DrawFixed.calls (k : Nat) (A0 : Option Addr) (c0 : Nat) (l0 : List Int) (r1 : Int) (r2 : List (S92)) (r3 : Int) (r4 : Int) (r5 : Int) (w : World) (hr0 : Kd.C (Kd.int .u8) w A0 l0.length l0) (hc0 : l0.length ≤ c0) (h : spec_DrawFixed.f k l0 = some (r1, r2, r3, r4, r5)) :
  Calls Try.prog 26 #[.slice A0 l0.length c0] w fun e w' => ∃ v1_ : Value, e = .returned (.tuple #[.agg #[.int .i64 r1, v1_], .int .i64 r3, .int .i64 r4, .int .i64 r5]) ∧ Kd.R k92 92 w' w.heap.size (fun _ => True) v1_ r2 ∧ Below w.heap.size w w' := by
 have hu28 := Try.underlying28
 have HR0 := Aside0.mk hr0
 have HC0 := Aside0.mk hc0
 clear hr0 hc0
 have HB := Aside0.mk (Below.refl w.heap.size w)
 have H : ((spec_l40Open.f l0).bind fun bt268 => ((spec_l7Any.f k bt268.1 bt268.2 5).bind fun bt271 => ((spec_l7Some.f k bt268.1 bt271.2.2 bt271.1 bt271.2.1).bind fun bt277 => ((spec_l40Rd_pick.f k bt268.1 bt277.2 (wrap64 (bt271.1 + 1))).bind fun bt279 => ((spec_l40Rd_num.f k bt268.1 bt279.2 (([0, 1, 1, 0, 1, 2, (-1), 0, 1] : List Int))).bind fun bt284 => (some (bt271.1, bt271.2.1, bt277.1, bt279.1, bt284.1))))))) = some (r1, r2, r3, r4, r5) := h
 clear h
 replace H := Option.bind_eq_some_iff.mp H
 obtain ⟨⟨t268, t269⟩, A20, H⟩ := H
 replace H : ((spec_l7Any.f k t268 t269 5).bind fun bt271 => ((spec_l7Some.f k t268 bt271.2.2 bt271.1 bt271.2.1).bind fun bt277 => ((spec_l40Rd_pick.f k t268 bt277.2 (wrap64 (bt271.1 + 1))).bind fun bt279 => ((spec_l40Rd_num.f k t268 bt279.2 (([0, 1, 1, 0, 1, 2, (-1), 0, 1] : List Int))).bind fun bt284 => (some (bt271.1, bt271.2.1, bt277.1, bt279.1, bt284.1)))))) = some (r1, r2, r3, r4, r5) := H
 have A2 := Aside0.mk A20
 clear A20
 replace H := Option.bind_eq_some_iff.mp H
 obtain ⟨⟨t271, t272, t275⟩, A30, H⟩ := H
 replace H : ((spec_l7Some.f k t268 t275 t271 t272).bind fun bt277 => ((spec_l40Rd_pick.f k t268 bt277.2 (wrap64 (t271 + 1))).bind fun bt279 => ((spec_l40Rd_num.f k t268 bt279.2 (([0, 1, 1, 0, 1, 2, (-1), 0, 1] : List Int))).bind fun bt284 => (some (t271, t272, bt277.1, bt279.1, bt284.1))))) = some (r1, r2, r3, r4, r5) := H
 have A3 := Aside0.mk A30
 clear A30
 replace H := Option.bind_eq_some_iff.mp H
 obtain ⟨⟨t277, t278⟩, A40, H⟩ := H
 replace H : ((spec_l40Rd_pick.f k t268 t278 (wrap64 (t271 + 1))).bind fun bt279 => ((spec_l40Rd_num.f k t268 bt279.2 (([0, 1, 1, 0, 1, 2, (-1), 0, 1] : List Int))).bind fun bt284 => (some (t271, t272, t277, bt279.1, bt284.1)))) = some (r1, r2, r3, r4, r5) := H
 have A4 := Aside0.mk A40
 clear A40
 replace H := Option.bind_eq_some_iff.mp H
 obtain ⟨⟨t279, t280⟩, A50, H⟩ := H
 replace H : ((spec_l40Rd_num.f k t268 t280 (([0, 1, 1, 0, 1, 2, (-1), 0, 1] : List Int))).bind fun bt284 => (some (t271, t272, t277, t279, bt284.1))) = some (r1, r2, r3, r4, r5) := H
 have A5 := Aside0.mk A50
 clear A50
 obtain ⟨y281, hy281⟩ : ∃ y_ : List Int, y_ = (([0, 1, 1, 0, 1, 2, (-1), 0, 1] : List Int)) := ⟨_, rfl⟩
 replace H : ((spec_l40Rd_num.f k t268 t280 y281).bind fun bt284 => (some (t271, t272, t277, t279, bt284.1))) = some (r1, r2, r3, r4, r5) := by first | (rw [hy281]; with_reducible exact H) | (have H2_ := (Option.bind_some _ _).symm.trans H; rw [hy281]; with_reducible exact H2_) | (have H2_ := (Option.bind_some _ _).symm.trans H; with_reducible exact H2_) | with_reducible exact H | (rw [hy281]; exact H) | exact H
 have Ny281 := Aside0.mk hy281
 clear hy281
 replace H := Option.bind_eq_some_iff.mp H
 obtain ⟨⟨t284, t285⟩, A60, H⟩ := H
 replace H : (some (t271, t272, t277, t279, t284)) = some (r1, r2, r3, r4, r5) := H
 have A6 := Aside0.mk A60
 clear A60
 simp only [Option.some.injEq, Prod.mk.injEq] at H
 obtain ⟨rfl, rfl, rfl, rfl, rfl⟩ := H
 go_enter Try.func26, Try.ntmps26
 try go_wp2_with (first | ((with_reducible refine gate_dst (N := 2) rfl ?_); refine box_event ?hg (N := 2) ?hd (cs := #[.int .i64 0, .slice none 0 0]) (t := 28) ?hr ?_; (case hd => rfl); (case hg => rfl); (case hr => first | (go_simp; done) | (go_simp; rfl)); intro gb267 hg w7 hbox hb; have n0_ := Aside0.mk (below_step hbB hb); have n1_ := Aside0.mk (hbox); have n2_ := Aside0.mk ((gwb hg (below_size hbB) : w.heap.size ≤ gb267)); have n3_ := n2_; clear HB; have HB := n0_; have BK267 := n1_; have GW267 := n2_; have GE267 := n3_; clear n0_ n1_ n2_ n3_; clear hb hbox hg) | ((with_reducible refine gate_callee (f := 67) rfl ?_); refine goesL_ (some 10) rfl rfl Try.func67 (by kernel_rfl) rfl #[.slice A0 l0.length c0] rfl lmB ?_; (with_reducible refine (spec_l40Open.calls _ _ l0 t268 t269 w _ ?side1 ?side2 ?side3 A2.out).mono ?_); (case side1 => repeat (first | (with_reducible first | exact HB.out | apply bwA | apply bwN | apply bwD | refine below_set ?_ GE267.out) | exact HB.out)); (case side2 => exact HR0.out); (case side3 => exact HC0.out); rintro e w8 ⟨g270, rfl, hi, hb, hb2⟩; refine ⟨_, rfl, ?_⟩; have n0_ := Aside0.mk (blk_below (g := gb267) (o := .cells #[.int .i64 0, .slice none 0 0] 28 (0, 0)) (bvK BK267.out) hb2); have n1_ := Aside0.mk (hb); have n2_ := Aside0.mk (hi); have n3_ := Aside0.mk (IsS121.ne_blk hi (blk_below (g := gb267) (o := .cells #[.int .i64 0, .slice none 0 0] 28 (0, 0)) (bvK BK267.out) hb2) (by decide)); have n4_ := Aside0.mk (Ne.symm (IsS121.ne_blk hi (blk_below (g := gb267) (o := .cells #[.int .i64 0, .slice none 0 0] 28 (0, 0)) (bvK BK267.out) hb2) (by decide))); clear BK267; clear HB; have BK267 := n0_; have HB := n1_; have HI270 := n2_; have NB270_267 := n3_; have NB267_270 := n4_; clear n0_ n1_ n2_ n3_ n4_; (try clear hb); (try clear hb2); (try clear hk); (try clear hi)) | ((with_reducible refine gate_callee (f := 78) rfl ?_); refine goesL_ (some 12) rfl rfl Try.func78 (by kernel_rfl) rfl #[.pointer (some ⟨g270, 0, none⟩), .int .i64 5] rfl lmB ?_; (with_reducible refine (spec_l7Any.calls k g270 t268 t269 5 t271 t272 t275 w _ ?side1 ?side2 A3.out).mono ?_); (case side1 => repeat (first | (with_reducible first | exact HI270.out | apply IsS121.alloc | apply IsS121.drewN | apply IsS121.drew | apply IsS121.set_1 | refine IsS121.far ?_ NB270_267.out _) | exact HI270.out)); (case side2 => repeat (first | (with_reducible first | exact HB.out | apply bwA | apply bwN | apply bwD | refine below_set ?_ (IsS121.ge HI270.out) | refine below_set ?_ GE267.out) | exact HB.out)); rintro e w9 ⟨v273, rfl, ho0, hi, hb, hk⟩; refine ⟨_, rfl, ?_⟩; have n0_ := Aside0.mk (KeepBut.blk hk (g' := gb267) (o := .cells #[.int .i64 0, .slice none 0 0] 28 (0, 0)) (bvK BK267.out) NB267_270.out (by simp)); have n1_ := Aside0.mk (Kd.R_lower ho0 (below_size (by repeat (first | (with_reducible first | exact HB.out | apply bwA | apply bwN | apply bwD | refine below_set ?_ (IsS121.ge HI270.out) | refine below_set ?_ GE267.out) | exact HB.out)))); have n2_ := Aside0.mk (hb); have n3_ := Aside0.mk (hi); clear BK267; clear HB; clear HI270; have BK267 := n0_; have HO274 := n1_; have HB := n2_; have HI270 := n3_; clear n0_ n1_ n2_ n3_; (try clear hb); (try clear hb2); (try clear hk); (try clear hi); (try clear ho0)) | ((with_reducible refine gate_dst (N := 7) rfl ?_); refine box_event ?hg (N := 7) ?hd (cs := #[.int .i64 0, .slice none 0 0]) (t := 28) ?hr ?_; (case hd => rfl); (case hg => rfl); (case hr => first | (go_simp; done) | (go_simp; rfl)); intro gb276 hg w10 hbox hb; have n0_ := Aside0.mk (Kd.R_below (rvR HO274.out) hb); have n1_ := Aside0.mk (blk_below (g := gb267) (o := .cells #[.int .i64 0, .slice none 0 0] 28 (0, 0)) (bvK BK267.out) hb); have n2_ := Aside0.mk (IsS121.below (by repeat (first | (with_reducible first | exact HI270.out | apply IsS121.alloc | apply IsS121.drewN | apply IsS121.drew | apply IsS121.set_1 | refine IsS121.far ?_ NB270_267.out _) | exact HI270.out)) hb); have n3_ := Aside0.mk (below_step (by repeat (first | (with_reducible first | exact HB.out | apply bwA | apply bwN | apply bwD | refine below_set ?_ (IsS121.ge HI270.out) | refine below_set ?_ GE267.out) | exact HB.out)) hb); have n4_ := Aside0.mk (hbox); have n5_ := Aside0.mk ((by rw [hg]; exact (below_size (by repeat (first | (with_reducible first | exact HB.out | apply bwA | apply bwN | apply bwD | refine below_set ?_ (IsS121.ge HI270.out) | refine below_set ?_ GE267.out) | exact HB.out))) : w.heap.size ≤ gb276)); have n6_ := Aside0.mk ((by rw [hg]; exact (below_size (by repeat (first | (with_reducible first | exact HB.out | apply bwA | apply bwN | apply bwD | refine below_set ?_ (IsS121.ge HI270.out) | refine below_set ?_ GE267.out) | exact HB.out))) : w.heap.size ≤ gb276)); have n7_ := Aside0.mk ((by rw [hg]; exact Nat.ne_of_lt (blk_lt (g := gb267) (o := .cells #[.int .i64 0, .slice none 0 0] 28 (0, 0)) (bvK BK267.out)) : gb267 ≠ gb276)); have n8_ := Aside0.mk ((by rw [hg]; exact Nat.ne_of_gt (blk_lt (g := gb267) (o := .cells #[.int .i64 0, .slice none 0 0] 28 (0, 0)) (bvK BK267.out)) : gb276 ≠ gb267)); have n9_ := Aside0.mk ((by rw [hg]; exact Nat.ne_of_lt (IsS121.lt (show IsS121 w _ g270 t268 t275 from by repeat (first | (with_reducible first | exact HI270.out | apply IsS121.alloc | apply IsS121.drewN | apply IsS121.drew | apply IsS121.set_1 | refine IsS121.far ?_ NB270_267.out _) | exact HI270.out))) : g270 ≠ gb276)); have n10_ := Aside0.mk ((by rw [hg]; exact Nat.ne_of_gt (IsS121.lt (show IsS121 w _ g270 t268 t275 from by repeat (first | (with_reducible first | exact HI270.out | apply IsS121.alloc | apply IsS121.drewN | apply IsS121.drew | apply IsS121.set_1 | refine IsS121.far ?_ NB270_267.out _) | exact HI270.out))) : gb276 ≠ g270)); clear HO274; clear BK267; clear HI270; clear HB; have HO274 := n0_; have BK267 := n1_; have HI270 := n2_; have HB := n3_; have BK276 := n4_; have GW276 := n5_; have GE276 := n6_; have NB267_276 := n7_; have NB276_267 := n8_; have NB270_276 := n9_; have NB276_270 := n10_; clear n0_ n1_ n2_ n3_ n4_ n5_ n6_ n7_ n8_ n9_ n10_; clear hb hbox hg; have hnb11 := NB276_267.out; have hnc11 := NB267_276.out; have hnb12 := NB276_270.out; have hnc12 := NB270_276.out; have hcz13_0 : w10.cell? ⟨gb276, 0, none⟩ = some (.int .i64 0) := (blk_cell BK276.out 0).trans rfl; have hcz13_1 : w10.cell? ⟨gb276, 1, none⟩ = some (.slice none 0 0) := (blk_cell BK276.out 1).trans rfl; have hfz13_0 := blk_frozen BK276.out 0; have hfz13_1 := blk_frozen BK276.out 1; obtain ⟨Ao14, co14, eo14⟩ := Kd.R_slice HO274.out; subst eo14) | ((with_reducible refine gate_callee (f := 68) rfl ?_); refine goesL_ (some 15) rfl rfl Try.func68 (by kernel_rfl) rfl #[.pointer (some ⟨g270, 0, none⟩), .agg #[.int .i64 t271, .slice Ao14 t272.length co14]] rfl lmB ?_; (with_reducible refine (spec_l7Some.calls k g270 t268 t275 t271 _ _ t272 t277 t278 w _ ?side1 ?side2 ?side3 ?side4 A4.out).mono ?_); (case side1 => repeat (first | (with_reducible first | exact HI270.out | apply IsS121.alloc | apply IsS121.drewN | apply IsS121.drew | apply IsS121.set_1 | refine IsS121.far ?_ NB270_267.out _ | refine IsS121.far ?_ NB270_276.out _) | exact HI270.out)); (case side2 => repeat (first | (with_reducible first | exact HB.out | apply bwA | apply bwN | apply bwD | refine below_set ?_ (IsS121.ge HI270.out) | refine below_set ?_ GE267.out | refine below_set ?_ GE276.out) | exact HB.out)); (case side3 => exact Kd.C_foot_own (IsS121.apart (show IsS121 w _ g270 t268 t275 from by repeat (first | (with_reducible first | exact HI270.out | apply IsS121.alloc | apply IsS121.drewN | apply IsS121.drew | apply IsS121.set_1 | refine IsS121.far ?_ NB270_267.out _ | refine IsS121.far ?_ NB270_276.out _) | exact HI270.out)) (by (with_reducible repeat (first | apply Kd.R_alloc | apply Kd.R_drewN | apply Kd.R_drew)); exact (Kd.R_mono (Kd.R_far (p := ⟨gb276, 1, none⟩) (Kd.R_far (p := ⟨gb276, 0, none⟩) (Kd.R_types HO274.out BK276.out (by decide)) (fun _ hk => hk.2) (.int .i64 t271)) (fun _ hk => hk.2) (.slice Ao14 t272.length co14)) (fun _ h_ => h_.1))) (by decide)) (fun _ h_ => h_.2)); (case side4 => exact (Kd.R_reads' HO274.out).2.1); rintro e w15 ⟨rfl, hi, hb, hk⟩; refine ⟨_, rfl, ?_⟩; have n0_ := Aside0.mk (KeepBut.blk hk (g' := gb267) (o := .cells #[.int .i64 0, .slice none 0 0] 28 (0, 0)) (by (with_reducible repeat (first | refine blk_drewN ?_ _ | refine blk_drew ?_ | refine blk_alloc ?_ _)); refine blk_far ?_ NB267_276.out _; (with_reducible repeat (first | refine blk_drewN ?_ _ | refine blk_drew ?_ | refine blk_alloc ?_ _)); refine blk_far ?_ NB267_276.out _; (with_reducible repeat (first | refine blk_drewN ?_ _ | refine blk_drew ?_ | refine blk_alloc ?_ _)); exact BK267.out) NB267_270.out (by simp)); have n1_ := Aside0.mk (Kd.R_mono (Kd.R_keep (IsS121.apart (show IsS121 w _ g270 t268 t275 from by repeat (first | (with_reducible first | exact HI270.out | apply IsS121.alloc | apply IsS121.drewN | apply IsS121.drew | apply IsS121.set_1 | refine IsS121.far ?_ NB270_267.out _ | refine IsS121.far ?_ NB270_276.out _) | exact HI270.out)) (by (with_reducible repeat (first | apply Kd.R_alloc | apply Kd.R_drewN | apply Kd.R_drew)); exact (Kd.R_mono (Kd.R_far (p := ⟨gb276, 1, none⟩) (Kd.R_far (p := ⟨gb276, 0, none⟩) (Kd.R_types HO274.out BK276.out (by decide)) (fun _ hk => hk.2) (.int .i64 t271)) (fun _ hk => hk.2) (.slice Ao14 t272.length co14)) (fun _ h_ => h_.1))) (by decide)) hk (fun _ h => h.2)) (fun _ h => h.1)); have n2_ := Aside0.mk (KeepBut.blk hk (g' := gb276) (o := .cells #[.int .i64 t271, .slice Ao14 t272.length co14] 28 (0, 0)) (by (with_reducible repeat (first | refine blk_drewN ?_ _ | refine blk_drew ?_ | refine blk_alloc ?_ _)); refine blk_put (cs := #[.int .i64 t271, .slice none 0 0]) ?_ 1 _ rfl; (with_reducible repeat (first | refine blk_drewN ?_ _ | refine blk_drew ?_ | refine blk_alloc ?_ _)); refine blk_put (cs := #[.int .i64 0, .slice none 0 0]) ?_ 0 _ rfl; (with_reducible repeat (first | refine blk_drewN ?_ _ | refine blk_drew ?_ | refine blk_alloc ?_ _)); exact BK276.out) NB276_270.out (by simp)); have n3_ := Aside0.mk (hb); have n4_ := Aside0.mk (hi); clear BK267; clear HO274; clear BK276; clear HB; clear HI270; have BK267 := n0_; have HO274 := n1_; have BK276 := n2_; have HB := n3_; have HI270 := n4_; clear n0_ n1_ n2_ n3_ n4_; (try clear hb); (try clear hb2); (try clear hk); (try clear hi)))
 have n0_ := Aside0.mk (Kd.R_drew HO274.out)
 have n1_ := Aside0.mk (blk_drew BK267.out)
 have n2_ := Aside0.mk (blk_drew BK276.out)
 have n3_ := Aside0.mk (IsS121.drew HI270.out)
 have n4_ := Aside0.mk (below_drew1 HB.out)
 clear HO274
 clear BK267
 clear BK276
 clear HI270
 clear HB
 have HO274 := n0_
 have BK267 := n1_
 have BK276 := n2_
 have HI270 := n3_
 have HB := n4_
 clear n0_ n1_ n2_ n3_ n4_
 refine start_ (n := 14) (S := fun w' => True) (ds := []) (Pt.bm 14 0) (by kernel_rfl) rfl rfl trivial (fun hHeld => ?_); refine with_tabW spec_DrawFixed.tab4 spec_DrawFixed.bits4 (fun HT_ HW_ => ?_)
 generalize w15.drew = w16 at HO274 BK267 BK276 HI270 HB hHeld ⊢
 refine Pt.pu 1 (some 17) (Pt.bm 14 2) (any_of HT_.out (by kernel_rfl)) ?_
 refine Pt.pu 2 (some 18) (Pt.bm 14 6) (any_of HT_.out (by kernel_rfl)) ?_
 refine Pt.pu 3 (some 19) (Pt.bm 14 14) (any_of HT_.out (by kernel_rfl)) ?_
 refine Pt.pu 7 (some 23) (Pt.bm 14 142) (any_of HT_.out (by kernel_rfl)) ?_
 refine inv_at [0, 4, 5, 6, 8, 9, 10, 11, 12, 13] (fun a0_ b a w' => ∃ (v282 : Value), a = putSel a0_ b [(0, 16, .agg #[.int .i64 t271, .slice Ao14 t272.length co14]), (4, 20, .int .i64 t271), (5, 21, .int .i64 (wrap64 (t271 + 1))), (6, 22, .int .i64 t279), (8, 24, v282), (9, 25, .int .i64 t284), (11, 3, .int .i64 t277), (12, 4, .int .i64 t279), (13, 5, .int .i64 t284)] ∧ (Kd.R k92 92 w' w.heap.size (fun _ => True) (.slice Ao14 t272.length co14) t272) ∧ (b 10 = false → w'.heap[gb267]? = some (.cells #[.int .i64 0, .slice none 0 0] 28 (0, 0))) ∧ (w'.heap[gb276]? = some (.cells #[.int .i64 t271, .slice Ao14 t272.length co14] 28 (0, 0))) ∧ (b 6 = false → IsS121 w w' g270 t268 t278) ∧ (Below w.heap.size w w') ∧ (b 6 = true → b 9 = false → IsS121 w w' g270 t268 t280) ∧ (b 8 = true → Kd.R (Kd.int .i64) 3 w' w.heap.size (fun _ => True) v282 y281) ∧ (b 9 = true → IsS121 w w' g270 t268 t285) ∧ (b 10 = true → w'.heap[gb267]? = some (.cells #[.int .i64 t271, .slice Ao14 t272.length co14] 28 (0, 0)))) HT_.out HW_.out (by kernel_rfl) (by kernel_rfl) ?_ ?_ ?_
 ·exact ⟨.bool false, by simp only [putSel, Bool.false_eq_true, if_false], HO274.out, fun _ => BK267.out, BK276.out, fun _ => HI270.out, HB.out, fun h_ => absurd h_ (by decide), fun h_ => absurd h_ (by decide), fun h_ => absurd h_ (by decide), fun h_ => absurd h_ (by decide)⟩
 ·skip
  clear BK267 BK276 HB HI270 HO274
  refine steps_cons ?_ ?_
  ·rintro b a w' ⟨v282, ha, Q_HO274, Q_BK267, Q_BK276, Q_HI270, Q_HB, Q_HI270_e6, Q_HO283, Q_HI270_e9, Q_BK267_e10⟩ hb_ hon hoff
   refine ⟨_, rfl, fun K hK => ?_⟩
   have e7 : a.tmps[7]? = some (.pointer (some ⟨gb276, 0, none⟩)) := by rw [ha]; exact (putSel_off rfl).trans rfl
   replace ha := Aside0.mk ha
   have HO274 := Aside0.mk Q_HO274
   have BK267 := Aside0.mk (Q_BK267 (hoff 10 (by kernel_rfl)))
   have BK276 := Aside0.mk Q_BK276
   have HB := Aside0.mk Q_HB
   have hc0_ : w'.cell? ⟨gb276, 0, none⟩ = some (.int .i64 t271) := (blk_cell BK276.out 0).trans rfl
   have hc1_ : w'.cell? ⟨gb276, 1, none⟩ = some (.slice Ao14 t272.length co14) := (blk_cell BK276.out 1).trans rfl
   refine value_ (w1 := w') (v := .agg #[.int .i64 t271, .slice Ao14 t272.length co14]) (by rfl) rfl ?_ ?_
   ·go_simp
    (try simp only [i64_w])
    try rfl
   refine hK.out _ _ ⟨v282, (by rw [ha.out]; exact putSel_upk 0 hb_ rfl rfl rfl), Q_HO274, Q_BK267, Q_BK276, Q_HI270, Q_HB, Q_HI270_e6, Q_HO283, Q_HI270_e9, fun h0_ => absurd ((hoff 10 (by kernel_rfl)).symm.trans h0_) (by decide)⟩
  refine steps_cons ?_ ?_
  ·rintro b a w' ⟨v282, ha, Q_HO274, Q_BK267, Q_BK276, Q_HI270, Q_HB, Q_HI270_e6, Q_HO283, Q_HI270_e9, Q_BK267_e10⟩ hb_ hon hoff
   refine ⟨_, rfl, fun K hK => ?_⟩
   have e19 : a.tmps[19]? = some (.pointer (some ⟨gb276, 0, none⟩)) := by rw [ha]; exact (putSel_off rfl).trans rfl
   replace ha := Aside0.mk ha
   have HO274 := Aside0.mk Q_HO274
   have BK267 := Aside0.mk (Q_BK267 (hoff 10 (by kernel_rfl)))
   have BK276 := Aside0.mk Q_BK276
   have HI270 := Aside0.mk (Q_HI270 (hoff 6 (by kernel_rfl)))
   have HB := Aside0.mk Q_HB
   have hc0_ : w'.cell? ⟨gb276, 0, none⟩ = some (.int .i64 t271) := (blk_cell BK276.out 0).trans rfl
   have hc1_ : w'.cell? ⟨gb276, 1, none⟩ = some (.slice Ao14 t272.length co14) := (blk_cell BK276.out 1).trans rfl
   refine value_ (w1 := w') (v := .int .i64 t271) (by rfl) rfl ?_ ?_
   ·go_simp
    (try simp only [i64_w])
    try rfl
   refine hK.out _ _ ⟨v282, (by rw [ha.out]; exact putSel_upk 1 hb_ rfl rfl rfl), Q_HO274, Q_BK267, Q_BK276, Q_HI270, Q_HB, fun h0_ _ => absurd ((hoff 6 (by kernel_rfl)).symm.trans h0_) (by decide), Q_HO283, fun h0_ => absurd ((hoff 9 (by kernel_rfl)).symm.trans h0_) (by decide), fun h0_ => absurd ((hoff 10 (by kernel_rfl)).symm.trans h0_) (by decide)⟩
  refine steps_cons ?_ ?_
  ·rintro b a w' ⟨v282, ha, Q_HO274, Q_BK267, Q_BK276, Q_HI270, Q_HB, Q_HI270_e6, Q_HO283, Q_HI270_e9, Q_BK267_e10⟩ hb_ hon hoff
   refine ⟨_, rfl, fun K hK => ?_⟩
   have e20 : a.tmps[20]? = some (.int .i64 t271) := by rw [ha]; exact putSel_on (e := (4, 20, .int .i64 t271)) 1 rfl rfl (hon 4 (by kernel_rfl)) rfl
   replace ha := Aside0.mk ha
   have HO274 := Aside0.mk Q_HO274
   have BK267 := Aside0.mk (Q_BK267 (hoff 10 (by kernel_rfl)))
   have BK276 := Aside0.mk Q_BK276
   have HI270 := Aside0.mk (Q_HI270 (hoff 6 (by kernel_rfl)))
   have HB := Aside0.mk Q_HB
   refine value_ (w1 := w') (v := .int .i64 (wrap64 (t271 + 1))) (by rfl) rfl ?_ ?_
   ·go_simp
    (try simp only [i64_w])
    try rfl
   refine hK.out _ _ ⟨v282, (by rw [ha.out]; exact putSel_upk 2 hb_ rfl rfl rfl), Q_HO274, Q_BK267, Q_BK276, Q_HI270, Q_HB, fun h0_ _ => absurd ((hoff 6 (by kernel_rfl)).symm.trans h0_) (by decide), Q_HO283, fun h0_ => absurd ((hoff 9 (by kernel_rfl)).symm.trans h0_) (by decide), fun h0_ => absurd ((hoff 10 (by kernel_rfl)).symm.trans h0_) (by decide)⟩
  refine steps_cons ?_ ?_
  ·rintro b a w' ⟨v282, ha, Q_HO274, Q_BK267, Q_BK276, Q_HI270, Q_HB, Q_HI270_e6, Q_HO283, Q_HI270_e9, Q_BK267_e10⟩ hb_ hon hoff
   refine ⟨_, rfl, fun K hK => ?_⟩
   have e18 : a.tmps[18]? = some (.pointer (some ⟨g270, 0, none⟩)) := by rw [ha]; exact (putSel_off rfl).trans rfl
   have e21 : a.tmps[21]? = some (.int .i64 (wrap64 (t271 + 1))) := by rw [ha]; exact putSel_on (e := (5, 21, .int .i64 (wrap64 (t271 + 1)))) 2 rfl rfl (hon 5 (by kernel_rfl)) rfl
   replace ha := Aside0.mk ha
   have HO274 := Aside0.mk Q_HO274
   have BK267 := Aside0.mk (Q_BK267 (hoff 10 (by kernel_rfl)))
   have BK276 := Aside0.mk Q_BK276
   have HI270 := Aside0.mk (Q_HI270 hb_)
   have HB := Aside0.mk Q_HB
   refine goes_ Try.func79 (by kernel_rfl) rfl #[.pointer (some ⟨g270, 0, none⟩), .int .i64 (wrap64 (t271 + 1))] (by rfl) rfl rfl (by first | (simp only [List.map_toArray, List.map_cons, List.map_nil, Act.eval, Array.getD_eq_getD_getElem?, Option.getD_some, e18, e21]; done) | (simp only [List.map_toArray, List.map_cons, List.map_nil, Act.eval, Array.getD_eq_getD_getElem?, Option.getD_some, e18, e21]; rfl)) ?_
   with_reducible refine (spec_l40Rd_pick.calls k g270 t268 t278 (wrap64 (t271 + 1)) t279 t280 w _ ?side1 ?side2 A5.out).mono ?_
   (case side1 => repeat (first | (with_reducible first | exact HI270.out | apply IsS121.alloc | apply IsS121.drewN | apply IsS121.drew | apply IsS121.set_1 | refine IsS121.far ?_ NB270_267.out _ | refine IsS121.far ?_ NB270_276.out _) | exact HI270.out))
   (case side2 => repeat (first | (with_reducible first | exact HB.out | apply bwA | apply bwN | apply bwD | refine below_set ?_ (IsS121.ge HI270.out) | refine below_set ?_ GE267.out | refine below_set ?_ GE276.out) | exact HB.out))
   rintro e w17 ⟨rfl, hi, hb, hk⟩
   refine ⟨_, rfl, ?_⟩
   have n0_ := Aside0.mk (KeepBut.blk hk (g' := gb267) (o := .cells #[.int .i64 0, .slice none 0 0] 28 (0, 0)) (bvK BK267.out) NB267_270.out (by simp))
   have n1_ := Aside0.mk (Kd.R_mono (Kd.R_keep (IsS121.apart (show IsS121 w _ g270 t268 t278 from by repeat (first | (with_reducible first | exact HI270.out | apply IsS121.alloc | apply IsS121.drewN | apply IsS121.drew | apply IsS121.set_1 | refine IsS121.far ?_ NB270_267.out _ | refine IsS121.far ?_ NB270_276.out _) | exact HI270.out)) (rvR HO274.out) (by decide)) hk (fun _ h => h.2)) (fun _ h => h.1))
   have n2_ := Aside0.mk (KeepBut.blk hk (g' := gb276) (o := .cells #[.int .i64 t271, .slice Ao14 t272.length co14] 28 (0, 0)) (bvK BK276.out) NB276_270.out (by simp))
   have n3_ := Aside0.mk (hb)
   have n4_ := Aside0.mk (hi)
   have z_HO283 := fun (h0_ : b 8 = true) => (show Kd.R (Kd.int .i64) 3 w17 w.heap.size (fun _ => True) v282 y281 from by first | exact (Kd.R_mono (Kd.R_keep (IsS121.apart (show IsS121 w _ g270 t268 t278 from by repeat (first | (with_reducible first | exact HI270.out | apply IsS121.alloc | apply IsS121.drewN | apply IsS121.drew | apply IsS121.set_1 | refine IsS121.far ?_ NB270_267.out _ | refine IsS121.far ?_ NB270_276.out _) | exact HI270.out)) (by (with_reducible repeat (first | apply Kd.R_alloc | apply Kd.R_drewN | apply Kd.R_drew)); exact (Q_HO283 h0_)) (by decide)) hk (fun _ h => h.2)) (fun _ h => h.1)) | exact Kd.R_mono (Kd.R_mono (Kd.R_keep (IsS121.apart (show IsS121 w _ g270 t268 t278 from by repeat (first | (with_reducible first | exact HI270.out | apply IsS121.alloc | apply IsS121.drewN | apply IsS121.drew | apply IsS121.set_1 | refine IsS121.far ?_ NB270_267.out _ | refine IsS121.far ?_ NB270_276.out _) | exact HI270.out)) (by (with_reducible repeat (first | apply Kd.R_alloc | apply Kd.R_drewN | apply Kd.R_drew)); exact (Q_HO283 h0_)) (by decide)) hk (fun _ h => h.2)) (fun _ h => h.1)) (fun _ h_ => by first | trivial | exact h_ | exact h_.1))
   clear BK267
   clear HO274
   clear BK276
   clear HB
   clear HI270
   have BK267 := n0_
   have HO274 := n1_
   have BK276 := n2_
   have HB := n3_
   have HI270 := n4_
   clear n0_ n1_ n2_ n3_ n4_
   (try clear hb)
   (try clear hb2)
   (try clear hk)
   (try clear hi)
   refine hK.out _ _ ⟨v282, (by rw [ha.out]; exact putSel_upk 3 hb_ rfl rfl rfl), (by (with_reducible repeat (first | apply Kd.R_alloc | apply Kd.R_drewN | apply Kd.R_drew)); first | exact HO274.out | exact Kd.R_mono HO274.out (fun _ _ => trivial)), fun _ => (bvK BK267.out), (bvK BK276.out), fun h0_ => absurd ((up_self b 6).symm.trans h0_) (by decide), (by repeat (first | (with_reducible first | exact HB.out | apply bwA | apply bwN | apply bwD | refine below_set ?_ (IsS121.ge HI270.out) | refine below_set ?_ GE267.out | refine below_set ?_ GE276.out) | exact HB.out)), fun _ _ => (by repeat (first | (with_reducible first | exact HI270.out | apply IsS121.alloc | apply IsS121.drewN | apply IsS121.drew | apply IsS121.set_1 | refine IsS121.far ?_ NB270_267.out _ | refine IsS121.far ?_ NB270_276.out _) | exact HI270.out)), z_HO283, fun h0_ => absurd ((hoff 9 (by kernel_rfl)).symm.trans h0_) (by decide), fun h0_ => absurd ((hoff 10 (by kernel_rfl)).symm.trans h0_) (by decide)⟩
  refine steps_cons ?_ ?_
  ·rintro b a w' ⟨v282, ha, Q_HO274, Q_BK267, Q_BK276, Q_HI270, Q_HB, Q_HI270_e6, Q_HO283, Q_HI270_e9, Q_BK267_e10⟩ hb_ hon hoff
   refine ⟨_, rfl, fun K hK => ?_⟩
   replace ha := Aside0.mk ha
   have HO274 := Aside0.mk Q_HO274
   have BK267 := Aside0.mk (Q_BK267 (hoff 10 (by kernel_rfl)))
   have BK276 := Aside0.mk Q_BK276
   have HB := Aside0.mk Q_HB
   refine Kd.R_lit_step (Kd.int .i64) _ 3 ?hg (N := 24) ?hd (xs := ([0, 1, 1, 0, 1, 2, (-1), 0, 1] : List Int)) (inner := [.int .i64 0, .int .i64 1, .int .i64 1, .int .i64 0, .int .i64 1, .int .i64 2, .int .i64 (-1), .int .i64 0, .int .i64 1]) (ok := fun _ => True) (okp := fun _ => True) ?hr ?hp (fun _ hk => hk) trivial (Below.refl _ _) (Nat.le_refl _) (by simp) ?_; (case hd => rfl); (case hg => rfl); (case hr => first | (go_simp; done) | (go_simp; rfl)); (case hp => exact (Reps.one (show Kd.M (Kd.int .i64) _ _ _ 0 [.int .i64 0] from rfl) (Reps.one (show Kd.M (Kd.int .i64) _ _ _ 1 [.int .i64 1] from rfl) (Reps.one (show Kd.M (Kd.int .i64) _ _ _ 1 [.int .i64 1] from rfl) (Reps.one (show Kd.M (Kd.int .i64) _ _ _ 0 [.int .i64 0] from rfl) (Reps.one (show Kd.M (Kd.int .i64) _ _ _ 1 [.int .i64 1] from rfl) (Reps.one (show Kd.M (Kd.int .i64) _ _ _ 2 [.int .i64 2] from rfl) (Reps.one (show Kd.M (Kd.int .i64) _ _ _ (-1) [.int .i64 (-1)] from rfl) (Reps.one (show Kd.M (Kd.int .i64) _ _ _ 0 [.int .i64 0] from rfl) (Reps.one (show Kd.M (Kd.int .i64) _ _ _ 1 [.int .i64 1] from rfl) (Reps.none _ _)))))))))))
   intro v282 w17 ho18 hb hg_ hnew_
   clear hg_ hnew_
   (first | rw [← Ny281.out] at ho18 | (simp only [Int.reduceToNat] at ho18; rw [← Ny281.out] at ho18))
   have n0_ := Aside0.mk (Kd.R_below (rvR HO274.out) hb)
   have n1_ := Aside0.mk (Kd.R_lower ho18 (below_size hbC))
   have n2_ := Aside0.mk (blk_below (g := gb267) (o := .cells #[.int .i64 0, .slice none 0 0] 28 (0, 0)) (bvK BK267.out) hb)
   have n4_ := Aside0.mk (blk_below (g := gb276) (o := .cells #[.int .i64 t271, .slice Ao14 t272.length co14] 28 (0, 0)) (bvK BK276.out) hb)
   have n5_ := Aside0.mk (below_step hbC hb)
   have z_HI270 := fun (h0_ : b 6 = false) => (show IsS121 w w17 g270 t268 t278 from by first | exact (IsS121.below (by repeat (first | (with_reducible first | exact (Q_HI270 h0_) | apply IsS121.alloc | apply IsS121.drewN | apply IsS121.drew | apply IsS121.set_1 | refine IsS121.far ?_ NB270_267.out _ | refine IsS121.far ?_ NB270_276.out _) | exact (Q_HI270 h0_))) hb))
   have z_HI270_e6 := fun (h0_ : b 6 = true) (h1_ : b 9 = false) => (show IsS121 w w17 g270 t268 t280 from by first | exact (IsS121.below (by repeat (first | (with_reducible first | exact (Q_HI270_e6 h0_ h1_) | apply IsS121.alloc | apply IsS121.drewN | apply IsS121.drew | apply IsS121.set_1 | refine IsS121.far ?_ NB270_267.out _ | refine IsS121.far ?_ NB270_276.out _) | exact (Q_HI270_e6 h0_ h1_))) hb))
   clear HO274
   clear BK267
   clear BK276
   clear HB
   have HO274 := n0_
   have HO283 := n1_
   have BK267 := n2_
   have BK276 := n4_
   have HB := n5_
   clear n0_ n1_ n2_ n4_ n5_
   clear hb ho18
   refine hK.out _ _ ⟨v282, (by rw [ha.out]; exact putSel_upk 4 hb_ rfl rfl rfl), (by (with_reducible repeat (first | apply Kd.R_alloc | apply Kd.R_drewN | apply Kd.R_drew)); first | exact HO274.out | exact Kd.R_mono HO274.out (fun _ _ => trivial)), fun _ => (bvK BK267.out), (bvK BK276.out), z_HI270, hbC, z_HI270_e6, fun _ => (by (with_reducible repeat (first | apply Kd.R_alloc | apply Kd.R_drewN | apply Kd.R_drew)); first | exact HO283.out | exact Kd.R_mono HO283.out (fun _ _ => trivial)), fun h0_ => absurd ((hoff 9 (by kernel_rfl)).symm.trans h0_) (by decide), fun h0_ => absurd ((hoff 10 (by kernel_rfl)).symm.trans h0_) (by decide)⟩
  refine steps_cons ?_ ?_
  ·rintro b a w' ⟨v282, ha, Q_HO274, Q_BK267, Q_BK276, Q_HI270, Q_HB, Q_HI270_e6, Q_HO283, Q_HI270_e9, Q_BK267_e10⟩ hb_ hon hoff
   refine ⟨_, rfl, fun K hK => ?_⟩
   have e23 : a.tmps[23]? = some (.pointer (some ⟨g270, 0, none⟩)) := by rw [ha]; exact (putSel_off rfl).trans rfl
   have e24 : a.tmps[24]? = some (v282) := by rw [ha]; exact putSel_on (e := (8, 24, v282)) 4 rfl rfl (hon 8 (by kernel_rfl)) rfl
   replace ha := Aside0.mk ha
   have HO274 := Aside0.mk Q_HO274
   have BK267 := Aside0.mk (Q_BK267 (hoff 10 (by kernel_rfl)))
   have BK276 := Aside0.mk Q_BK276
   have HB := Aside0.mk Q_HB
   have HI270 := Aside0.mk (Q_HI270_e6 (hon 6 (by kernel_rfl)) hb_)
   have HO283 := Aside0.mk (Q_HO283 (hon 8 (by kernel_rfl)))
   obtain ⟨Ao21, co21, eo21⟩ := Kd.R_slice HO283.out
   (first | subst eo21 | (injection eo21 with f1_ f2_ f3_; have f4_ := f1_.symm; have f5_ := f3_.symm; clear f1_ f2_ f3_; subst f4_; subst f5_))
   refine goes_ Try.func80 (by kernel_rfl) rfl #[.pointer (some ⟨g270, 0, none⟩), .slice Ao21 y281.length co21] (by rfl) rfl rfl (by first | (simp only [List.map_toArray, List.map_cons, List.map_nil, Act.eval, Array.getD_eq_getD_getElem?, Option.getD_some, e23, e24]; done) | (simp only [List.map_toArray, List.map_cons, List.map_nil, Act.eval, Array.getD_eq_getD_getElem?, Option.getD_some, e23, e24]; rfl)) ?_
   with_reducible refine (spec_l40Rd_num.calls k g270 t268 t280 _ _ y281 t284 t285 w _ ?side1 ?side2 ?side3 ?side4 ?side5 A6.out).mono ?_
   (case side1 => repeat (first | (with_reducible first | exact HI270.out | apply IsS121.alloc | apply IsS121.drewN | apply IsS121.drew | apply IsS121.set_1 | refine IsS121.far ?_ NB270_267.out _ | refine IsS121.far ?_ NB270_276.out _) | exact HI270.out))
   (case side2 => repeat (first | (with_reducible first | exact HB.out | apply bwA | apply bwN | apply bwD | refine below_set ?_ (IsS121.ge HI270.out) | refine below_set ?_ GE267.out | refine below_set ?_ GE276.out) | exact HB.out))
   (case side3 => exact kcR (Kd.R_reads' HO283.out).2.2)
   (case side4 => exact (Kd.R_reads' HO283.out).2.1)
   (case side5 => exact far_slice (IsS121.own_ne HI270.out HO283.out (by decide)))
   rintro e w22 ⟨rfl, hi, hb, hk⟩
   refine ⟨_, rfl, ?_⟩
   have n0_ := Aside0.mk (KeepBut.blk hk (g' := gb267) (o := .cells #[.int .i64 0, .slice none 0 0] 28 (0, 0)) (bvK BK267.out) NB267_270.out (by simp))
   have n1_ := Aside0.mk (Kd.R_mono (Kd.R_keep (IsS121.apart (show IsS121 w _ g270 t268 t280 from by repeat (first | (with_reducible first | exact HI270.out | apply IsS121.alloc | apply IsS121.drewN | apply IsS121.drew | apply IsS121.set_1 | refine IsS121.far ?_ NB270_267.out _ | refine IsS121.far ?_ NB270_276.out _) | exact HI270.out)) (rvR HO274.out) (by decide)) hk (fun _ h => h.2)) (fun _ h => h.1))
   have n2_ := Aside0.mk (KeepBut.blk hk (g' := gb276) (o := .cells #[.int .i64 t271, .slice Ao14 t272.length co14] 28 (0, 0)) (bvK BK276.out) NB276_270.out (by simp))
   have n3_ := Aside0.mk (Kd.R_mono (Kd.R_keep (IsS121.apart (show IsS121 w _ g270 t268 t280 from by repeat (first | (with_reducible first | exact HI270.out | apply IsS121.alloc | apply IsS121.drewN | apply IsS121.drew | apply IsS121.set_1 | refine IsS121.far ?_ NB270_267.out _ | refine IsS121.far ?_ NB270_276.out _) | exact HI270.out)) (rvR HO283.out) (by decide)) hk (fun _ h => h.2)) (fun _ h => h.1))
   have n4_ := Aside0.mk (hb)
   have n5_ := Aside0.mk (hi)
   clear BK267
   clear HO274
   clear BK276
   clear HO283
   clear HB
   clear HI270
   have BK267 := n0_
   have HO274 := n1_
   have BK276 := n2_
   have HO283 := n3_
   have HB := n4_
   have HI270 := n5_
   clear n0_ n1_ n2_ n3_ n4_ n5_
   (try clear hb)
   (try clear hb2)
   (try clear hk)
   (try clear hi)
   refine hK.out _ _ ⟨.slice Ao21 y281.length co21, (by rw [ha.out]; exact putSel_upk 5 hb_ rfl rfl rfl), (by (with_reducible repeat (first | apply Kd.R_alloc | apply Kd.R_drewN | apply Kd.R_drew)); first | exact HO274.out | exact Kd.R_mono HO274.out (fun _ _ => trivial)), fun _ => (bvK BK267.out), (bvK BK276.out), fun h0_ => absurd ((hon 6 (by kernel_rfl)).symm.trans h0_) (by decide), (by repeat (first | (with_reducible first | exact HB.out | apply bwA | apply bwN | apply bwD | refine below_set ?_ (IsS121.ge HI270.out) | refine below_set ?_ GE267.out | refine below_set ?_ GE276.out) | exact HB.out)), fun _ h1_ => absurd ((up_self b 9).symm.trans h1_) (by decide), fun _ => (by (with_reducible repeat (first | apply Kd.R_alloc | apply Kd.R_drewN | apply Kd.R_drew)); first | exact HO283.out | exact Kd.R_mono HO283.out (fun _ _ => trivial)), fun _ => (by repeat (first | (with_reducible first | exact HI270.out | apply IsS121.alloc | apply IsS121.drewN | apply IsS121.drew | apply IsS121.set_1 | refine IsS121.far ?_ NB270_267.out _ | refine IsS121.far ?_ NB270_276.out _) | exact HI270.out)), fun h0_ => absurd ((hoff 10 (by kernel_rfl)).symm.trans h0_) (by decide)⟩
  refine steps_cons ?_ ?_
  ·rintro b a w' ⟨v282, ha, Q_HO274, Q_BK267, Q_BK276, Q_HI270, Q_HB, Q_HI270_e6, Q_HO283, Q_HI270_e9, Q_BK267_e10⟩ hb_ hon hoff
   refine ⟨_, rfl, fun K hK => ?_⟩
   have e2 : a.tmps[2]? = some (.pointer (some ⟨gb267, 0, none⟩)) := by rw [ha]; exact (putSel_off rfl).trans rfl
   have e16 : a.tmps[16]? = some (.agg #[.int .i64 t271, .slice Ao14 t272.length co14]) := by rw [ha]; exact putSel_on (e := (0, 16, .agg #[.int .i64 t271, .slice Ao14 t272.length co14])) 0 rfl rfl (hon 0 (by kernel_rfl)) rfl
   replace ha := Aside0.mk ha
   have HO274 := Aside0.mk Q_HO274
   have BK267 := Aside0.mk (Q_BK267 hb_)
   have BK276 := Aside0.mk Q_BK276
   have HB := Aside0.mk Q_HB
   have HO283 := Aside0.mk (Q_HO283 (hon 8 (by kernel_rfl)))
   have HI270 := Aside0.mk (Q_HI270_e9 (hon 9 (by kernel_rfl)))
   have hs23 : w'.cell? ⟨gb267, 0, none⟩ = some (.int .i64 0) := (blk_cell BK267.out 0).trans rfl
   have hfs23 := blk_frozen BK267.out 0
   have hns23_1 := NB276_267.out
   have hms23_1 := NB267_276.out
   have hs24 : w'.cell? ⟨gb267, 1, none⟩ = some (.slice none 0 0) := (blk_cell BK267.out 1).trans rfl
   have hfs24 := blk_frozen BK267.out 1
   have hns24_1 := NB276_267.out
   have hms24_1 := NB267_276.out
   refine skip_ (w1 := ?_) (by rfl) rfl ?_ ?_
   rotate_left
   ·go_simp
    rfl
   refine hK.out _ _ ⟨v282, (by rw [ha.out]; exact putSel_none (v := undef) rfl), (by (with_reducible repeat (first | apply Kd.R_alloc | apply Kd.R_drewN | apply Kd.R_drew)); exact Kd.R_mono (Kd.R_far (p := ⟨gb267, 1, none⟩) (Kd.R_far (p := ⟨gb267, 0, none⟩) (Kd.R_types HO274.out BK267.out (by decide)) (fun _ hk => by first | exact hk.2 | exact trivial | exact hk) (.int .i64 t271)) (fun _ hk => by first | exact hk.2 | exact trivial | exact hk) (.slice Ao14 t272.length co14)) (fun _ hk => trivial)), fun h0_ => absurd ((up_self b 10).symm.trans h0_) (by decide), (by (with_reducible repeat (first | refine blk_drewN ?_ _ | refine blk_drew ?_ | refine blk_alloc ?_ _)); refine blk_far ?_ NB276_267.out _; (with_reducible repeat (first | refine blk_drewN ?_ _ | refine blk_drew ?_ | refine blk_alloc ?_ _)); refine blk_far ?_ NB276_267.out _; (with_reducible repeat (first | refine blk_drewN ?_ _ | refine blk_drew ?_ | refine blk_alloc ?_ _)); exact BK276.out), fun h0_ => absurd ((hon 6 (by kernel_rfl)).symm.trans h0_) (by decide), (by repeat (first | (with_reducible first | exact HB.out | apply bwA | apply bwN | apply bwD | refine below_set ?_ (IsS121.ge HI270.out) | refine below_set ?_ GE267.out | refine below_set ?_ GE276.out) | exact HB.out)), fun _ h1_ => absurd ((hon 9 (by kernel_rfl)).symm.trans h1_) (by decide), fun _ => (by (with_reducible repeat (first | apply Kd.R_alloc | apply Kd.R_drewN | apply Kd.R_drew)); exact Kd.R_mono (Kd.R_far (p := ⟨gb267, 1, none⟩) (Kd.R_far (p := ⟨gb267, 0, none⟩) (Kd.R_types HO283.out BK267.out (by decide)) (fun _ hk => by first | exact hk.2 | exact trivial | exact hk) (.int .i64 t271)) (fun _ hk => by first | exact hk.2 | exact trivial | exact hk) (.slice Ao14 t272.length co14)) (fun _ hk => trivial)), fun _ => (by repeat (first | (with_reducible first | exact HI270.out | apply IsS121.alloc | apply IsS121.drewN | apply IsS121.drew | apply IsS121.set_1 | refine IsS121.far ?_ NB270_267.out _ | refine IsS121.far ?_ NB270_276.out _) | exact HI270.out)), fun _ => (by (with_reducible repeat (first | refine blk_drewN ?_ _ | refine blk_drew ?_ | refine blk_alloc ?_ _)); refine blk_put (cs := #[.int .i64 t271, .slice none 0 0]) ?_ 1 _ rfl; (with_reducible repeat (first | refine blk_drewN ?_ _ | refine blk_drew ?_ | refine blk_alloc ?_ _)); refine blk_put (cs := #[.int .i64 0, .slice none 0 0]) ?_ 0 _ rfl; (with_reducible repeat (first | refine blk_drewN ?_ _ | refine blk_drew ?_ | refine blk_alloc ?_ _)); exact BK267.out)⟩
  refine steps_cons ?_ ?_
  ·rintro b a w' ⟨v282, ha, Q_HO274, Q_BK267, Q_BK276, Q_HI270, Q_HB, Q_HI270_e6, Q_HO283, Q_HI270_e9, Q_BK267_e10⟩ hb_ hon hoff
   refine ⟨_, rfl, fun K hK => ?_⟩
   have e17 : a.tmps[17]? = some (.int .i64 t277) := by rw [ha]; exact (putSel_off rfl).trans rfl
   replace ha := Aside0.mk ha
   have HO274 := Aside0.mk Q_HO274
   have BK276 := Aside0.mk Q_BK276
   have HB := Aside0.mk Q_HB
   have HO283 := Aside0.mk (Q_HO283 (hon 8 (by kernel_rfl)))
   have HI270 := Aside0.mk (Q_HI270_e9 (hon 9 (by kernel_rfl)))
   have BK267 := Aside0.mk (Q_BK267_e10 (hon 10 (by kernel_rfl)))
   refine value_ (w1 := w') (v := .int .i64 t277) (by rfl) rfl ?_ ?_
   ·go_simp
    (try simp only [i64_w])
    try rfl
   refine hK.out _ _ ⟨v282, (by rw [ha.out]; exact putSel_upk 6 hb_ rfl rfl rfl), Q_HO274, fun h0_ => absurd ((hon 10 (by kernel_rfl)).symm.trans h0_) (by decide), Q_BK276, fun h0_ => absurd ((hon 6 (by kernel_rfl)).symm.trans h0_) (by decide), Q_HB, fun _ h1_ => absurd ((hon 9 (by kernel_rfl)).symm.trans h1_) (by decide), Q_HO283, Q_HI270_e9, Q_BK267_e10⟩
  refine steps_cons ?_ ?_
  ·rintro b a w' ⟨v282, ha, Q_HO274, Q_BK267, Q_BK276, Q_HI270, Q_HB, Q_HI270_e6, Q_HO283, Q_HI270_e9, Q_BK267_e10⟩ hb_ hon hoff
   refine ⟨_, rfl, fun K hK => ?_⟩
   have e22 : a.tmps[22]? = some (.int .i64 t279) := by rw [ha]; exact putSel_on (e := (6, 22, .int .i64 t279)) 3 rfl rfl (hon 6 (by kernel_rfl)) rfl
   replace ha := Aside0.mk ha
   have HO274 := Aside0.mk Q_HO274
   have BK276 := Aside0.mk Q_BK276
   have HB := Aside0.mk Q_HB
   have HO283 := Aside0.mk (Q_HO283 (hon 8 (by kernel_rfl)))
   have HI270 := Aside0.mk (Q_HI270_e9 (hon 9 (by kernel_rfl)))
   have BK267 := Aside0.mk (Q_BK267_e10 (hon 10 (by kernel_rfl)))
   refine value_ (w1 := w') (v := .int .i64 t279) (by rfl) rfl ?_ ?_
   ·go_simp
    (try simp only [i64_w])
    try rfl
   refine hK.out _ _ ⟨v282, (by rw [ha.out]; exact putSel_upk 7 hb_ rfl rfl rfl), Q_HO274, fun h0_ => absurd ((hon 10 (by kernel_rfl)).symm.trans h0_) (by decide), Q_BK276, fun h0_ => absurd ((hon 6 (by kernel_rfl)).symm.trans h0_) (by decide), Q_HB, fun _ h1_ => absurd ((hon 9 (by kernel_rfl)).symm.trans h1_) (by decide), Q_HO283, Q_HI270_e9, Q_BK267_e10⟩
  refine steps_cons ?_ ?_
  ·rintro b a w' ⟨v282, ha, Q_HO274, Q_BK267, Q_BK276, Q_HI270, Q_HB, Q_HI270_e6, Q_HO283, Q_HI270_e9, Q_BK267_e10⟩ hb_ hon hoff
   refine ⟨_, rfl, fun K hK => ?_⟩
   have e25 : a.tmps[25]? = some (.int .i64 t284) := by rw [ha]; exact putSel_on (e := (9, 25, .int .i64 t284)) 5 rfl rfl (hon 9 (by kernel_rfl)) rfl
   replace ha := Aside0.mk ha
   have HO274 := Aside0.mk Q_HO274
   have BK276 := Aside0.mk Q_BK276
   have HB := Aside0.mk Q_HB
   have HO283 := Aside0.mk (Q_HO283 (hon 8 (by kernel_rfl)))
   have HI270 := Aside0.mk (Q_HI270_e9 (hon 9 (by kernel_rfl)))
   have BK267 := Aside0.mk (Q_BK267_e10 (hon 10 (by kernel_rfl)))
   refine value_ (w1 := w') (v := .int .i64 t284) (by rfl) rfl ?_ ?_
   ·go_simp
    (try simp only [i64_w])
    try rfl
   refine hK.out _ _ ⟨v282, (by rw [ha.out]; exact putSel_upk 8 hb_ rfl rfl rfl), Q_HO274, fun h0_ => absurd ((hon 10 (by kernel_rfl)).symm.trans h0_) (by decide), Q_BK276, fun h0_ => absurd ((hon 6 (by kernel_rfl)).symm.trans h0_) (by decide), Q_HB, fun _ h1_ => absurd ((hon 9 (by kernel_rfl)).symm.trans h1_) (by decide), Q_HO283, Q_HI270_e9, Q_BK267_e10⟩
  exact steps_nil
 rintro b a w24 hall ⟨v282, ha, Q_HO274, Q_BK267, Q_BK276, Q_HI270, Q_HB, Q_HI270_e6, Q_HO283, Q_HI270_e9, Q_BK267_e10⟩
 clear BK267 BK276 HB HI270 HO274
 have hb0_ := hall 0 (by kernel_rfl)
 have hb4_ := hall 4 (by kernel_rfl)
 have hb5_ := hall 5 (by kernel_rfl)
 have hb6_ := hall 6 (by kernel_rfl)
 have hb8_ := hall 8 (by kernel_rfl)
 have hb9_ := hall 9 (by kernel_rfl)
 have hb10_ := hall 10 (by kernel_rfl)
 have hb11_ := hall 11 (by kernel_rfl)
 have hb12_ := hall 12 (by kernel_rfl)
 have hb13_ := hall 13 (by kernel_rfl)
 subst ha
 simp only [putSel, hb0_, hb4_, hb5_, hb6_, hb8_, hb9_, hb10_, hb11_, hb12_, hb13_, if_true, Act.put, List.setIfInBounds_toArray, List.set_cons_zero, List.set_cons_succ]
 have HO274 := Aside0.mk Q_HO274
 clear Q_HO274
 clear Q_BK267
 have BK276 := Aside0.mk Q_BK276
 clear Q_BK276
 clear Q_HI270
 have HB := Aside0.mk Q_HB
 clear Q_HB
 clear Q_HI270_e6
 have HO283 := Aside0.mk (Q_HO283 hb8_)
 clear Q_HO283
 have HI270 := Aside0.mk (Q_HI270_e9 hb9_)
 clear Q_HI270_e9
 have BK267 := Aside0.mk (Q_BK267_e10 hb10_)
 clear Q_BK267_e10
 clear hall hb0_ hb4_ hb5_ hb6_ hb8_ hb9_ hb10_ hb11_ hb12_ hb13_
 try go_wp2
 refine bodyPost_ret (results_list (rs := [.cell 2 28, .tmp 3, .tmp 4, .tmp 5]) rfl (by simp) (.cell gb267 28 #[.int .i64 t271, .slice Ao14 t272.length co14] (0, 0) _ rfl (bvK BK267.out) Try.underlying28 rfl (by kernel_rfl) (.tmp (.tmp (.tmp .nil))))) rfl ?_
 exact ⟨_, ers, by (with_reducible repeat (first | apply Kd.R_alloc | apply Kd.R_drewN | apply Kd.R_drew)); exact HO274.out, by repeat (first | (with_reducible first | exact HB.out | apply bwA | apply bwN | apply bwD | refine below_set ?_ (IsS121.ge HI270.out) | refine below_set ?_ GE267.out | refine below_set ?_ GE276.out) | exact HB.out)⟩

end Go.Proofs.Ytpcckoljocpchaa.QFnFixed
