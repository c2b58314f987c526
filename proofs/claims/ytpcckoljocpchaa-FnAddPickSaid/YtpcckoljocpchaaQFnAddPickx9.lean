-- Written by a program of this session (mk.py). Lean checks it.
import Derived.Test.YtpcckoljocpchaaQFnAddPickx0
import Derived.Test.YtpcckoljocpchaaQFnAddPickx7
import Derived.Test.YtpcckoljocpchaaQFnAddPickx8
namespace Go.Proofs.Ytpcckoljocpchaa.QFnAddPick
open Go.RowKit Go.Proofs.YtpcckoljocpchaaW.PrintWords Go.Proofs.YtpcckoljocpchaaW.PrintLast Go.Proofs.YtpcckoljocpchaaW.PrintMore
attribute [local go_sem] max2_int min2_int max_two min_two max_three min_three max_four min_four   -- for this text's walks alone
set_option linter.unusedVariables false
set_option linter.unusedSimpArgs false

/-! ### spec_l7Any: function 78 -/
def spec_l7Any.j0 : Nat → Bool → List Int → Int → Int → List (S92) → Option (Int × (List (S92)) × Int)
 | 0, _, _, _, _, _ => none
 | k + 1, x21, x1000, x1001, x224000, x224001 => if x21 = true then ((spec_l40Rd_num.f k x1000 x1001 (([(-1), 13] : List Int))).bind fun bt231 => (some (bt231.1, x224001, bt231.2))) else ((spec_l40Rd_pick.f k x1000 x1001 (x224001.length : Int)).bind fun bt233 => ((spec_l40Rd_num.f k x1000 bt233.2 (([(-1), wrap64 (2 * (wrap64 ((wrap64 (1 + x224000)) + bt233.1)))] : List Int))).bind fun bt238 => (if 0 ≤ bt233.1 then (if bt233.1 < (x224001.length : Int) then (some (x224000, (x224001.set (bt233.1 : Int).toNat (⟨bt238.1, 0⟩ : S92)), bt238.2)) else (none)) else (none))))
def spec_l7Any.f (k : Nat) (s0_0 : List Int) (s0_1 : Int) (a1 : Int) : Option (Int × (List (S92)) × Int) := (spec_l7Draw.f k s0_0 s0_1 a1).bind fun bt218 => ((spec_l40Rd_pick.f k s0_0 bt218.2.2 14).bind fun bt224 => (if bt224.1 = 0 then ((spec_l40Rd_pick.f k s0_0 bt224.2 2).bind fun bt226 => (if bt226.1 = 0 then (spec_l7Any.j0 k true s0_0 bt226.2 bt218.1 bt218.2.1) else (spec_l7Any.j0 k ((bt218.2.1.length : Int) == 0) s0_0 bt226.2 bt218.1 bt218.2.1))) else (some (bt218.1, bt218.2.1, bt224.2))))
theorem spec_l7Any.mono_l : ∀ k, (∀ y0 y1 y2 y3 y4, LeO (spec_l7Any.j0 k y0 y1 y2 y3 y4) (spec_l7Any.j0 (k + 1) y0 y1 y2 y3 y4))
 | 0 => fun _ _ _ _ _ r h => by simp [spec_l7Any.j0] at h
 | k + 1 => by
  have ih0 := spec_l7Any.mono_l k
  ·intro y0 y1 y2 y3 y4
   unfold spec_l7Any.j0
   repeat' first
   | (with_reducible exact ih0 _ _ _ _ _)
   | (with_reducible exact spec_l40Rd_num.mono _ _ _ _)
   | (with_reducible exact spec_l40Rd_pick.mono _ _ _ _)
   | (with_reducible exact spec_l7Draw.mono _ _ _ _)
   | (with_reducible exact LeO.refl _)
   | (with_reducible exact LeO.none _)
   | (with_reducible refine LeO.ite ?_ ?_)
   | (with_reducible refine LeO.bind ?_ (fun _ => ?_))
   | exact ih0 _ _ _ _ _
   | exact spec_l40Rd_num.mono _ _ _ _
   | exact spec_l40Rd_pick.mono _ _ _ _
   | exact spec_l7Draw.mono _ _ _ _
   | exact LeO.none _
   | refine LeO.ite ?_ ?_
   | refine LeO.bind ?_ (fun _ => ?_)
theorem spec_l7Any.mono : ∀ a0 a1 a2 k, LeO (spec_l7Any.f k a0 a1 a2) (spec_l7Any.f (k + 1) a0 a1 a2) := by
 intro a0 a1 a2 k
 have ih0 := spec_l7Any.mono_l k
 unfold spec_l7Any.f
 repeat' first
   | (with_reducible exact ih0 _ _ _ _ _)
   | (with_reducible exact spec_l40Rd_num.mono _ _ _ _)
   | (with_reducible exact spec_l40Rd_pick.mono _ _ _ _)
   | (with_reducible exact spec_l7Draw.mono _ _ _ _)
   | (with_reducible exact LeO.refl _)
   | (with_reducible exact LeO.none _)
   | (with_reducible refine LeO.ite ?_ ?_)
   | (with_reducible refine LeO.bind ?_ (fun _ => ?_))
   | exact ih0 _ _ _ _ _
   | exact spec_l40Rd_num.mono _ _ _ _
   | exact spec_l40Rd_pick.mono _ _ _ _
   | exact spec_l7Draw.mono _ _ _ _
   | exact LeO.none _
   | refine LeO.ite ?_ ?_
   | refine LeO.bind ?_ (fun _ => ?_)
def spec_l7Any.T6 : Bool × List (List Nat × List Nat) := (true, [([], []), ([0], [0]), ([], []), ([], []), ([], []), ([4], [4]), ([5], [5]), ([], []), ([6, 7], [6, 7]), ([8], [8]), ([9], [9]), ([3, 10], [3, 10]), ([11], [11]), ([1, 2, 0, 1, 2, 3, 4, 5, 6, 7, 8, 9, 10, 11, 12], [1, 2]), ([13, 12, 11, 0, 1, 2, 3, 4, 5, 6, 7, 8, 9, 10, 11, 12], [12, 13])])
def spec_l7Any.B6 : List Nat := [0, 1, 0, 0, 0, 16, 48, 0, 240, 496, 1008, 2040, 4088, 8191, 16383]
theorem spec_l7Any.tab6 : rtab .any (opsOf Try.f78 6) = spec_l7Any.T6 := by kernel_rfl
theorem spec_l7Any.bits6 : waitsOk spec_l7Any.T6.2 spec_l7Any.B6 = true := by kernel_rfl
set_option maxHeartbeats 8000000 in
set_option maxRecDepth 100000 in
theorem spec_l7Any.calls (k : Nat) (g : Nat) (s0_0 : List Int) (s0_1 : Int) (a1 : Int) (r1 : Int) (r2 : List (S92)) (r3 : Int) (w0 w : World) (hI : IsS121 w0 w g s0_0 s0_1) (hB : Below w0.heap.size w0 w) (h : spec_l7Any.f k s0_0 s0_1 a1 = some (r1, r2, r3)) :
  Calls Try.prog 78 #[.pointer (some ⟨g, 0, none⟩), .int .i64 a1] w fun e w' => ∃ v1_ : Value, e = .returned (.agg #[.int .i64 r1, v1_]) ∧ Kd.R k92 92 w' w.heap.size (fun _ => True) v1_ r2 ∧ IsS121 w0 w' g s0_0 r3 ∧ Below w0.heap.size w0 w' ∧ KeepBut w w' g none := by
 have hu28 := Try.underlying28
 have hu92 := Try.underlying92
 have HI0 := Aside0.mk hI
 have HK := Aside0.mk (KeepBut.refl w g none)
 have HL := Aside0.mk hB.size
 clear hI
 have HW0 := Aside0.mk hB.size
 have HB := Aside0.mk hB
 clear hB
 have H : ((spec_l7Draw.f k s0_0 s0_1 a1).bind fun bt218 => ((spec_l40Rd_pick.f k s0_0 bt218.2.2 14).bind fun bt224 => (if bt224.1 = 0 then ((spec_l40Rd_pick.f k s0_0 bt224.2 2).bind fun bt226 => (if bt226.1 = 0 then (spec_l7Any.j0 k true s0_0 bt226.2 bt218.1 bt218.2.1) else (spec_l7Any.j0 k ((bt218.2.1.length : Int) == 0) s0_0 bt226.2 bt218.1 bt218.2.1))) else (some (bt218.1, bt218.2.1, bt224.2))))) = some (r1, r2, r3) := h
 clear h
 replace H := Option.bind_eq_some_iff.mp H
 obtain ⟨⟨t218, t219, t222⟩, A30, H⟩ := H
 replace H : ((spec_l40Rd_pick.f k s0_0 t222 14).bind fun bt224 => (if bt224.1 = 0 then ((spec_l40Rd_pick.f k s0_0 bt224.2 2).bind fun bt226 => (if bt226.1 = 0 then (spec_l7Any.j0 k true s0_0 bt226.2 t218 t219) else (spec_l7Any.j0 k ((t219.length : Int) == 0) s0_0 bt226.2 t218 t219))) else (some (t218, t219, bt224.2)))) = some (r1, r2, r3) := H
 have A3 := Aside0.mk A30
 clear A30
 replace H := Option.bind_eq_some_iff.mp H
 obtain ⟨⟨t224, t225⟩, A40, H⟩ := H
 replace H : (if t224 = 0 then ((spec_l40Rd_pick.f k s0_0 t225 2).bind fun bt226 => (if bt226.1 = 0 then (spec_l7Any.j0 k true s0_0 bt226.2 t218 t219) else (spec_l7Any.j0 k ((t219.length : Int) == 0) s0_0 bt226.2 t218 t219))) else (some (t218, t219, t225))) = some (r1, r2, r3) := H
 have A4 := Aside0.mk A40
 clear A40
 by_cases c5 : t224 = 0
 ·rw [if_pos c5] at H
  have c5b0 : (t224 == 0) = true := beq_iff_eq.mpr c5
  have c5b1 : (t224 != 0) = false := bne_eq_false_iff_eq.mpr c5
  clear c5
  have HC6 := Aside0.mk H
  clear H
  go_enter Try.func78, Try.ntmps78
  go_upto_region 3 with (first | ((with_reducible refine gate_dst (N := 4) rfl ?_); (try (refine gate_guard (by rfl) ?_; dsimp only)); refine box_event ?hg (N := 4) ?hd (cs := #[.int .i64 0, .slice none 0 0]) (t := 28) ?hr ?_; (case hd => rfl); (case hg => rfl); (case hr => first | (go_simp; done) | (go_simp; rfl)); intro gb217 hg w7 hbox hb; have n0_ := Aside0.mk (IsS121.below (by repeat (first | (with_reducible first | exact HI0.out | apply IsS121.alloc | apply IsS121.drewN | apply IsS121.drew | apply IsS121.set_1) | exact HI0.out)) hb); have n1_ := Aside0.mk (KeepBut.trans (by repeat (first | (with_reducible first | exact HK.out | apply KeepBut.set_ | apply keep_drewN | apply keep_drew | apply keep_alloc) | exact HK.out)) (KeepBut.of_below hb g none) (.inl rfl)); have n2_ := Aside0.mk (below_step (by repeat (first | (with_reducible first | exact HB.out | apply bwA | apply bwN | apply bwD | refine below_set ?_ (IsS121.ge HI0.out)) | exact HB.out)) hb); have n3_ := Aside0.mk (hbox); have n4_ := Aside0.mk ((by rw [hg]; exact (keep_size (w := w) (g := g) (row := none) (by repeat (first | (with_reducible first | exact HK.out | apply KeepBut.set_ | apply keep_drewN | apply keep_drew | apply keep_alloc) | exact HK.out))) : w.heap.size ≤ gb217)); have n5_ := Aside0.mk ((Nat.le_trans HW0.out (by rw [hg]; exact (keep_size (w := w) (g := g) (row := none) (by repeat (first | (with_reducible first | exact HK.out | apply KeepBut.set_ | apply keep_drewN | apply keep_drew | apply keep_alloc) | exact HK.out))) : w.heap.size ≤ gb217) : w0.heap.size ≤ gb217)); have n6_ := Aside0.mk ((by rw [hg]; exact Nat.ne_of_lt (IsS121.lt (show IsS121 w0 _ g s0_0 s0_1 from by repeat (first | (with_reducible first | exact HI0.out | apply IsS121.alloc | apply IsS121.drewN | apply IsS121.drew | apply IsS121.set_1) | exact HI0.out))) : g ≠ gb217)); have n7_ := Aside0.mk ((by rw [hg]; exact Nat.ne_of_gt (IsS121.lt (show IsS121 w0 _ g s0_0 s0_1 from by repeat (first | (with_reducible first | exact HI0.out | apply IsS121.alloc | apply IsS121.drewN | apply IsS121.drew | apply IsS121.set_1) | exact HI0.out))) : gb217 ≠ g)); clear HI0; clear HK; clear HB; have HI0 := n0_; have HK := n1_; have HB := n2_; have BK217 := n3_; have GW217 := n4_; have GE217 := n5_; have NB0_217 := n6_; have NB217_0 := n7_; clear n0_ n1_ n2_ n3_ n4_ n5_ n6_ n7_; clear hb hbox hg) | ((with_reducible refine gate_callee (f := 115) rfl ?_); refine goesL_ (some 9) rfl rfl Try.func115 (by kernel_rfl) rfl #[.pointer (some ⟨g, 0, none⟩), .int .i64 a1] rfl lmB ?_; (with_reducible refine (spec_l7Draw.calls k g s0_0 s0_1 a1 t218 t219 t222 w0 _ ?side1 ?side2 A3.out).mono ?_); (case side1 => repeat (first | (with_reducible first | exact HI0.out | apply IsS121.alloc | apply IsS121.drewN | apply IsS121.drew | apply IsS121.set_1 | refine IsS121.far ?_ NB0_217.out _) | exact HI0.out)); (case side2 => repeat (first | (with_reducible first | exact HB.out | apply bwA | apply bwN | apply bwD | refine below_set ?_ (IsS121.ge HI0.out) | refine below_set ?_ GE217.out) | exact HB.out)); rintro e w8 ⟨v220, rfl, ho0, hi, hb, hk⟩; refine ⟨_, rfl, ?_⟩; have n0_ := Aside0.mk (KeepBut.blk hk (g' := gb217) (o := .cells #[.int .i64 0, .slice none 0 0] 28 (0, 0)) (bvK BK217.out) NB217_0.out (by simp)); have n1_ := Aside0.mk (Kd.R_lower ho0 (keep_size (w := w) (g := g) (row := none) (by repeat (first | (with_reducible first | exact HK.out | apply KeepBut.set_ | apply keep_drewN | apply keep_drew | apply keep_alloc | refine keep_far ?_ GW217.out _) | exact HK.out)))); have n2_ := Aside0.mk (KeepBut.trans (by repeat (first | (with_reducible first | exact HK.out | apply KeepBut.set_ | apply keep_drewN | apply keep_drew | apply keep_alloc | refine keep_far ?_ GW217.out _) | exact HK.out)) hk (.inl rfl)); have n3_ := Aside0.mk (hb); have n4_ := Aside0.mk (hi); clear BK217; clear HK; clear HB; clear HI0; have BK217 := n0_; have HO221 := n1_; have HK := n2_; have HB := n3_; have HI0 := n4_; clear n0_ n1_ n2_ n3_ n4_; (try clear hb); (try clear hb2); (try clear hk); (try clear hi); (try clear ho0)) | ((with_reducible refine gate_dst (N := 5) rfl ?_); (try (refine gate_guard (by rfl) ?_; dsimp only)); refine box_event ?hg (N := 5) ?hd (cs := #[.int .i64 0, .slice none 0 0]) (t := 28) ?hr ?_; (case hd => rfl); (case hg => rfl); (case hr => first | (go_simp; done) | (go_simp; rfl)); intro gb223 hg w9 hbox hb; have n0_ := Aside0.mk (Kd.R_below (rvR HO221.out) hb); have n1_ := Aside0.mk (IsS121.below (by repeat (first | (with_reducible first | exact HI0.out | apply IsS121.alloc | apply IsS121.drewN | apply IsS121.drew | apply IsS121.set_1 | refine IsS121.far ?_ NB0_217.out _) | exact HI0.out)) hb); have n2_ := Aside0.mk (blk_below (g := gb217) (o := .cells #[.int .i64 0, .slice none 0 0] 28 (0, 0)) (bvK BK217.out) hb); have n3_ := Aside0.mk (KeepBut.trans (by repeat (first | (with_reducible first | exact HK.out | apply KeepBut.set_ | apply keep_drewN | apply keep_drew | apply keep_alloc | refine keep_far ?_ GW217.out _) | exact HK.out)) (KeepBut.of_below hb g none) (.inl rfl)); have n4_ := Aside0.mk (below_step (by repeat (first | (with_reducible first | exact HB.out | apply bwA | apply bwN | apply bwD | refine below_set ?_ (IsS121.ge HI0.out) | refine below_set ?_ GE217.out) | exact HB.out)) hb); have n5_ := Aside0.mk (hbox); have n6_ := Aside0.mk ((by rw [hg]; exact (keep_size (w := w) (g := g) (row := none) (by repeat (first | (with_reducible first | exact HK.out | apply KeepBut.set_ | apply keep_drewN | apply keep_drew | apply keep_alloc | refine keep_far ?_ GW217.out _) | exact HK.out))) : w.heap.size ≤ gb223)); have n7_ := Aside0.mk ((Nat.le_trans HW0.out (by rw [hg]; exact (keep_size (w := w) (g := g) (row := none) (by repeat (first | (with_reducible first | exact HK.out | apply KeepBut.set_ | apply keep_drewN | apply keep_drew | apply keep_alloc | refine keep_far ?_ GW217.out _) | exact HK.out))) : w.heap.size ≤ gb223) : w0.heap.size ≤ gb223)); have n8_ := Aside0.mk ((by rw [hg]; exact Nat.ne_of_lt (blk_lt (g := gb217) (o := .cells #[.int .i64 0, .slice none 0 0] 28 (0, 0)) (bvK BK217.out)) : gb217 ≠ gb223)); have n9_ := Aside0.mk ((by rw [hg]; exact Nat.ne_of_gt (blk_lt (g := gb217) (o := .cells #[.int .i64 0, .slice none 0 0] 28 (0, 0)) (bvK BK217.out)) : gb223 ≠ gb217)); have n10_ := Aside0.mk ((by rw [hg]; exact Nat.ne_of_lt (IsS121.lt (show IsS121 w0 _ g s0_0 t222 from by repeat (first | (with_reducible first | exact HI0.out | apply IsS121.alloc | apply IsS121.drewN | apply IsS121.drew | apply IsS121.set_1 | refine IsS121.far ?_ NB0_217.out _) | exact HI0.out))) : g ≠ gb223)); have n11_ := Aside0.mk ((by rw [hg]; exact Nat.ne_of_gt (IsS121.lt (show IsS121 w0 _ g s0_0 t222 from by repeat (first | (with_reducible first | exact HI0.out | apply IsS121.alloc | apply IsS121.drewN | apply IsS121.drew | apply IsS121.set_1 | refine IsS121.far ?_ NB0_217.out _) | exact HI0.out))) : gb223 ≠ g)); clear HO221; clear HI0; clear BK217; clear HK; clear HB; have HO221 := n0_; have HI0 := n1_; have BK217 := n2_; have HK := n3_; have HB := n4_; have BK223 := n5_; have GW223 := n6_; have GE223 := n7_; have NB217_223 := n8_; have NB223_217 := n9_; have NB0_223 := n10_; have NB223_0 := n11_; clear n0_ n1_ n2_ n3_ n4_ n5_ n6_ n7_ n8_ n9_ n10_ n11_; clear hb hbox hg; have hnb10 := NB223_217.out; have hnc10 := NB217_223.out; have hnb11 := NB223_0.out; have hnc11 := NB0_223.out; have hcz12_0 : w9.cell? ⟨gb223, 0, none⟩ = some (.int .i64 0) := (blk_cell BK223.out 0).trans rfl; have hcz12_1 : w9.cell? ⟨gb223, 1, none⟩ = some (.slice none 0 0) := (blk_cell BK223.out 1).trans rfl; have hfz12_0 := blk_frozen BK223.out 0; have hfz12_1 := blk_frozen BK223.out 1; obtain ⟨Ao13, co13, eo13⟩ := Kd.R_slice HO221.out; subst eo13) | ((with_reducible refine gate_callee (f := 79) rfl ?_); refine goesL_ (some 11) rfl rfl Try.func79 (by kernel_rfl) rfl #[.pointer (some ⟨g, 0, none⟩), .int .i64 14] rfl lmB ?_; (with_reducible refine (spec_l40Rd_pick.calls k g s0_0 t222 14 t224 t225 w0 _ ?side1 ?side2 A4.out).mono ?_); (case side1 => repeat (first | (with_reducible first | exact HI0.out | apply IsS121.alloc | apply IsS121.drewN | apply IsS121.drew | apply IsS121.set_1 | refine IsS121.far ?_ NB0_217.out _ | refine IsS121.far ?_ NB0_223.out _) | exact HI0.out)); (case side2 => repeat (first | (with_reducible first | exact HB.out | apply bwA | apply bwN | apply bwD | refine below_set ?_ (IsS121.ge HI0.out) | refine below_set ?_ GE217.out | refine below_set ?_ GE223.out) | exact HB.out)); rintro e w14 ⟨rfl, hi, hb, hk⟩; refine ⟨_, rfl, ?_⟩; have n0_ := Aside0.mk (KeepBut.blk hk (g' := gb217) (o := .cells #[.int .i64 0, .slice none 0 0] 28 (0, 0)) (by (with_reducible repeat (first | refine blk_drewN ?_ _ | refine blk_drew ?_ | refine blk_alloc ?_ _)); refine blk_far ?_ NB217_223.out _; (with_reducible repeat (first | refine blk_drewN ?_ _ | refine blk_drew ?_ | refine blk_alloc ?_ _)); refine blk_far ?_ NB217_223.out _; (with_reducible repeat (first | refine blk_drewN ?_ _ | refine blk_drew ?_ | refine blk_alloc ?_ _)); exact BK217.out) NB217_0.out (by simp)); have n1_ := Aside0.mk (Kd.R_mono (Kd.R_keep (IsS121.apart (show IsS121 w0 _ g s0_0 t222 from by repeat (first | (with_reducible first | exact HI0.out | apply IsS121.alloc | apply IsS121.drewN | apply IsS121.drew | apply IsS121.set_1 | refine IsS121.far ?_ NB0_217.out _ | refine IsS121.far ?_ NB0_223.out _) | exact HI0.out)) (by (with_reducible repeat (first | apply Kd.R_alloc | apply Kd.R_drewN | apply Kd.R_drew)); exact (Kd.R_mono (Kd.R_far (p := ⟨gb223, 1, none⟩) (Kd.R_far (p := ⟨gb223, 0, none⟩) (Kd.R_types HO221.out BK223.out (by decide)) (fun _ hk => hk.2) (.int .i64 t218)) (fun _ hk => hk.2) (.slice Ao13 t219.length co13)) (fun _ h_ => h_.1))) (by decide)) hk (fun _ h => h.2)) (fun _ h => h.1)); have n2_ := Aside0.mk (KeepBut.blk hk (g' := gb223) (o := .cells #[.int .i64 t218, .slice Ao13 t219.length co13] 28 (0, 0)) (by (with_reducible repeat (first | refine blk_drewN ?_ _ | refine blk_drew ?_ | refine blk_alloc ?_ _)); refine blk_put (cs := #[.int .i64 t218, .slice none 0 0]) ?_ 1 _ rfl; (with_reducible repeat (first | refine blk_drewN ?_ _ | refine blk_drew ?_ | refine blk_alloc ?_ _)); refine blk_put (cs := #[.int .i64 0, .slice none 0 0]) ?_ 0 _ rfl; (with_reducible repeat (first | refine blk_drewN ?_ _ | refine blk_drew ?_ | refine blk_alloc ?_ _)); exact BK223.out) NB223_0.out (by simp)); have n3_ := Aside0.mk (KeepBut.trans (by repeat (first | (with_reducible first | exact HK.out | apply KeepBut.set_ | apply keep_drewN | apply keep_drew | apply keep_alloc | refine keep_far ?_ GW217.out _ | refine keep_far ?_ GW223.out _) | exact HK.out)) hk (.inl rfl)); have n4_ := Aside0.mk (hb); have n5_ := Aside0.mk (hi); clear BK217; clear HO221; clear BK223; clear HK; clear HB; clear HI0; have BK217 := n0_; have HO221 := n1_; have BK223 := n2_; have HK := n3_; have HB := n4_; have HI0 := n5_; clear n0_ n1_ n2_ n3_ n4_ n5_; (try clear hb); (try clear hb2); (try clear hk); (try clear hi)))
  (try simp only [Act.put, List.setIfInBounds_toArray, List.set_cons_zero, List.set_cons_succ])
  go_cut [21] (fun v21 wc => ∃ (kq : Nat) (x21_5 : Bool) (x1001_5 : Int), v21 = .bool x21_5 ∧ Aside0 (spec_l7Any.j0 kq x21_5 s0_0 x1001_5 t218 t219 = some (r1, r2, r3)) ∧ Aside0 (kq ≤ k) ∧ Aside0 (Kd.R k92 92 wc w.heap.size (fun _ => True) (.slice Ao13 t219.length co13) t219) ∧ Aside0 (wc.heap[gb217]? = some (.cells #[.int .i64 0, (.slice none 0 0)] 28 (0, 0))) ∧ Aside0 (wc.heap[gb223]? = some (.cells #[.int .i64 t218, (.slice Ao13 t219.length co13)] 28 (0, 0))) ∧ Aside0 (IsS121 w0 wc g s0_0 x1001_5) ∧ Aside0 (KeepBut w wc g none) ∧ Aside0 (Below w0.heap.size w0 wc))
  case first =>
   have H := HC6.out
   clear HC6
   replace H := Option.bind_eq_some_iff.mp H
   obtain ⟨⟨t226, t227⟩, A150, H⟩ := H
   replace H : (if t226 = 0 then (spec_l7Any.j0 k true s0_0 t227 t218 t219) else (spec_l7Any.j0 k ((t219.length : Int) == 0) s0_0 t227 t218 t219)) = some (r1, r2, r3) := H
   have A15 := Aside0.mk A150
   clear A150
   by_cases c16 : t226 = 0
   ·rw [if_pos c16] at H
    have c16b0 : (t226 == 0) = true := beq_iff_eq.mpr c16
    have c16b1 : (t226 != 0) = false := bne_eq_false_iff_eq.mpr c16
    clear c16
    (first | rw [c16b0] | (simp only [i64_w, i32_w]; rw [c16b0]) | skip)
    have H' := Aside0.mk H
    clear H
    go_wp2_with (first | ((with_reducible refine gate_callee (f := 79) rfl ?_); refine goesL_ (some 14) rfl rfl Try.func79 (by kernel_rfl) rfl #[.pointer (some ⟨g, 0, none⟩), .int .i64 2] rfl lmB ?_; (with_reducible refine (spec_l40Rd_pick.calls k g s0_0 t225 2 t226 t227 w0 _ ?side1 ?side2 A15.out).mono ?_); (case side1 => repeat (first | (with_reducible first | exact HI0.out | apply IsS121.alloc | apply IsS121.drewN | apply IsS121.drew | apply IsS121.set_1 | refine IsS121.far ?_ NB0_217.out _ | refine IsS121.far ?_ NB0_223.out _) | exact HI0.out)); (case side2 => repeat (first | (with_reducible first | exact HB.out | apply bwA | apply bwN | apply bwD | refine below_set ?_ (IsS121.ge HI0.out) | refine below_set ?_ GE217.out | refine below_set ?_ GE223.out) | exact HB.out)); rintro e w17 ⟨rfl, hi, hb, hk⟩; refine ⟨_, rfl, ?_⟩; have n0_ := Aside0.mk (KeepBut.blk hk (g' := gb217) (o := .cells #[.int .i64 0, .slice none 0 0] 28 (0, 0)) (bvK BK217.out) NB217_0.out (by simp)); have n1_ := Aside0.mk (Kd.R_mono (Kd.R_keep (IsS121.apart (show IsS121 w0 _ g s0_0 t225 from by repeat (first | (with_reducible first | exact HI0.out | apply IsS121.alloc | apply IsS121.drewN | apply IsS121.drew | apply IsS121.set_1 | refine IsS121.far ?_ NB0_217.out _ | refine IsS121.far ?_ NB0_223.out _) | exact HI0.out)) (rvR HO221.out) (by decide)) hk (fun _ h => h.2)) (fun _ h => h.1)); have n2_ := Aside0.mk (KeepBut.blk hk (g' := gb223) (o := .cells #[.int .i64 t218, .slice Ao13 t219.length co13] 28 (0, 0)) (bvK BK223.out) NB223_0.out (by simp)); have n3_ := Aside0.mk (KeepBut.trans (by repeat (first | (with_reducible first | exact HK.out | apply KeepBut.set_ | apply keep_drewN | apply keep_drew | apply keep_alloc | refine keep_far ?_ GW217.out _ | refine keep_far ?_ GW223.out _) | exact HK.out)) hk (.inl rfl)); have n4_ := Aside0.mk (hb); have n5_ := Aside0.mk (hi); clear BK217; clear HO221; clear BK223; clear HK; clear HB; clear HI0; have BK217 := n0_; have HO221 := n1_; have BK223 := n2_; have HK := n3_; have HB := n4_; have HI0 := n5_; clear n0_ n1_ n2_ n3_ n4_ n5_; (try clear hb); (try clear hb2); (try clear hk); (try clear hi)))
    go_meet
    case rel => exact ⟨_, (true), (t227), rsd, H', ⟨by first | omega | exact Nat.le_refl _⟩, ⟨rvR HO221.out⟩, ⟨bvK BK217.out⟩, ⟨bvK BK223.out⟩, ⟨by repeat (first | (with_reducible first | exact HI0.out | apply IsS121.alloc | apply IsS121.drewN | apply IsS121.drew | apply IsS121.set_1 | refine IsS121.far ?_ NB0_217.out _ | refine IsS121.far ?_ NB0_223.out _) | exact HI0.out)⟩, ⟨by repeat (first | (with_reducible first | exact HK.out | apply KeepBut.set_ | apply keep_drewN | apply keep_drew | apply keep_alloc | refine keep_far ?_ GW217.out _ | refine keep_far ?_ GW223.out _) | exact HK.out)⟩, ⟨by repeat (first | (with_reducible first | exact HB.out | apply bwA | apply bwN | apply bwD | refine below_set ?_ (IsS121.ge HI0.out) | refine below_set ?_ GE217.out | refine below_set ?_ GE223.out) | exact HB.out)⟩⟩
   ·rw [if_neg c16] at H
    have c16b0 : (t226 == 0) = false := beq_eq_false_iff_ne.mpr c16
    have c16b1 : (t226 != 0) = true := bne_iff_ne.mpr c16
    (first | rw [c16b0] | (simp only [i64_w, i32_w]; rw [c16b0]) | skip)
    have H' := Aside0.mk H
    clear H
    go_wp2_with (first | ((with_reducible refine gate_callee (f := 79) rfl ?_); refine goesL_ (some 14) rfl rfl Try.func79 (by kernel_rfl) rfl #[.pointer (some ⟨g, 0, none⟩), .int .i64 2] rfl lmB ?_; (with_reducible refine (spec_l40Rd_pick.calls k g s0_0 t225 2 t226 t227 w0 _ ?side1 ?side2 A15.out).mono ?_); (case side1 => repeat (first | (with_reducible first | exact HI0.out | apply IsS121.alloc | apply IsS121.drewN | apply IsS121.drew | apply IsS121.set_1 | refine IsS121.far ?_ NB0_217.out _ | refine IsS121.far ?_ NB0_223.out _) | exact HI0.out)); (case side2 => repeat (first | (with_reducible first | exact HB.out | apply bwA | apply bwN | apply bwD | refine below_set ?_ (IsS121.ge HI0.out) | refine below_set ?_ GE217.out | refine below_set ?_ GE223.out) | exact HB.out)); rintro e w18 ⟨rfl, hi, hb, hk⟩; refine ⟨_, rfl, ?_⟩; have n0_ := Aside0.mk (KeepBut.blk hk (g' := gb217) (o := .cells #[.int .i64 0, .slice none 0 0] 28 (0, 0)) (bvK BK217.out) NB217_0.out (by simp)); have n1_ := Aside0.mk (Kd.R_mono (Kd.R_keep (IsS121.apart (show IsS121 w0 _ g s0_0 t225 from by repeat (first | (with_reducible first | exact HI0.out | apply IsS121.alloc | apply IsS121.drewN | apply IsS121.drew | apply IsS121.set_1 | refine IsS121.far ?_ NB0_217.out _ | refine IsS121.far ?_ NB0_223.out _) | exact HI0.out)) (rvR HO221.out) (by decide)) hk (fun _ h => h.2)) (fun _ h => h.1)); have n2_ := Aside0.mk (KeepBut.blk hk (g' := gb223) (o := .cells #[.int .i64 t218, .slice Ao13 t219.length co13] 28 (0, 0)) (bvK BK223.out) NB223_0.out (by simp)); have n3_ := Aside0.mk (KeepBut.trans (by repeat (first | (with_reducible first | exact HK.out | apply KeepBut.set_ | apply keep_drewN | apply keep_drew | apply keep_alloc | refine keep_far ?_ GW217.out _ | refine keep_far ?_ GW223.out _) | exact HK.out)) hk (.inl rfl)); have n4_ := Aside0.mk (hb); have n5_ := Aside0.mk (hi); clear BK217; clear HO221; clear BK223; clear HK; clear HB; clear HI0; have BK217 := n0_; have HO221 := n1_; have BK223 := n2_; have HK := n3_; have HB := n4_; have HI0 := n5_; clear n0_ n1_ n2_ n3_ n4_ n5_; (try clear hb); (try clear hb2); (try clear hk); (try clear hi); have hnb19 := NB223_217.out; have hnc19 := NB217_223.out; have hnb20 := NB223_0.out; have hnc20 := NB0_223.out; have hcz21_0 : w18.cell? ⟨gb223, 0, none⟩ = some (.int .i64 t218) := (blk_cell BK223.out 0).trans rfl; have hcz21_1 : w18.cell? ⟨gb223, 1, none⟩ = some (.slice Ao13 t219.length co13) := (blk_cell BK223.out 1).trans rfl; have hfz21_0 := blk_frozen BK223.out 0; have hfz21_1 := blk_frozen BK223.out 1))
    go_meet
    case rel => exact ⟨_, (((t219.length : Int) == 0)), (t227), rsd, H', ⟨by first | omega | exact Nat.le_refl _⟩, ⟨rvR HO221.out⟩, ⟨bvK BK217.out⟩, ⟨bvK BK223.out⟩, ⟨by repeat (first | (with_reducible first | exact HI0.out | apply IsS121.alloc | apply IsS121.drewN | apply IsS121.drew | apply IsS121.set_1 | refine IsS121.far ?_ NB0_217.out _ | refine IsS121.far ?_ NB0_223.out _) | exact HI0.out)⟩, ⟨by repeat (first | (with_reducible first | exact HK.out | apply KeepBut.set_ | apply keep_drewN | apply keep_drew | apply keep_alloc | refine keep_far ?_ GW217.out _ | refine keep_far ?_ GW223.out _) | exact HK.out)⟩, ⟨by repeat (first | (with_reducible first | exact HB.out | apply bwA | apply bwN | apply bwD | refine below_set ?_ (IsS121.ge HI0.out) | refine below_set ?_ GE217.out | refine below_set ?_ GE223.out) | exact HB.out)⟩⟩
  case rest =>
   clear HC6
   try clear c1
   try clear c2
   try clear p2
   try clear c5
   try clear c5b0
   try clear c5b1
   try clear c7
   try clear c10
   try clear c11
   try clear c16
   try clear c16b0
   try clear c16b1
   try clear c19
   try clear c20
   try clear hcz12_0
   try clear hcz12_1
   try clear hcz21_0
   try clear hcz21_1
   try clear hfz12_0
   try clear hfz12_1
   try clear hfz21_0
   try clear hfz21_1
   obtain ⟨kq, x21_5, x1001_5, rfl, HA, HJ5, HO_224001, BK217, BK223, HI0, HK, HB⟩ := hcut
   cases kq with
   | zero => exact absurd HA.out (by simp [spec_l7Any.j0])
   | succ kj5 =>
    have H := HA.out
    clear HA
    simp only [spec_l7Any.j0] at H
    by_cases c22 : x21_5 = true
    ·subst c22
     have H1 : ((spec_l40Rd_num.f kj5 s0_0 x1001_5 (([(-1), 13] : List Int))).bind fun bt231 => (some (bt231.1, t219, bt231.2))) = some (r1, r2, r3) := by rw [if_pos rfl] at H; exact H
     clear H
     have H := H1
     clear H1
     obtain ⟨y228, hy228⟩ : ∃ y_ : List Int, y_ = (([(-1), 13] : List Int)) := ⟨_, rfl⟩
     replace H : ((spec_l40Rd_num.f kj5 s0_0 x1001_5 y228).bind fun bt231 => (some (bt231.1, t219, bt231.2))) = some (r1, r2, r3) := by first | (rw [hy228]; with_reducible exact H) | (have H2_ := (Option.bind_some _ _).symm.trans H; rw [hy228]; with_reducible exact H2_) | (have H2_ := (Option.bind_some _ _).symm.trans H; with_reducible exact H2_) | with_reducible exact H | (rw [hy228]; exact H) | exact H
     have Ny228 := Aside0.mk hy228
     clear hy228
     replace H := Option.bind_eq_some_iff.mp H
     obtain ⟨⟨t231, t232⟩, A230, H⟩ := H
     replace H : (some (t231, t219, t232)) = some (r1, r2, r3) := H
     have A23 := Aside0.mk A230
     clear A230
     simp only [Option.some.injEq, Prod.mk.injEq] at H
     obtain ⟨rfl, rfl, rfl⟩ := H
     go_wp2_with (first | ((with_reducible refine gate_dst (N := 23) rfl ?_); (try (refine gate_guard (by rfl) ?_; dsimp only)); refine Kd.R_lit (Kd.int .i64) _ 3 ?hg (N := 23) ?hd (xs := ([(-1), 13] : List Int)) (inner := [.int .i64 (-1), .int .i64 13]) (ok := fun _ => True) (okp := fun _ => True) ?hr ?hp (fun _ hk => hk) trivial (Below.refl _ _) (Nat.le_refl _) (by simp) ?_; (case hd => rfl); (case hg => rfl); (case hr => first | (go_simp; done) | (go_simp; rfl)); (case hp => exact (Reps.one (show Kd.M (Kd.int .i64) _ _ _ (-1) [.int .i64 (-1)] from rfl) (Reps.one (show Kd.M (Kd.int .i64) _ _ _ 13 [.int .i64 13] from rfl) (Reps.none _ _)))); intro v229 w24 ho25 hb hg_ hnew_; clear hg_ hnew_; (first | rw [← Ny228.out] at ho25 | (simp only [Int.reduceToNat] at ho25; rw [← Ny228.out] at ho25)); have n0_ := Aside0.mk (Kd.R_below (rvR HO_224001.out) hb); have n1_ := Aside0.mk (Kd.R_lower ho25 (keep_size (w := w) (g := g) (row := none) (by repeat (first | (with_reducible first | exact HK.out | apply KeepBut.set_ | apply keep_drewN | apply keep_drew | apply keep_alloc | refine keep_far ?_ GW217.out _ | refine keep_far ?_ GW223.out _) | exact HK.out)))); have n2_ := Aside0.mk (blk_below (g := gb217) (o := .cells #[.int .i64 0, .slice none 0 0] 28 (0, 0)) (bvK BK217.out) hb); have n3_ := Aside0.mk (blk_below (g := gb223) (o := .cells #[.int .i64 t218, .slice Ao13 t219.length co13] 28 (0, 0)) (bvK BK223.out) hb); have n4_ := Aside0.mk (IsS121.below (by repeat (first | (with_reducible first | exact HI0.out | apply IsS121.alloc | apply IsS121.drewN | apply IsS121.drew | apply IsS121.set_1 | refine IsS121.far ?_ NB0_217.out _ | refine IsS121.far ?_ NB0_223.out _) | exact HI0.out)) hb); have n5_ := Aside0.mk (KeepBut.trans (by repeat (first | (with_reducible first | exact HK.out | apply KeepBut.set_ | apply keep_drewN | apply keep_drew | apply keep_alloc | refine keep_far ?_ GW217.out _ | refine keep_far ?_ GW223.out _) | exact HK.out)) (KeepBut.of_below hb g none) (.inl rfl)); have n6_ := Aside0.mk (below_step (by repeat (first | (with_reducible first | exact HB.out | apply bwA | apply bwN | apply bwD | refine below_set ?_ (IsS121.ge HI0.out) | refine below_set ?_ GE217.out | refine below_set ?_ GE223.out) | exact HB.out)) hb); clear HO_224001; clear BK217; clear BK223; clear HI0; clear HK; clear HB; have HO_224001 := n0_; have HO230 := n1_; have BK217 := n2_; have BK223 := n3_; have HI0 := n4_; have HK := n5_; have HB := n6_; clear n0_ n1_ n2_ n3_ n4_ n5_ n6_; clear hb ho25; obtain ⟨Ao26, co26, eo26⟩ := Kd.R_slice HO230.out; subst eo26) | ((with_reducible refine gate_callee (f := 80) rfl ?_); refine goesL_ (some 24) rfl rfl Try.func80 (by kernel_rfl) rfl #[.pointer (some ⟨g, 0, none⟩), .slice Ao26 y228.length co26] rfl lmB ?_; (with_reducible refine (spec_l40Rd_num.calls kj5 g s0_0 x1001_5 _ _ y228 t231 t232 w0 _ ?side1 ?side2 ?side3 ?side4 ?side5 A23.out).mono ?_); (case side1 => repeat (first | (with_reducible first | exact HI0.out | apply IsS121.alloc | apply IsS121.drewN | apply IsS121.drew | apply IsS121.set_1 | refine IsS121.far ?_ NB0_217.out _ | refine IsS121.far ?_ NB0_223.out _) | exact HI0.out)); (case side2 => repeat (first | (with_reducible first | exact HB.out | apply bwA | apply bwN | apply bwD | refine below_set ?_ (IsS121.ge HI0.out) | refine below_set ?_ GE217.out | refine below_set ?_ GE223.out) | exact HB.out)); (case side3 => exact kcR (Kd.R_reads' HO230.out).2.2); (case side4 => exact (Kd.R_reads' HO230.out).2.1); (case side5 => exact far_slice (IsS121.own_ne HI0.out HO230.out (by decide))); rintro e w27 ⟨rfl, hi, hb, hk⟩; refine ⟨_, rfl, ?_⟩; have n0_ := Aside0.mk (Kd.R_mono (Kd.R_keep (IsS121.apart (show IsS121 w0 _ g s0_0 x1001_5 from by repeat (first | (with_reducible first | exact HI0.out | apply IsS121.alloc | apply IsS121.drewN | apply IsS121.drew | apply IsS121.set_1 | refine IsS121.far ?_ NB0_217.out _ | refine IsS121.far ?_ NB0_223.out _) | exact HI0.out)) (rvR HO_224001.out) (by decide)) hk (fun _ h => h.2)) (fun _ h => h.1)); have n1_ := Aside0.mk (KeepBut.blk hk (g' := gb217) (o := .cells #[.int .i64 0, .slice none 0 0] 28 (0, 0)) (bvK BK217.out) NB217_0.out (by simp)); have n2_ := Aside0.mk (KeepBut.blk hk (g' := gb223) (o := .cells #[.int .i64 t218, .slice Ao13 t219.length co13] 28 (0, 0)) (bvK BK223.out) NB223_0.out (by simp)); have n3_ := Aside0.mk (Kd.R_mono (Kd.R_keep (IsS121.apart (show IsS121 w0 _ g s0_0 x1001_5 from by repeat (first | (with_reducible first | exact HI0.out | apply IsS121.alloc | apply IsS121.drewN | apply IsS121.drew | apply IsS121.set_1 | refine IsS121.far ?_ NB0_217.out _ | refine IsS121.far ?_ NB0_223.out _) | exact HI0.out)) (rvR HO230.out) (by decide)) hk (fun _ h => h.2)) (fun _ h => h.1)); have n4_ := Aside0.mk (KeepBut.trans (by repeat (first | (with_reducible first | exact HK.out | apply KeepBut.set_ | apply keep_drewN | apply keep_drew | apply keep_alloc | refine keep_far ?_ GW217.out _ | refine keep_far ?_ GW223.out _) | exact HK.out)) hk (.inl rfl)); have n5_ := Aside0.mk (hb); have n6_ := Aside0.mk (hi); clear HO_224001; clear BK217; clear BK223; clear HO230; clear HK; clear HB; clear HI0; have HO_224001 := n0_; have BK217 := n1_; have BK223 := n2_; have HO230 := n3_; have HK := n4_; have HB := n5_; have HI0 := n6_; clear n0_ n1_ n2_ n3_ n4_ n5_ n6_; (try clear hb); (try clear hb2); (try clear hk); (try clear hi); have hnb28 := NB223_217.out; have hnc28 := NB217_223.out; have hnb29 := NB223_0.out; have hnc29 := NB0_223.out; have hcz30_0 : w27.cell? ⟨gb223, 0, none⟩ = some (.int .i64 t218) := (blk_cell BK223.out 0).trans rfl; have hcz30_1 : w27.cell? ⟨gb223, 1, none⟩ = some (.slice Ao13 t219.length co13) := (blk_cell BK223.out 1).trans rfl; have hfz30_0 := blk_frozen BK223.out 0; have hfz30_1 := blk_frozen BK223.out 1; have hnb31 := NB217_0.out; have hnc31 := NB0_217.out; have hcz32_0 : w27.cell? ⟨gb217, 0, none⟩ = some (.int .i64 0) := (blk_cell BK217.out 0).trans rfl; have hcz32_1 : w27.cell? ⟨gb217, 1, none⟩ = some (.slice none 0 0) := (blk_cell BK217.out 1).trans rfl; have hfz32_0 := blk_frozen BK217.out 0; have hfz32_1 := blk_frozen BK217.out 1))
     refine bodyPost_ret (results_cell_row rfl _ _ gb217 28 #[.int .i64 t231, .slice Ao13 t219.length co13] (0, 0) _ rfl (by (with_reducible repeat (first | refine blk_drewN ?_ _ | refine blk_drew ?_ | refine blk_alloc ?_ _)); refine blk_put (cs := #[.int .i64 t231, .slice none 0 0]) ?_ 1 _ rfl; (with_reducible repeat (first | refine blk_drewN ?_ _ | refine blk_drew ?_ | refine blk_alloc ?_ _)); refine blk_put (cs := #[.int .i64 0, .slice none 0 0]) ?_ 0 _ rfl; (with_reducible repeat (first | refine blk_drewN ?_ _ | refine blk_drew ?_ | refine blk_alloc ?_ _)); refine blk_far ?_ NB217_223.out _; (with_reducible repeat (first | refine blk_drewN ?_ _ | refine blk_drew ?_ | refine blk_alloc ?_ _)); exact BK217.out) Try.underlying28 rfl (by kernel_rfl)) rfl ?_
     exact ⟨_, ers, by (with_reducible repeat (first | apply Kd.R_alloc | apply Kd.R_drewN | apply Kd.R_drew)); exact Kd.R_mono (Kd.R_far (p := ⟨gb217, 1, none⟩) (Kd.R_far (p := ⟨gb217, 0, none⟩) (Kd.R_far (p := ⟨gb223, 0, none⟩) (Kd.R_types (Kd.R_types HO_224001.out BK223.out (by decide)) BK217.out (by decide)) (fun _ hk => hk.1.2) (.int .i64 t231)) (fun _ hk => hk.2) (.int .i64 t231)) (fun _ hk => hk.2) (.slice Ao13 t219.length co13)) (fun _ hk => trivial), by repeat (first | (with_reducible first | exact HI0.out | apply IsS121.alloc | apply IsS121.drewN | apply IsS121.drew | apply IsS121.set_1 | refine IsS121.far ?_ NB0_217.out _ | refine IsS121.far ?_ NB0_223.out _) | exact HI0.out), by repeat (first | (with_reducible first | exact HB.out | apply bwA | apply bwN | apply bwD | refine below_set ?_ (IsS121.ge HI0.out) | refine below_set ?_ GE217.out | refine below_set ?_ GE223.out) | exact HB.out), by repeat (first | (with_reducible first | exact HK.out | apply KeepBut.set_ | apply keep_drewN | apply keep_drew | apply keep_alloc | refine keep_far ?_ GW217.out _ | refine keep_far ?_ GW223.out _) | exact HK.out)⟩
    ·replace c22 := Bool.eq_false_iff.mpr c22
     subst c22
     have H1 : ((spec_l40Rd_pick.f kj5 s0_0 x1001_5 (t219.length : Int)).bind fun bt233 => ((spec_l40Rd_num.f kj5 s0_0 bt233.2 (([(-1), wrap64 (2 * (wrap64 ((wrap64 (1 + t218)) + bt233.1)))] : List Int))).bind fun bt238 => (if 0 ≤ bt233.1 then (if bt233.1 < (t219.length : Int) then (some (t218, (t219.set (bt233.1 : Int).toNat (⟨bt238.1, 0⟩ : S92)), bt238.2)) else (none)) else (none)))) = some (r1, r2, r3) := by rw [if_neg (show ¬ (false = true) by decide)] at H; exact H
     clear H
     have H := H1
     clear H1
     replace H := Option.bind_eq_some_iff.mp H
     obtain ⟨⟨t233, t234⟩, A330, H⟩ := H
     replace H : ((spec_l40Rd_num.f kj5 s0_0 t234 (([(-1), wrap64 (2 * (wrap64 ((wrap64 (1 + t218)) + t233)))] : List Int))).bind fun bt238 => (if 0 ≤ t233 then (if t233 < (t219.length : Int) then (some (t218, (t219.set (t233 : Int).toNat (⟨bt238.1, 0⟩ : S92)), bt238.2)) else (none)) else (none))) = some (r1, r2, r3) := H
     have A33 := Aside0.mk A330
     clear A330
     obtain ⟨y235, hy235⟩ : ∃ y_ : List Int, y_ = (([(-1), wrap64 (2 * (wrap64 ((wrap64 (1 + t218)) + t233)))] : List Int)) := ⟨_, rfl⟩
     replace H : ((spec_l40Rd_num.f kj5 s0_0 t234 y235).bind fun bt238 => (if 0 ≤ t233 then (if t233 < (t219.length : Int) then (some (t218, (t219.set (t233 : Int).toNat (⟨bt238.1, 0⟩ : S92)), bt238.2)) else (none)) else (none))) = some (r1, r2, r3) := by first | (rw [hy235]; with_reducible exact H) | (have H2_ := (Option.bind_some _ _).symm.trans H; rw [hy235]; with_reducible exact H2_) | (have H2_ := (Option.bind_some _ _).symm.trans H; with_reducible exact H2_) | with_reducible exact H | (rw [hy235]; exact H) | exact H
     have Ny235 := Aside0.mk hy235
     clear hy235
     replace H := Option.bind_eq_some_iff.mp H
     obtain ⟨⟨t238, t239⟩, A340, H⟩ := H
     replace H : (if 0 ≤ t233 then (if t233 < (t219.length : Int) then (some (t218, (t219.set (t233 : Int).toNat (⟨t238, 0⟩ : S92)), t239)) else (none)) else (none)) = some (r1, r2, r3) := H
     have A34 := Aside0.mk A340
     clear A340
     by_cases c35 : 0 ≤ t233
     ·rw [if_pos c35] at H
      have c35b0 : decide (0 ≤ t233) = true := decide_eq_true c35
      clear c35
      by_cases c36 : t233 < (t219.length : Int)
      ·rw [if_pos c36] at H
       have c36b0 : decide (t233 < (t219.length : Int)) = true := decide_eq_true c36
       clear c36
       obtain ⟨y240, hy240⟩ : ∃ y_ : List (S92), y_ = (t219.set (t233 : Int).toNat (⟨t238, 0⟩ : S92)) := ⟨_, rfl⟩
       replace H : (some (t218, y240, t239)) = some (r1, r2, r3) := by first | (rw [hy240]; with_reducible exact H) | (have H2_ := (Option.bind_some _ _).symm.trans H; rw [hy240]; with_reducible exact H2_) | (have H2_ := (Option.bind_some _ _).symm.trans H; with_reducible exact H2_) | with_reducible exact H | (rw [hy240]; exact H) | exact H
       have Ny240 := Aside0.mk hy240
       clear hy240
       simp only [Option.some.injEq, Prod.mk.injEq] at H
       obtain ⟨rfl, rfl, rfl⟩ := H
       have hnb38 := NB223_217.out
       have hnc38 := NB217_223.out
       have hnb39 := NB223_0.out
       have hnc39 := NB0_223.out
       have hcz40_0 : wc.cell? ⟨gb223, 0, none⟩ = some (.int .i64 t218) := (blk_cell BK223.out 0).trans rfl
       have hcz40_1 : wc.cell? ⟨gb223, 1, none⟩ = some (.slice Ao13 t219.length co13) := (blk_cell BK223.out 1).trans rfl
       have hfz40_0 := blk_frozen BK223.out 0
       have hfz40_1 := blk_frozen BK223.out 1
       try go_wp2_with (first | ((with_reducible refine gate_callee (f := 79) rfl ?_); refine goesL_ (some 30) rfl rfl Try.func79 (by kernel_rfl) rfl #[.pointer (some ⟨g, 0, none⟩), .int .i64 (t219.length : Int)] rfl lmB ?_; (with_reducible refine (spec_l40Rd_pick.calls kj5 g s0_0 x1001_5 (t219.length : Int) t233 t234 w0 _ ?side1 ?side2 A33.out).mono ?_); (case side1 => repeat (first | (with_reducible first | exact HI0.out | apply IsS121.alloc | apply IsS121.drewN | apply IsS121.drew | apply IsS121.set_1 | refine IsS121.far ?_ NB0_217.out _ | refine IsS121.far ?_ NB0_223.out _) | exact HI0.out)); (case side2 => repeat (first | (with_reducible first | exact HB.out | apply bwA | apply bwN | apply bwD | refine below_set ?_ (IsS121.ge HI0.out) | refine below_set ?_ GE217.out | refine below_set ?_ GE223.out) | exact HB.out)); rintro e w41 ⟨rfl, hi, hb, hk⟩; refine ⟨_, rfl, ?_⟩; have n0_ := Aside0.mk (Kd.R_mono (Kd.R_keep (IsS121.apart (show IsS121 w0 _ g s0_0 x1001_5 from by repeat (first | (with_reducible first | exact HI0.out | apply IsS121.alloc | apply IsS121.drewN | apply IsS121.drew | apply IsS121.set_1 | refine IsS121.far ?_ NB0_217.out _ | refine IsS121.far ?_ NB0_223.out _) | exact HI0.out)) (rvR HO_224001.out) (by decide)) hk (fun _ h => h.2)) (fun _ h => h.1)); have n1_ := Aside0.mk (KeepBut.blk hk (g' := gb217) (o := .cells #[.int .i64 0, .slice none 0 0] 28 (0, 0)) (bvK BK217.out) NB217_0.out (by simp)); have n2_ := Aside0.mk (KeepBut.blk hk (g' := gb223) (o := .cells #[.int .i64 t218, .slice Ao13 t219.length co13] 28 (0, 0)) (bvK BK223.out) NB223_0.out (by simp)); have n3_ := Aside0.mk (KeepBut.trans (by repeat (first | (with_reducible first | exact HK.out | apply KeepBut.set_ | apply keep_drewN | apply keep_drew | apply keep_alloc | refine keep_far ?_ GW217.out _ | refine keep_far ?_ GW223.out _) | exact HK.out)) hk (.inl rfl)); have n4_ := Aside0.mk (hb); have n5_ := Aside0.mk (hi); clear HO_224001; clear BK217; clear BK223; clear HK; clear HB; clear HI0; have HO_224001 := n0_; have BK217 := n1_; have BK223 := n2_; have HK := n3_; have HB := n4_; have HI0 := n5_; clear n0_ n1_ n2_ n3_ n4_ n5_; (try clear hb); (try clear hb2); (try clear hk); (try clear hi)))
       have n0_ := Aside0.mk (Kd.R_drew HO_224001.out)
       have n1_ := Aside0.mk (blk_drew BK217.out)
       have n2_ := Aside0.mk (blk_drew BK223.out)
       have n3_ := Aside0.mk (IsS121.drew HI0.out)
       have n4_ := Aside0.mk (keep_drew HK.out)
       have n5_ := Aside0.mk (below_drew1 HB.out)
       clear HO_224001
       clear BK217
       clear BK223
       clear HI0
       clear HK
       clear HB
       have HO_224001 := n0_
       have BK217 := n1_
       have BK223 := n2_
       have HI0 := n3_
       have HK := n4_
       have HB := n5_
       clear n0_ n1_ n2_ n3_ n4_ n5_
       refine start_ (n := 15) (S := fun w' => w'.cell? ⟨gb223, 0, none⟩ = some (.int .i64 t218) ∧ w'.cell? ⟨gb223, 1, none⟩ = some (.slice Ao13 t219.length co13)) (ds := [14]) (Pt.bm 15 0) (by kernel_rfl) rfl rfl ⟨(blk_cell BK223.out 0).trans rfl, (blk_cell BK223.out 1).trans rfl⟩ (fun hHeld => ?_); refine with_tabW spec_l7Any.tab6 spec_l7Any.bits6 (fun HT_ HW_ => ?_)
       generalize w41.drew = w42 at HO_224001 BK217 BK223 HI0 HK HB hHeld ⊢
       refine Pt.pu 0 (some 31) (Pt.bm 15 1) (any_of HT_.out (by kernel_rfl)) ?_
       refine Pt.pu 2 (some 33) (Pt.bm 15 5) (any_of HT_.out (by kernel_rfl)) ?_
       refine Pt.pu 3 (some 34) (Pt.bm 15 13) (any_of HT_.out (by kernel_rfl)) ?_
       refine Pt.pu 4 (some 35) (Pt.bm 15 29) (any_of HT_.out (by kernel_rfl)) ?_
       refine Pt.pu 7 (some 38) (Pt.bm 15 157) (any_of HT_.out (by kernel_rfl)) ?_
       refine Pt.tk 1 (some 32) (Pt.bm 15 159) rfl rfl (take_ofW HT_.out HW_.out (by kernel_rfl)) hHeld (Or.inl ⟨by rfl, by rintro w' ⟨s0, s1⟩; go_simp; with_reducible rfl⟩) ?_
       refine Pt.tk 5 (some 36) (Pt.bm 15 191) rfl rfl (take_ofW HT_.out HW_.out (by kernel_rfl)) hHeld (Or.inl ⟨by rfl, by rintro w' ⟨s0, s1⟩; go_simp; with_reducible rfl⟩) ?_
       refine Pt.pu 6 (some 37) (Pt.bm 15 255) (any_of HT_.out (by kernel_rfl)) ?_
       refine Pt.pu 8 (some 39) (Pt.bm 15 511) (any_of HT_.out (by kernel_rfl)) ?_
       refine Pt.pu 9 (some 40) (Pt.bm 15 1023) (any_of HT_.out (by kernel_rfl)) ?_
       refine one_ (i := 10) (N := some 41) (Pt.bm 15 2047) rfl rfl (one_of HT_.out (by kernel_rfl)) (by decide) (fun K hK => ?_)
       refine Kd.R_lit_step (Kd.int .i64) _ 3 ?hg (N := 41) ?hd (xs := ([(-1), wrap64 (2 * (wrap64 ((wrap64 (1 + t218)) + t233)))] : List Int)) (inner := [.int .i64 (-1), .int .i64 (wrap64 (2 * (wrap64 ((wrap64 (1 + t218)) + t233))))]) (ok := fun _ => True) (okp := fun _ => True) ?hr ?hp (fun _ hk => hk) trivial (Below.refl _ _) (Nat.le_refl _) (by simp) ?_; (case hd => rfl); (case hg => rfl); (case hr => first | (go_simp; done) | (go_simp; rfl)); (case hp => exact (Reps.one (show Kd.M (Kd.int .i64) _ _ _ (-1) [.int .i64 (-1)] from rfl) (Reps.one (show Kd.M (Kd.int .i64) _ _ _ (wrap64 (2 * (wrap64 ((wrap64 (1 + t218)) + t233)))) [.int .i64 (wrap64 (2 * (wrap64 ((wrap64 (1 + t218)) + t233))))] from rfl) (Reps.none _ _))))
       intro v236 w43 ho44 hb hg_ hnew_
       clear hg_ hnew_
       (first | rw [← Ny235.out] at ho44 | (simp only [Int.reduceToNat] at ho44; rw [← Ny235.out] at ho44))
       have n0_ := Aside0.mk (Kd.R_below (rvR HO_224001.out) hb)
       have n1_ := Aside0.mk (Kd.R_lower ho44 (keep_size (w := w) (g := g) (row := none) (by repeat (first | (with_reducible first | exact HK.out | apply KeepBut.set_ | apply keep_drewN | apply keep_drew | apply keep_alloc | refine keep_far ?_ GW217.out _ | refine keep_far ?_ GW223.out _) | exact HK.out))))
       have n2_ := Aside0.mk (blk_below (g := gb217) (o := .cells #[.int .i64 0, .slice none 0 0] 28 (0, 0)) (bvK BK217.out) hb)
       have n3_ := Aside0.mk (blk_below (g := gb223) (o := .cells #[.int .i64 t218, .slice Ao13 t219.length co13] 28 (0, 0)) (bvK BK223.out) hb)
       have n4_ := Aside0.mk (IsS121.below (by repeat (first | (with_reducible first | exact HI0.out | apply IsS121.alloc | apply IsS121.drewN | apply IsS121.drew | apply IsS121.set_1 | refine IsS121.far ?_ NB0_217.out _ | refine IsS121.far ?_ NB0_223.out _) | exact HI0.out)) hb)
       have n5_ := Aside0.mk (KeepBut.trans (by repeat (first | (with_reducible first | exact HK.out | apply KeepBut.set_ | apply keep_drewN | apply keep_drew | apply keep_alloc | refine keep_far ?_ GW217.out _ | refine keep_far ?_ GW223.out _) | exact HK.out)) (KeepBut.of_below hb g none) (.inl rfl))
       have n6_ := Aside0.mk (below_step (by repeat (first | (with_reducible first | exact HB.out | apply bwA | apply bwN | apply bwD | refine below_set ?_ (IsS121.ge HI0.out) | refine below_set ?_ GE217.out | refine below_set ?_ GE223.out) | exact HB.out)) hb)
       clear HO_224001
       clear BK217
       clear BK223
       clear HI0
       clear HK
       clear HB
       have HO_224001 := n0_
       have HO237 := n1_
       have BK217 := n2_
       have BK223 := n3_
       have HI0 := n4_
       have HK := n5_
       have HB := n6_
       clear n0_ n1_ n2_ n3_ n4_ n5_ n6_
       clear hb ho44
       obtain ⟨Ao45, co45, eo45⟩ := Kd.R_slice HO237.out
       (first | subst eo45 | (injection eo45 with f1_ f2_ f3_; have f4_ := f1_.symm; have f5_ := f3_.symm; clear f1_ f2_ f3_; subst f4_; subst f5_))
       refine hK.out _ _ ⟨(blk_cell BK223.out 0).trans rfl, (blk_cell BK223.out 1).trans rfl⟩ (fun hHeld => ?_)
       clear hK K
       refine norm_ (a' := ?_) ?_ ?_
       rotate_left
       ·show Act.put _ (some 41) _ = _
        simp only [Act.put, List.setIfInBounds_toArray, List.set_cons_zero, List.set_cons_succ, i64_w, i32_w]
        rfl
       refine one_ (i := 11) (N := some 42) (Pt.bm 15 4095) rfl rfl (one_of HT_.out (by kernel_rfl)) (by decide) (fun K hK => ?_)
       refine goes_ Try.func80 (by kernel_rfl) rfl #[.pointer (some ⟨g, 0, none⟩), .slice Ao45 y235.length co45] (by rfl) rfl rfl lmB ?_
       with_reducible refine (spec_l40Rd_num.calls kj5 g s0_0 t234 _ _ y235 t238 t239 w0 _ ?side1 ?side2 ?side3 ?side4 ?side5 A34.out).mono ?_
       (case side1 => repeat (first | (with_reducible first | exact HI0.out | apply IsS121.alloc | apply IsS121.drewN | apply IsS121.drew | apply IsS121.set_1 | refine IsS121.far ?_ NB0_217.out _ | refine IsS121.far ?_ NB0_223.out _) | exact HI0.out))
       (case side2 => repeat (first | (with_reducible first | exact HB.out | apply bwA | apply bwN | apply bwD | refine below_set ?_ (IsS121.ge HI0.out) | refine below_set ?_ GE217.out | refine below_set ?_ GE223.out) | exact HB.out))
       (case side3 => exact kcR (Kd.R_reads' HO237.out).2.2)
       (case side4 => exact (Kd.R_reads' HO237.out).2.1)
       (case side5 => exact far_slice (IsS121.own_ne HI0.out HO237.out (by decide)))
       rintro e w46 ⟨rfl, hi, hb, hk⟩
       refine ⟨_, rfl, ?_⟩
       have n0_ := Aside0.mk (Kd.R_mono (Kd.R_keep (IsS121.apart (show IsS121 w0 _ g s0_0 t234 from by repeat (first | (with_reducible first | exact HI0.out | apply IsS121.alloc | apply IsS121.drewN | apply IsS121.drew | apply IsS121.set_1 | refine IsS121.far ?_ NB0_217.out _ | refine IsS121.far ?_ NB0_223.out _) | exact HI0.out)) (rvR HO_224001.out) (by decide)) hk (fun _ h => h.2)) (fun _ h => h.1))
       have n1_ := Aside0.mk (KeepBut.blk hk (g' := gb217) (o := .cells #[.int .i64 0, .slice none 0 0] 28 (0, 0)) (bvK BK217.out) NB217_0.out (by simp))
       have n2_ := Aside0.mk (KeepBut.blk hk (g' := gb223) (o := .cells #[.int .i64 t218, .slice Ao13 t219.length co13] 28 (0, 0)) (bvK BK223.out) NB223_0.out (by simp))
       have n3_ := Aside0.mk (Kd.R_mono (Kd.R_keep (IsS121.apart (show IsS121 w0 _ g s0_0 t234 from by repeat (first | (with_reducible first | exact HI0.out | apply IsS121.alloc | apply IsS121.drewN | apply IsS121.drew | apply IsS121.set_1 | refine IsS121.far ?_ NB0_217.out _ | refine IsS121.far ?_ NB0_223.out _) | exact HI0.out)) (rvR HO237.out) (by decide)) hk (fun _ h => h.2)) (fun _ h => h.1))
       have n4_ := Aside0.mk (KeepBut.trans (by repeat (first | (with_reducible first | exact HK.out | apply KeepBut.set_ | apply keep_drewN | apply keep_drew | apply keep_alloc | refine keep_far ?_ GW217.out _ | refine keep_far ?_ GW223.out _) | exact HK.out)) hk (.inl rfl))
       have n5_ := Aside0.mk (hb)
       have n6_ := Aside0.mk (hi)
       clear HO_224001
       clear BK217
       clear BK223
       clear HO237
       clear HK
       clear HB
       clear HI0
       have HO_224001 := n0_
       have BK217 := n1_
       have BK223 := n2_
       have HO237 := n3_
       have HK := n4_
       have HB := n5_
       have HI0 := n6_
       clear n0_ n1_ n2_ n3_ n4_ n5_ n6_
       (try clear hb)
       (try clear hb2)
       (try clear hk)
       (try clear hi)
       have p37 : 0 ≤ (t233 : Int) := oda
       have q37 : (t233 : Int) < ((t219.length : Int) : Int) := oda
       obtain ⟨go37, co37, eo37, gb37, gl37, cl37, HG37⟩ := Kd.R_form HO_224001.out (by omega)
       (first | cases eo37 | (injection eo37 with ea_ en_ ec_; (first | subst ea_ | (injection ea_ with ea_; subst ea_)); subst ec_; clear en_))
       have GB37 := Aside0.mk gb37
       have GG37 := Aside0.mk HG37
       clear gb37 gl37 HG37
       obtain ⟨ce37, hcl37, hM37, hcc37, hfr37⟩ := Kd.R_elem HO_224001.out z92 (t233 : Int) p37 q37
       obtain rfl := k92_openM hM37
       have hx37_0 : World.cell? _ ⟨go37, (t233 : Int).toNat * 2, none⟩ = some (.int .i64 ((rd_T92 t219 t233).f0)) := hcc37 0 _ rfl
       have hx37_1 : World.cell? _ ⟨go37, (t233 : Int).toNat * 2 + 1, none⟩ = some (.int .i64 ((rd_T92 t219 t233).f1)) := hcc37 1 _ rfl
       have hf37_0 : World.frozen? _ ⟨go37, (t233 : Int).toNat * 2, none⟩ = false := hfr37 0
       have hf37_1 : World.frozen? _ ⟨go37, (t233 : Int).toNat * 2 + 1, none⟩ = false := hfr37 1
       clear hcl37 hcc37 hfr37; (try clear hM37)
       replace p37 := eq_true p37
       replace q37 := eq_true q37
       have HN0_go37 := Aside0.mk (show g ≠ go37 from by have h_ := IsS121.own_ne HI0.out HO_224001.out (by decide); intro e_; exact h_ (by rw [e_]; rfl))
       obtain ⟨ce47, hcl47, hM47, hcc47, hfr47⟩ := Kd.R_elem HO_224001.out z92 (t233 : Int) (oda) (by have h_ : (t233 : Int) < ((t219.length : Int) : Int) := oda; first | exact h_ | (have e_ := (Kd.R_reads' HO_224001.out).1; omega) | simpa using h_)
       obtain rfl := k92_openM hM47
       have HP47 := (Kd.R_seg HO_224001.out (t233 : Int) (oda) (by have h_ : (t233 : Int) < ((t219.length : Int) : Int) := oda; first | exact h_ | (have e_ := (Kd.R_reads' HO_224001.out).1; omega) | simpa using h_) (seg := [.int .i64 t238, .int .i64 0]) (j := 0) hcl47 hcc47 (show 2 ≤ 2 from by decide) (x' := (⟨t238, 0⟩ : S92)) (k92_mkM _ _ _ (⟨t238, 0⟩ : S92) ) (fun _ hk => hk)).1
       rw [← Ny240.out] at HP47
       have HQ47 := Aside0.mk HP47
       clear hcl47 hcc47 hfr47 HP47; (try clear hM47)
       refine hK.out _ _ ⟨(blk_cell BK223.out 0).trans rfl, (blk_cell BK223.out 1).trans rfl⟩ (fun hHeld => ?_)
       clear hK K
       refine norm_ (a' := ?_) ?_ ?_
       rotate_left
       ·show Act.put _ (some 42) _ = _
        simp only [Act.put, List.setIfInBounds_toArray, List.set_cons_zero, List.set_cons_succ, i64_w, i32_w]
        rfl
       refine Pt.pu 12 (some 43) (Pt.bm 15 8191) (any_of HT_.out (by kernel_rfl)) ?_
       refine Pt.pu 13 (some 44) (Pt.bm 15 16383) (any_of HT_.out (by kernel_rfl)) ?_
       refine last_ (i := 14) (N := none) (Pt.bm 15 32767) rfl rfl (one_of HT_.out (by kernel_rfl)) (by decide) (fun K hK => ?_)
       refine skip_ (w1 := ?_) (by rfl) rfl ?_ ?_
       rotate_left
       ·go_simp
        rfl
       refine hK.out _ _ ?_
       clear hK K
       refine done_ (done_of HT_.out (by kernel_rfl)) ?_
       have n0_ : Aside0 (Kd.R k92 92 ((w46.setCell ⟨go37, (t233 : Int).toNat * 2, none⟩ (.int .i64 t238)).setCell ⟨go37, (t233 : Int).toNat * 2 + 1, none⟩ (.int .i64 0)) w.heap.size (fun _ => True) (.slice (some ⟨go37, 0, none⟩) t219.length co13) y240) := ⟨rvR HQ47.out⟩
       have n1_ : Aside0 (Kd.R (Kd.int .i64) 3 ((w46.setCell ⟨go37, (t233 : Int).toNat * 2, none⟩ (.int .i64 t238)).setCell ⟨go37, (t233 : Int).toNat * 2 + 1, none⟩ (.int .i64 0)) w.heap.size (fun _ => True) (.slice Ao45 y235.length co45) y235) := ⟨by (with_reducible repeat (first | apply Kd.R_alloc | apply Kd.R_drewN | apply Kd.R_drew)); exact Kd.R_mono (Kd.R_far (p := ⟨go37, (t233 : Int).toNat * 2 + 1, none⟩) (Kd.R_far (p := ⟨go37, (t233 : Int).toNat * 2, none⟩) (Kd.R_types HO237.out GG37.out (by decide)) (fun _ hk => hk.2) (.int .i64 t238)) (fun _ hk => hk.2) (.int .i64 0)) (fun _ hk => trivial)⟩
       have n2_ : Aside0 (((w46.setCell ⟨go37, (t233 : Int).toNat * 2, none⟩ (.int .i64 t238)).setCell ⟨go37, (t233 : Int).toNat * 2 + 1, none⟩ (.int .i64 0)).heap[gb217]? = some (.cells #[.int .i64 0, .slice none 0 0] 28 (0, 0))) := ⟨by (with_reducible repeat (first | refine blk_drewN ?_ _ | refine blk_drew ?_ | refine blk_alloc ?_ _)); refine blk_far ?_ (by have h_ := Kd.R_ne HO_224001.out BK217.out (by decide); intro e_; exact h_ (by rw [e_]; rfl)) _; (with_reducible repeat (first | refine blk_drewN ?_ _ | refine blk_drew ?_ | refine blk_alloc ?_ _)); refine blk_far ?_ (by have h_ := Kd.R_ne HO_224001.out BK217.out (by decide); intro e_; exact h_ (by rw [e_]; rfl)) _; (with_reducible repeat (first | refine blk_drewN ?_ _ | refine blk_drew ?_ | refine blk_alloc ?_ _)); exact BK217.out⟩
       have n3_ : Aside0 (((w46.setCell ⟨go37, (t233 : Int).toNat * 2, none⟩ (.int .i64 t238)).setCell ⟨go37, (t233 : Int).toNat * 2 + 1, none⟩ (.int .i64 0)).heap[gb223]? = some (.cells #[.int .i64 t218, .slice (some ⟨go37, 0, none⟩) t219.length co13] 28 (0, 0))) := ⟨by (with_reducible repeat (first | refine blk_drewN ?_ _ | refine blk_drew ?_ | refine blk_alloc ?_ _)); refine blk_far ?_ (by have h_ := Kd.R_ne HO_224001.out BK223.out (by decide); intro e_; exact h_ (by rw [e_]; rfl)) _; (with_reducible repeat (first | refine blk_drewN ?_ _ | refine blk_drew ?_ | refine blk_alloc ?_ _)); refine blk_far ?_ (by have h_ := Kd.R_ne HO_224001.out BK223.out (by decide); intro e_; exact h_ (by rw [e_]; rfl)) _; (with_reducible repeat (first | refine blk_drewN ?_ _ | refine blk_drew ?_ | refine blk_alloc ?_ _)); exact BK223.out⟩
       have n4_ : Aside0 (IsS121 w0 ((w46.setCell ⟨go37, (t233 : Int).toNat * 2, none⟩ (.int .i64 t238)).setCell ⟨go37, (t233 : Int).toNat * 2 + 1, none⟩ (.int .i64 0)) g s0_0 t239) := ⟨by repeat (first | (with_reducible first | exact HI0.out | apply IsS121.alloc | apply IsS121.drewN | apply IsS121.drew | apply IsS121.set_1 | refine IsS121.far ?_ HN0_go37.out _ | refine IsS121.far ?_ HN0_go37.out _ | refine IsS121.far ?_ NB0_217.out _ | refine IsS121.far ?_ NB0_223.out _) | exact HI0.out)⟩
       have n5_ : Aside0 (KeepBut w ((w46.setCell ⟨go37, (t233 : Int).toNat * 2, none⟩ (.int .i64 t238)).setCell ⟨go37, (t233 : Int).toNat * 2 + 1, none⟩ (.int .i64 0)) g none) := ⟨by repeat (first | (with_reducible first | exact HK.out | apply KeepBut.set_ | apply keep_drewN | apply keep_drew | apply keep_alloc | refine keep_far ?_ GB37.out _ | refine keep_far ?_ GB37.out _ | refine keep_far ?_ GW217.out _ | refine keep_far ?_ GW223.out _) | exact HK.out)⟩
       have n6_ : Aside0 (Below w0.heap.size w0 ((w46.setCell ⟨go37, (t233 : Int).toNat * 2, none⟩ (.int .i64 t238)).setCell ⟨go37, (t233 : Int).toNat * 2 + 1, none⟩ (.int .i64 0))) := ⟨by repeat (first | (with_reducible first | exact HB.out | apply bwA | apply bwN | apply bwD | refine below_set ?_ (Nat.le_trans HL.out GB37.out) | refine below_set ?_ (Nat.le_trans HL.out GB37.out) | refine below_set ?_ (IsS121.ge HI0.out) | refine below_set ?_ GE217.out | refine below_set ?_ GE223.out) | exact HB.out)⟩
       (try clear HO_224001)
       (try clear HO237)
       (try clear BK217)
       (try clear BK223)
       (try clear HI0)
       (try clear HK)
       (try clear HB)
       generalize ((w46.setCell ⟨go37, (t233 : Int).toNat * 2, none⟩ (.int .i64 t238)).setCell ⟨go37, (t233 : Int).toNat * 2 + 1, none⟩ (.int .i64 0)) = w48 at n0_ n1_ n2_ n3_ n4_ n5_ n6_ ⊢
       have HO_224001 := n0_
       have HO237 := n1_
       have BK217 := n2_
       have BK223 := n3_
       have HI0 := n4_
       have HK := n5_
       have HB := n6_
       clear n0_ n1_ n2_ n3_ n4_ n5_ n6_
       have hcz49_0 : w48.cell? ⟨gb223, 0, none⟩ = some (.int .i64 t218) := (blk_cell BK223.out 0).trans rfl
       have hcz49_1 : w48.cell? ⟨gb223, 1, none⟩ = some (.slice (some ⟨go37, 0, none⟩) t219.length co13) := (blk_cell BK223.out 1).trans rfl
       have hfz49_0 := blk_frozen BK223.out 0
       have hfz49_1 := blk_frozen BK223.out 1
       have hnb50 := NB217_0.out
       have hnc50 := NB0_217.out
       have hcz51_0 : w48.cell? ⟨gb217, 0, none⟩ = some (.int .i64 0) := (blk_cell BK217.out 0).trans rfl
       have hcz51_1 : w48.cell? ⟨gb217, 1, none⟩ = some (.slice none 0 0) := (blk_cell BK217.out 1).trans rfl
       have hfz51_0 := blk_frozen BK217.out 0
       have hfz51_1 := blk_frozen BK217.out 1
       try go_wp2
       refine bodyPost_ret (results_cell_row rfl _ _ gb217 28 #[.int .i64 t218, .slice (some ⟨go37, 0, none⟩) t219.length co13] (0, 0) _ rfl (by (with_reducible repeat (first | refine blk_drewN ?_ _ | refine blk_drew ?_ | refine blk_alloc ?_ _)); refine blk_put (cs := #[.int .i64 t218, .slice none 0 0]) ?_ 1 _ rfl; (with_reducible repeat (first | refine blk_drewN ?_ _ | refine blk_drew ?_ | refine blk_alloc ?_ _)); refine blk_put (cs := #[.int .i64 0, .slice none 0 0]) ?_ 0 _ rfl; (with_reducible repeat (first | refine blk_drewN ?_ _ | refine blk_drew ?_ | refine blk_alloc ?_ _)); exact BK217.out) Try.underlying28 rfl (by kernel_rfl)) rfl ?_
       exact ⟨_, ers, by (with_reducible repeat (first | apply Kd.R_alloc | apply Kd.R_drewN | apply Kd.R_drew)); exact Kd.R_mono (Kd.R_far (p := ⟨gb217, 1, none⟩) (Kd.R_far (p := ⟨gb217, 0, none⟩) (Kd.R_types HO_224001.out BK217.out (by decide)) (fun _ hk => hk.2) (.int .i64 t218)) (fun _ hk => hk.2) (.slice (some ⟨go37, 0, none⟩) t219.length co13)) (fun _ hk => trivial), by repeat (first | (with_reducible first | exact HI0.out | apply IsS121.alloc | apply IsS121.drewN | apply IsS121.drew | apply IsS121.set_1 | refine IsS121.far ?_ NB0_217.out _ | refine IsS121.far ?_ NB0_223.out _) | exact HI0.out), by repeat (first | (with_reducible first | exact HB.out | apply bwA | apply bwN | apply bwD | refine below_set ?_ (IsS121.ge HI0.out) | refine below_set ?_ GE217.out | refine below_set ?_ GE223.out) | exact HB.out), by repeat (first | (with_reducible first | exact HK.out | apply KeepBut.set_ | apply keep_drewN | apply keep_drew | apply keep_alloc | refine keep_far ?_ GW217.out _ | refine keep_far ?_ GW223.out _) | exact HK.out)⟩
      ·rw [if_neg c36] at H
       exact absurd H (by simp)
     ·rw [if_neg c35] at H
      exact absurd H (by simp)
 ·rw [if_neg c5] at H
  have c5b0 : (t224 == 0) = false := beq_eq_false_iff_ne.mpr c5
  have c5b1 : (t224 != 0) = true := bne_iff_ne.mpr c5
  simp only [Option.some.injEq, Prod.mk.injEq] at H
  obtain ⟨rfl, rfl, rfl⟩ := H
  go_enter Try.func78, Try.ntmps78
  go_wp2_with (first | ((with_reducible refine gate_dst (N := 4) rfl ?_); (try (refine gate_guard (by rfl) ?_; dsimp only)); refine box_event ?hg (N := 4) ?hd (cs := #[.int .i64 0, .slice none 0 0]) (t := 28) ?hr ?_; (case hd => rfl); (case hg => rfl); (case hr => first | (go_simp; done) | (go_simp; rfl)); intro gb217 hg w52 hbox hb; have n0_ := Aside0.mk (IsS121.below (by repeat (first | (with_reducible first | exact HI0.out | apply IsS121.alloc | apply IsS121.drewN | apply IsS121.drew | apply IsS121.set_1) | exact HI0.out)) hb); have n1_ := Aside0.mk (KeepBut.trans (by repeat (first | (with_reducible first | exact HK.out | apply KeepBut.set_ | apply keep_drewN | apply keep_drew | apply keep_alloc) | exact HK.out)) (KeepBut.of_below hb g none) (.inl rfl)); have n2_ := Aside0.mk (below_step (by repeat (first | (with_reducible first | exact HB.out | apply bwA | apply bwN | apply bwD | refine below_set ?_ (IsS121.ge HI0.out)) | exact HB.out)) hb); have n3_ := Aside0.mk (hbox); have n4_ := Aside0.mk ((by rw [hg]; exact (keep_size (w := w) (g := g) (row := none) (by repeat (first | (with_reducible first | exact HK.out | apply KeepBut.set_ | apply keep_drewN | apply keep_drew | apply keep_alloc) | exact HK.out))) : w.heap.size ≤ gb217)); have n5_ := Aside0.mk ((Nat.le_trans HW0.out (by rw [hg]; exact (keep_size (w := w) (g := g) (row := none) (by repeat (first | (with_reducible first | exact HK.out | apply KeepBut.set_ | apply keep_drewN | apply keep_drew | apply keep_alloc) | exact HK.out))) : w.heap.size ≤ gb217) : w0.heap.size ≤ gb217)); have n6_ := Aside0.mk ((by rw [hg]; exact Nat.ne_of_lt (IsS121.lt (show IsS121 w0 _ g s0_0 s0_1 from by repeat (first | (with_reducible first | exact HI0.out | apply IsS121.alloc | apply IsS121.drewN | apply IsS121.drew | apply IsS121.set_1) | exact HI0.out))) : g ≠ gb217)); have n7_ := Aside0.mk ((by rw [hg]; exact Nat.ne_of_gt (IsS121.lt (show IsS121 w0 _ g s0_0 s0_1 from by repeat (first | (with_reducible first | exact HI0.out | apply IsS121.alloc | apply IsS121.drewN | apply IsS121.drew | apply IsS121.set_1) | exact HI0.out))) : gb217 ≠ g)); clear HI0; clear HK; clear HB; have HI0 := n0_; have HK := n1_; have HB := n2_; have BK217 := n3_; have GW217 := n4_; have GE217 := n5_; have NB0_217 := n6_; have NB217_0 := n7_; clear n0_ n1_ n2_ n3_ n4_ n5_ n6_ n7_; clear hb hbox hg) | ((with_reducible refine gate_callee (f := 115) rfl ?_); refine goesL_ (some 9) rfl rfl Try.func115 (by kernel_rfl) rfl #[.pointer (some ⟨g, 0, none⟩), .int .i64 a1] rfl lmB ?_; (with_reducible refine (spec_l7Draw.calls k g s0_0 s0_1 a1 t218 t219 t222 w0 _ ?side1 ?side2 A3.out).mono ?_); (case side1 => repeat (first | (with_reducible first | exact HI0.out | apply IsS121.alloc | apply IsS121.drewN | apply IsS121.drew | apply IsS121.set_1 | refine IsS121.far ?_ NB0_217.out _) | exact HI0.out)); (case side2 => repeat (first | (with_reducible first | exact HB.out | apply bwA | apply bwN | apply bwD | refine below_set ?_ (IsS121.ge HI0.out) | refine below_set ?_ GE217.out) | exact HB.out)); rintro e w53 ⟨v220, rfl, ho0, hi, hb, hk⟩; refine ⟨_, rfl, ?_⟩; have n0_ := Aside0.mk (KeepBut.blk hk (g' := gb217) (o := .cells #[.int .i64 0, .slice none 0 0] 28 (0, 0)) (bvK BK217.out) NB217_0.out (by simp)); have n1_ := Aside0.mk (Kd.R_lower ho0 (keep_size (w := w) (g := g) (row := none) (by repeat (first | (with_reducible first | exact HK.out | apply KeepBut.set_ | apply keep_drewN | apply keep_drew | apply keep_alloc | refine keep_far ?_ GW217.out _) | exact HK.out)))); have n2_ := Aside0.mk (KeepBut.trans (by repeat (first | (with_reducible first | exact HK.out | apply KeepBut.set_ | apply keep_drewN | apply keep_drew | apply keep_alloc | refine keep_far ?_ GW217.out _) | exact HK.out)) hk (.inl rfl)); have n3_ := Aside0.mk (hb); have n4_ := Aside0.mk (hi); clear BK217; clear HK; clear HB; clear HI0; have BK217 := n0_; have HO221 := n1_; have HK := n2_; have HB := n3_; have HI0 := n4_; clear n0_ n1_ n2_ n3_ n4_; (try clear hb); (try clear hb2); (try clear hk); (try clear hi); (try clear ho0)) | ((with_reducible refine gate_dst (N := 5) rfl ?_); (try (refine gate_guard (by rfl) ?_; dsimp only)); refine box_event ?hg (N := 5) ?hd (cs := #[.int .i64 0, .slice none 0 0]) (t := 28) ?hr ?_; (case hd => rfl); (case hg => rfl); (case hr => first | (go_simp; done) | (go_simp; rfl)); intro gb223 hg w54 hbox hb; have n0_ := Aside0.mk (Kd.R_below (rvR HO221.out) hb); have n1_ := Aside0.mk (IsS121.below (by repeat (first | (with_reducible first | exact HI0.out | apply IsS121.alloc | apply IsS121.drewN | apply IsS121.drew | apply IsS121.set_1 | refine IsS121.far ?_ NB0_217.out _) | exact HI0.out)) hb); have n2_ := Aside0.mk (blk_below (g := gb217) (o := .cells #[.int .i64 0, .slice none 0 0] 28 (0, 0)) (bvK BK217.out) hb); have n3_ := Aside0.mk (KeepBut.trans (by repeat (first | (with_reducible first | exact HK.out | apply KeepBut.set_ | apply keep_drewN | apply keep_drew | apply keep_alloc | refine keep_far ?_ GW217.out _) | exact HK.out)) (KeepBut.of_below hb g none) (.inl rfl)); have n4_ := Aside0.mk (below_step (by repeat (first | (with_reducible first | exact HB.out | apply bwA | apply bwN | apply bwD | refine below_set ?_ (IsS121.ge HI0.out) | refine below_set ?_ GE217.out) | exact HB.out)) hb); have n5_ := Aside0.mk (hbox); have n6_ := Aside0.mk ((by rw [hg]; exact (keep_size (w := w) (g := g) (row := none) (by repeat (first | (with_reducible first | exact HK.out | apply KeepBut.set_ | apply keep_drewN | apply keep_drew | apply keep_alloc | refine keep_far ?_ GW217.out _) | exact HK.out))) : w.heap.size ≤ gb223)); have n7_ := Aside0.mk ((Nat.le_trans HW0.out (by rw [hg]; exact (keep_size (w := w) (g := g) (row := none) (by repeat (first | (with_reducible first | exact HK.out | apply KeepBut.set_ | apply keep_drewN | apply keep_drew | apply keep_alloc | refine keep_far ?_ GW217.out _) | exact HK.out))) : w.heap.size ≤ gb223) : w0.heap.size ≤ gb223)); have n8_ := Aside0.mk ((by rw [hg]; exact Nat.ne_of_lt (blk_lt (g := gb217) (o := .cells #[.int .i64 0, .slice none 0 0] 28 (0, 0)) (bvK BK217.out)) : gb217 ≠ gb223)); have n9_ := Aside0.mk ((by rw [hg]; exact Nat.ne_of_gt (blk_lt (g := gb217) (o := .cells #[.int .i64 0, .slice none 0 0] 28 (0, 0)) (bvK BK217.out)) : gb223 ≠ gb217)); have n10_ := Aside0.mk ((by rw [hg]; exact Nat.ne_of_lt (IsS121.lt (show IsS121 w0 _ g s0_0 t222 from by repeat (first | (with_reducible first | exact HI0.out | apply IsS121.alloc | apply IsS121.drewN | apply IsS121.drew | apply IsS121.set_1 | refine IsS121.far ?_ NB0_217.out _) | exact HI0.out))) : g ≠ gb223)); have n11_ := Aside0.mk ((by rw [hg]; exact Nat.ne_of_gt (IsS121.lt (show IsS121 w0 _ g s0_0 t222 from by repeat (first | (with_reducible first | exact HI0.out | apply IsS121.alloc | apply IsS121.drewN | apply IsS121.drew | apply IsS121.set_1 | refine IsS121.far ?_ NB0_217.out _) | exact HI0.out))) : gb223 ≠ g)); clear HO221; clear HI0; clear BK217; clear HK; clear HB; have HO221 := n0_; have HI0 := n1_; have BK217 := n2_; have HK := n3_; have HB := n4_; have BK223 := n5_; have GW223 := n6_; have GE223 := n7_; have NB217_223 := n8_; have NB223_217 := n9_; have NB0_223 := n10_; have NB223_0 := n11_; clear n0_ n1_ n2_ n3_ n4_ n5_ n6_ n7_ n8_ n9_ n10_ n11_; clear hb hbox hg; have hnb55 := NB223_217.out; have hnc55 := NB217_223.out; have hnb56 := NB223_0.out; have hnc56 := NB0_223.out; have hcz57_0 : w54.cell? ⟨gb223, 0, none⟩ = some (.int .i64 0) := (blk_cell BK223.out 0).trans rfl; have hcz57_1 : w54.cell? ⟨gb223, 1, none⟩ = some (.slice none 0 0) := (blk_cell BK223.out 1).trans rfl; have hfz57_0 := blk_frozen BK223.out 0; have hfz57_1 := blk_frozen BK223.out 1; obtain ⟨Ao58, co58, eo58⟩ := Kd.R_slice HO221.out; subst eo58) | ((with_reducible refine gate_callee (f := 79) rfl ?_); refine goesL_ (some 11) rfl rfl Try.func79 (by kernel_rfl) rfl #[.pointer (some ⟨g, 0, none⟩), .int .i64 14] rfl lmB ?_; (with_reducible refine (spec_l40Rd_pick.calls k g s0_0 t222 14 t224 t225 w0 _ ?side1 ?side2 A4.out).mono ?_); (case side1 => repeat (first | (with_reducible first | exact HI0.out | apply IsS121.alloc | apply IsS121.drewN | apply IsS121.drew | apply IsS121.set_1 | refine IsS121.far ?_ NB0_217.out _ | refine IsS121.far ?_ NB0_223.out _) | exact HI0.out)); (case side2 => repeat (first | (with_reducible first | exact HB.out | apply bwA | apply bwN | apply bwD | refine below_set ?_ (IsS121.ge HI0.out) | refine below_set ?_ GE217.out | refine below_set ?_ GE223.out) | exact HB.out)); rintro e w59 ⟨rfl, hi, hb, hk⟩; refine ⟨_, rfl, ?_⟩; have n0_ := Aside0.mk (KeepBut.blk hk (g' := gb217) (o := .cells #[.int .i64 0, .slice none 0 0] 28 (0, 0)) (by (with_reducible repeat (first | refine blk_drewN ?_ _ | refine blk_drew ?_ | refine blk_alloc ?_ _)); refine blk_far ?_ NB217_223.out _; (with_reducible repeat (first | refine blk_drewN ?_ _ | refine blk_drew ?_ | refine blk_alloc ?_ _)); refine blk_far ?_ NB217_223.out _; (with_reducible repeat (first | refine blk_drewN ?_ _ | refine blk_drew ?_ | refine blk_alloc ?_ _)); exact BK217.out) NB217_0.out (by simp)); have n1_ := Aside0.mk (Kd.R_mono (Kd.R_keep (IsS121.apart (show IsS121 w0 _ g s0_0 t222 from by repeat (first | (with_reducible first | exact HI0.out | apply IsS121.alloc | apply IsS121.drewN | apply IsS121.drew | apply IsS121.set_1 | refine IsS121.far ?_ NB0_217.out _ | refine IsS121.far ?_ NB0_223.out _) | exact HI0.out)) (by (with_reducible repeat (first | apply Kd.R_alloc | apply Kd.R_drewN | apply Kd.R_drew)); exact (Kd.R_mono (Kd.R_far (p := ⟨gb223, 1, none⟩) (Kd.R_far (p := ⟨gb223, 0, none⟩) (Kd.R_types HO221.out BK223.out (by decide)) (fun _ hk => hk.2) (.int .i64 t218)) (fun _ hk => hk.2) (.slice Ao58 t219.length co58)) (fun _ h_ => h_.1))) (by decide)) hk (fun _ h => h.2)) (fun _ h => h.1)); have n2_ := Aside0.mk (KeepBut.blk hk (g' := gb223) (o := .cells #[.int .i64 t218, .slice Ao58 t219.length co58] 28 (0, 0)) (by (with_reducible repeat (first | refine blk_drewN ?_ _ | refine blk_drew ?_ | refine blk_alloc ?_ _)); refine blk_put (cs := #[.int .i64 t218, .slice none 0 0]) ?_ 1 _ rfl; (with_reducible repeat (first | refine blk_drewN ?_ _ | refine blk_drew ?_ | refine blk_alloc ?_ _)); refine blk_put (cs := #[.int .i64 0, .slice none 0 0]) ?_ 0 _ rfl; (with_reducible repeat (first | refine blk_drewN ?_ _ | refine blk_drew ?_ | refine blk_alloc ?_ _)); exact BK223.out) NB223_0.out (by simp)); have n3_ := Aside0.mk (KeepBut.trans (by repeat (first | (with_reducible first | exact HK.out | apply KeepBut.set_ | apply keep_drewN | apply keep_drew | apply keep_alloc | refine keep_far ?_ GW217.out _ | refine keep_far ?_ GW223.out _) | exact HK.out)) hk (.inl rfl)); have n4_ := Aside0.mk (hb); have n5_ := Aside0.mk (hi); clear BK217; clear HO221; clear BK223; clear HK; clear HB; clear HI0; have BK217 := n0_; have HO221 := n1_; have BK223 := n2_; have HK := n3_; have HB := n4_; have HI0 := n5_; clear n0_ n1_ n2_ n3_ n4_ n5_; (try clear hb); (try clear hb2); (try clear hk); (try clear hi); have hcz60_0 : w59.cell? ⟨gb223, 0, none⟩ = some (.int .i64 t218) := (blk_cell BK223.out 0).trans rfl; have hcz60_1 : w59.cell? ⟨gb223, 1, none⟩ = some (.slice Ao58 t219.length co58) := (blk_cell BK223.out 1).trans rfl; have hfz60_0 := blk_frozen BK223.out 0; have hfz60_1 := blk_frozen BK223.out 1; have hnb61 := NB217_0.out; have hnc61 := NB0_217.out; have hcz62_0 : w59.cell? ⟨gb217, 0, none⟩ = some (.int .i64 0) := (blk_cell BK217.out 0).trans rfl; have hcz62_1 : w59.cell? ⟨gb217, 1, none⟩ = some (.slice none 0 0) := (blk_cell BK217.out 1).trans rfl; have hfz62_0 := blk_frozen BK217.out 0; have hfz62_1 := blk_frozen BK217.out 1))
  refine bodyPost_ret (results_cell_row rfl _ _ gb217 28 #[.int .i64 t218, .slice Ao58 t219.length co58] (0, 0) _ rfl (by (with_reducible repeat (first | refine blk_drewN ?_ _ | refine blk_drew ?_ | refine blk_alloc ?_ _)); refine blk_put (cs := #[.int .i64 t218, .slice none 0 0]) ?_ 1 _ rfl; (with_reducible repeat (first | refine blk_drewN ?_ _ | refine blk_drew ?_ | refine blk_alloc ?_ _)); refine blk_put (cs := #[.int .i64 0, .slice none 0 0]) ?_ 0 _ rfl; (with_reducible repeat (first | refine blk_drewN ?_ _ | refine blk_drew ?_ | refine blk_alloc ?_ _)); exact BK217.out) Try.underlying28 rfl (by kernel_rfl)) rfl ?_
  exact ⟨_, ers, by (with_reducible repeat (first | apply Kd.R_alloc | apply Kd.R_drewN | apply Kd.R_drew)); exact Kd.R_mono (Kd.R_far (p := ⟨gb217, 1, none⟩) (Kd.R_far (p := ⟨gb217, 0, none⟩) (Kd.R_types HO221.out BK217.out (by decide)) (fun _ hk => hk.2) (.int .i64 t218)) (fun _ hk => hk.2) (.slice Ao58 t219.length co58)) (fun _ hk => trivial), by repeat (first | (with_reducible first | exact HI0.out | apply IsS121.alloc | apply IsS121.drewN | apply IsS121.drew | apply IsS121.set_1 | refine IsS121.far ?_ NB0_217.out _ | refine IsS121.far ?_ NB0_223.out _) | exact HI0.out), by repeat (first | (with_reducible first | exact HB.out | apply bwA | apply bwN | apply bwD | refine below_set ?_ (IsS121.ge HI0.out) | refine below_set ?_ GE217.out | refine below_set ?_ GE223.out) | exact HB.out), by repeat (first | (with_reducible first | exact HK.out | apply KeepBut.set_ | apply keep_drewN | apply keep_drew | apply keep_alloc | refine keep_far ?_ GW217.out _ | refine keep_far ?_ GW223.out _) | exact HK.out)⟩

end Go.Proofs.Ytpcckoljocpchaa.QFnAddPick
