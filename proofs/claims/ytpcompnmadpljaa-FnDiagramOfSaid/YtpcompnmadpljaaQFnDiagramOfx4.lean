-- Written by a program of this session (mk.py). Lean checks it.
import Derived.Test.YtpcompnmadpljaaQFnDiagramOfx0
import Derived.Test.YtpcompnmadpljaaQFnDiagramOfx2
import Derived.Test.YtpcompnmadpljaaQFnDiagramOfx3
namespace Go.Proofs.Ytpcompnmadpljaa.QFnDiagramOf
open Go.RowKit Go.Proofs.YtpcompnmadpljaaW.PrintWords Go.Proofs.YtpcompnmadpljaaW.PrintLast Go.Proofs.YtpcompnmadpljaaW.PrintMore
attribute [local go_sem] max2_int min2_int max_two min_two max_three min_three max_four min_four   -- for this text's walks alone
set_option linter.unusedVariables false
set_option linter.unusedSimpArgs false

/-! ### spec_l7Any: function 106 -/
def spec_l7Any.j0 : Nat → Bool → List Int → Int → Int → List (S121) → Option (Int × (List (S121)) × Int)
 | 0, _, _, _, _, _ => none
 | k + 1, x21, x1000, x1001, x143000, x143001 => if x21 = true then ((spec_l40Rd_num.f k x1000 x1001 (([(-1), 13] : List Int))).bind fun bt150 => (some (bt150.1, x143001, bt150.2))) else ((spec_l40Rd_pick.f k x1000 x1001 (x143001.length : Int)).bind fun bt152 => ((spec_l40Rd_num.f k x1000 bt152.2 (([(-1), wrap64 (2 * (wrap64 ((wrap64 (1 + x143000)) + bt152.1)))] : List Int))).bind fun bt157 => (if 0 ≤ bt152.1 then (if bt152.1 < (x143001.length : Int) then (some (x143000, (x143001.set (bt152.1 : Int).toNat (⟨bt157.1, 0⟩ : S121)), bt157.2)) else (none)) else (none))))
def spec_l7Any.f (k : Nat) (s0_0 : List Int) (s0_1 : Int) (a1 : Int) : Option (Int × (List (S121)) × Int) := (spec_l7Draw.f k s0_0 s0_1 a1).bind fun bt137 => ((spec_l40Rd_pick.f k s0_0 bt137.2.2 14).bind fun bt143 => (if bt143.1 = 0 then ((spec_l40Rd_pick.f k s0_0 bt143.2 2).bind fun bt145 => (if bt145.1 = 0 then (spec_l7Any.j0 k true s0_0 bt145.2 bt137.1 bt137.2.1) else (spec_l7Any.j0 k ((bt137.2.1.length : Int) == 0) s0_0 bt145.2 bt137.1 bt137.2.1))) else (some (bt137.1, bt137.2.1, bt143.2))))
theorem spec_l7Any.mono_l : ∀ k, (∀ y0 y1 y2 y3 y4, LeO (spec_l7Any.j0 k y0 y1 y2 y3 y4) (spec_l7Any.j0 (k + 1) y0 y1 y2 y3 y4))
 | 0 => fun _ _ _ _ _ r h => by simp [spec_l7Any.j0] at h
 | k + 1 => by
  have ih0 := spec_l7Any.mono_l k
  ·intro y0 y1 y2 y3 y4
   unfold spec_l7Any.j0
   repeat' first
   | (with_reducible exact ih0 _ _ _ _ _)
   | (with_reducible exact spec_l40Rd_num.mono _ _ _ _)
   | (with_reducible exact spec_l40Rd_pick.mono _ _ _ _)
   | (with_reducible exact spec_l7Draw.mono _ _ _ _)
   | (with_reducible exact LeO.refl _)
   | (with_reducible exact LeO.none _)
   | (with_reducible refine LeO.ite ?_ ?_)
   | (with_reducible refine LeO.bind ?_ (fun _ => ?_))
   | exact ih0 _ _ _ _ _
   | exact spec_l40Rd_num.mono _ _ _ _
   | exact spec_l40Rd_pick.mono _ _ _ _
   | exact spec_l7Draw.mono _ _ _ _
   | exact LeO.none _
   | refine LeO.ite ?_ ?_
   | refine LeO.bind ?_ (fun _ => ?_)
theorem spec_l7Any.mono : ∀ a0 a1 a2 k, LeO (spec_l7Any.f k a0 a1 a2) (spec_l7Any.f (k + 1) a0 a1 a2) := by
 intro a0 a1 a2 k
 have ih0 := spec_l7Any.mono_l k
 unfold spec_l7Any.f
 repeat' first
   | (with_reducible exact ih0 _ _ _ _ _)
   | (with_reducible exact spec_l40Rd_num.mono _ _ _ _)
   | (with_reducible exact spec_l40Rd_pick.mono _ _ _ _)
   | (with_reducible exact spec_l7Draw.mono _ _ _ _)
   | (with_reducible exact LeO.refl _)
   | (with_reducible exact LeO.none _)
   | (with_reducible refine LeO.ite ?_ ?_)
   | (with_reducible refine LeO.bind ?_ (fun _ => ?_))
   | exact ih0 _ _ _ _ _
   | exact spec_l40Rd_num.mono _ _ _ _
   | exact spec_l40Rd_pick.mono _ _ _ _
   | exact spec_l7Draw.mono _ _ _ _
   | exact LeO.none _
   | refine LeO.ite ?_ ?_
   | refine LeO.bind ?_ (fun _ => ?_)
def spec_l7Any.T6 : Bool × List (List Nat × List Nat) := (true, [([], []), ([0], [0]), ([], []), ([], []), ([], []), ([4], [4]), ([5], [5]), ([], []), ([6, 7], [6, 7]), ([8], [8]), ([9], [9]), ([3, 10], [3, 10]), ([11], [11]), ([1, 2, 0, 1, 2, 3, 4, 5, 6, 7, 8, 9, 10, 11, 12], [1, 2]), ([13, 12, 11, 0, 1, 2, 3, 4, 5, 6, 7, 8, 9, 10, 11, 12], [12, 13])])
def spec_l7Any.B6 : List Nat := [0, 1, 0, 0, 0, 16, 48, 0, 240, 496, 1008, 2040, 4088, 8191, 16383]
theorem spec_l7Any.tab6 : rtab .any (opsOf Try.f106 6) = spec_l7Any.T6 := by kernel_rfl
theorem spec_l7Any.bits6 : waitsOk spec_l7Any.T6.2 spec_l7Any.B6 = true := by kernel_rfl
set_option maxHeartbeats 8000000 in
set_option maxRecDepth 100000 in
theorem spec_l7Any.calls (k : Nat) (g : Nat) (s0_0 : List Int) (s0_1 : Int) (a1 : Int) (r1 : Int) (r2 : List (S121)) (r3 : Int) (w0 w : World) (hI : IsS106 w0 w g s0_0 s0_1) (hB : Below w0.heap.size w0 w) (h : spec_l7Any.f k s0_0 s0_1 a1 = some (r1, r2, r3)) :
  Calls Try.prog 106 #[.pointer (some ⟨g, 0, none⟩), .int .i64 a1] w fun e w' => ∃ v1_ : Value, e = .returned (.agg #[.int .i64 r1, v1_]) ∧ Kd.R k121 121 w' w.heap.size (fun _ => True) v1_ r2 ∧ IsS106 w0 w' g s0_0 r3 ∧ Below w0.heap.size w0 w' ∧ KeepBut w w' g none := by
 have hu45 := Try.underlying45
 have hu121 := Try.underlying121
 have HI0 := Aside0.mk hI
 have HK := Aside0.mk (KeepBut.refl w g none)
 have HL := Aside0.mk hB.size
 clear hI
 have HW0 := Aside0.mk hB.size
 have HB := Aside0.mk hB
 clear hB
 have H : ((spec_l7Draw.f k s0_0 s0_1 a1).bind fun bt137 => ((spec_l40Rd_pick.f k s0_0 bt137.2.2 14).bind fun bt143 => (if bt143.1 = 0 then ((spec_l40Rd_pick.f k s0_0 bt143.2 2).bind fun bt145 => (if bt145.1 = 0 then (spec_l7Any.j0 k true s0_0 bt145.2 bt137.1 bt137.2.1) else (spec_l7Any.j0 k ((bt137.2.1.length : Int) == 0) s0_0 bt145.2 bt137.1 bt137.2.1))) else (some (bt137.1, bt137.2.1, bt143.2))))) = some (r1, r2, r3) := h
 clear h
 replace H := Option.bind_eq_some_iff.mp H
 obtain ⟨⟨t137, t138, t141⟩, A30, H⟩ := H
 replace H : ((spec_l40Rd_pick.f k s0_0 t141 14).bind fun bt143 => (if bt143.1 = 0 then ((spec_l40Rd_pick.f k s0_0 bt143.2 2).bind fun bt145 => (if bt145.1 = 0 then (spec_l7Any.j0 k true s0_0 bt145.2 t137 t138) else (spec_l7Any.j0 k ((t138.length : Int) == 0) s0_0 bt145.2 t137 t138))) else (some (t137, t138, bt143.2)))) = some (r1, r2, r3) := H
 have A3 := Aside0.mk A30
 clear A30
 replace H := Option.bind_eq_some_iff.mp H
 obtain ⟨⟨t143, t144⟩, A40, H⟩ := H
 replace H : (if t143 = 0 then ((spec_l40Rd_pick.f k s0_0 t144 2).bind fun bt145 => (if bt145.1 = 0 then (spec_l7Any.j0 k true s0_0 bt145.2 t137 t138) else (spec_l7Any.j0 k ((t138.length : Int) == 0) s0_0 bt145.2 t137 t138))) else (some (t137, t138, t144))) = some (r1, r2, r3) := H
 have A4 := Aside0.mk A40
 clear A40
 by_cases c5 : t143 = 0
 ·rw [if_pos c5] at H
  have c5b0 : (t143 == 0) = true := beq_iff_eq.mpr c5
  have c5b1 : (t143 != 0) = false := bne_eq_false_iff_eq.mpr c5
  clear c5
  have HC6 := Aside0.mk H
  clear H
  go_enter Try.func106, Try.ntmps106
  go_upto_region 3 with (first | ((with_reducible refine gate_dst (N := 4) rfl ?_); (try (refine gate_guard (by rfl) ?_; dsimp only)); refine box_event ?hg (N := 4) ?hd (cs := #[.int .i64 0, .slice none 0 0]) (t := 45) ?hr ?_; (case hd => rfl); (case hg => rfl); (case hr => first | (go_simp; done) | (go_simp; rfl)); intro gb136 hg w7 hbox hb; have n0_ := Aside0.mk (IsS106.below (by repeat (first | (with_reducible first | exact HI0.out | apply IsS106.alloc | apply IsS106.drewN | apply IsS106.drew | apply IsS106.set_1) | exact HI0.out)) hb); have n1_ := Aside0.mk (KeepBut.trans (by repeat (first | (with_reducible first | exact HK.out | apply KeepBut.set_ | apply keep_drewN | apply keep_drew | apply keep_alloc) | exact HK.out)) (KeepBut.of_below hb g none) (.inl rfl)); have n2_ := Aside0.mk (below_step (by repeat (first | (with_reducible first | exact HB.out | apply bwA | apply bwN | apply bwD | refine below_set ?_ (IsS106.ge HI0.out)) | exact HB.out)) hb); have n3_ := Aside0.mk (hbox); have n4_ := Aside0.mk ((by rw [hg]; exact (keep_size (w := w) (g := g) (row := none) (by repeat (first | (with_reducible first | exact HK.out | apply KeepBut.set_ | apply keep_drewN | apply keep_drew | apply keep_alloc) | exact HK.out))) : w.heap.size ≤ gb136)); have n5_ := Aside0.mk ((Nat.le_trans HW0.out (by rw [hg]; exact (keep_size (w := w) (g := g) (row := none) (by repeat (first | (with_reducible first | exact HK.out | apply KeepBut.set_ | apply keep_drewN | apply keep_drew | apply keep_alloc) | exact HK.out))) : w.heap.size ≤ gb136) : w0.heap.size ≤ gb136)); have n6_ := Aside0.mk ((by rw [hg]; exact Nat.ne_of_lt (IsS106.lt (show IsS106 w0 _ g s0_0 s0_1 from by repeat (first | (with_reducible first | exact HI0.out | apply IsS106.alloc | apply IsS106.drewN | apply IsS106.drew | apply IsS106.set_1) | exact HI0.out))) : g ≠ gb136)); have n7_ := Aside0.mk ((by rw [hg]; exact Nat.ne_of_gt (IsS106.lt (show IsS106 w0 _ g s0_0 s0_1 from by repeat (first | (with_reducible first | exact HI0.out | apply IsS106.alloc | apply IsS106.drewN | apply IsS106.drew | apply IsS106.set_1) | exact HI0.out))) : gb136 ≠ g)); clear HI0; clear HK; clear HB; have HI0 := n0_; have HK := n1_; have HB := n2_; have BK136 := n3_; have GW136 := n4_; have GE136 := n5_; have NB0_136 := n6_; have NB136_0 := n7_; clear n0_ n1_ n2_ n3_ n4_ n5_ n6_ n7_; clear hb hbox hg) | ((with_reducible refine gate_callee (f := 115) rfl ?_); refine goesL_ (some 9) rfl rfl Try.func115 (by kernel_rfl) rfl #[.pointer (some ⟨g, 0, none⟩), .int .i64 a1] rfl lmB ?_; (with_reducible refine (spec_l7Draw.calls k g s0_0 s0_1 a1 t137 t138 t141 w0 _ ?side1 ?side2 A3.out).mono ?_); (case side1 => repeat (first | (with_reducible first | exact HI0.out | apply IsS106.alloc | apply IsS106.drewN | apply IsS106.drew | apply IsS106.set_1 | refine IsS106.far ?_ NB0_136.out _) | exact HI0.out)); (case side2 => repeat (first | (with_reducible first | exact HB.out | apply bwA | apply bwN | apply bwD | refine below_set ?_ (IsS106.ge HI0.out) | refine below_set ?_ GE136.out) | exact HB.out)); rintro e w8 ⟨v139, rfl, ho0, hi, hb, hk⟩; refine ⟨_, rfl, ?_⟩; have n0_ := Aside0.mk (KeepBut.blk hk (g' := gb136) (o := .cells #[.int .i64 0, .slice none 0 0] 45 (0, 0)) (bvK BK136.out) NB136_0.out (by simp)); have n1_ := Aside0.mk (Kd.R_lower ho0 (keep_size (w := w) (g := g) (row := none) (by repeat (first | (with_reducible first | exact HK.out | apply KeepBut.set_ | apply keep_drewN | apply keep_drew | apply keep_alloc | refine keep_far ?_ GW136.out _) | exact HK.out)))); have n2_ := Aside0.mk (KeepBut.trans (by repeat (first | (with_reducible first | exact HK.out | apply KeepBut.set_ | apply keep_drewN | apply keep_drew | apply keep_alloc | refine keep_far ?_ GW136.out _) | exact HK.out)) hk (.inl rfl)); have n3_ := Aside0.mk (hb); have n4_ := Aside0.mk (hi); clear BK136; clear HK; clear HB; clear HI0; have BK136 := n0_; have HO140 := n1_; have HK := n2_; have HB := n3_; have HI0 := n4_; clear n0_ n1_ n2_ n3_ n4_; (try clear hb); (try clear hb2); (try clear hk); (try clear hi); (try clear ho0)) | ((with_reducible refine gate_dst (N := 5) rfl ?_); (try (refine gate_guard (by rfl) ?_; dsimp only)); refine box_event ?hg (N := 5) ?hd (cs := #[.int .i64 0, .slice none 0 0]) (t := 45) ?hr ?_; (case hd => rfl); (case hg => rfl); (case hr => first | (go_simp; done) | (go_simp; rfl)); intro gb142 hg w9 hbox hb; have n0_ := Aside0.mk (Kd.R_below (rvR HO140.out) hb); have n1_ := Aside0.mk (IsS106.below (by repeat (first | (with_reducible first | exact HI0.out | apply IsS106.alloc | apply IsS106.drewN | apply IsS106.drew | apply IsS106.set_1 | refine IsS106.far ?_ NB0_136.out _) | exact HI0.out)) hb); have n2_ := Aside0.mk (blk_below (g := gb136) (o := .cells #[.int .i64 0, .slice none 0 0] 45 (0, 0)) (bvK BK136.out) hb); have n3_ := Aside0.mk (KeepBut.trans (by repeat (first | (with_reducible first | exact HK.out | apply KeepBut.set_ | apply keep_drewN | apply keep_drew | apply keep_alloc | refine keep_far ?_ GW136.out _) | exact HK.out)) (KeepBut.of_below hb g none) (.inl rfl)); have n4_ := Aside0.mk (below_step (by repeat (first | (with_reducible first | exact HB.out | apply bwA | apply bwN | apply bwD | refine below_set ?_ (IsS106.ge HI0.out) | refine below_set ?_ GE136.out) | exact HB.out)) hb); have n5_ := Aside0.mk (hbox); have n6_ := Aside0.mk ((by rw [hg]; exact (keep_size (w := w) (g := g) (row := none) (by repeat (first | (with_reducible first | exact HK.out | apply KeepBut.set_ | apply keep_drewN | apply keep_drew | apply keep_alloc | refine keep_far ?_ GW136.out _) | exact HK.out))) : w.heap.size ≤ gb142)); have n7_ := Aside0.mk ((Nat.le_trans HW0.out (by rw [hg]; exact (keep_size (w := w) (g := g) (row := none) (by repeat (first | (with_reducible first | exact HK.out | apply KeepBut.set_ | apply keep_drewN | apply keep_drew | apply keep_alloc | refine keep_far ?_ GW136.out _) | exact HK.out))) : w.heap.size ≤ gb142) : w0.heap.size ≤ gb142)); have n8_ := Aside0.mk ((by rw [hg]; exact Nat.ne_of_lt (blk_lt (g := gb136) (o := .cells #[.int .i64 0, .slice none 0 0] 45 (0, 0)) (bvK BK136.out)) : gb136 ≠ gb142)); have n9_ := Aside0.mk ((by rw [hg]; exact Nat.ne_of_gt (blk_lt (g := gb136) (o := .cells #[.int .i64 0, .slice none 0 0] 45 (0, 0)) (bvK BK136.out)) : gb142 ≠ gb136)); have n10_ := Aside0.mk ((by rw [hg]; exact Nat.ne_of_lt (IsS106.lt (show IsS106 w0 _ g s0_0 t141 from by repeat (first | (with_reducible first | exact HI0.out | apply IsS106.alloc | apply IsS106.drewN | apply IsS106.drew | apply IsS106.set_1 | refine IsS106.far ?_ NB0_136.out _) | exact HI0.out))) : g ≠ gb142)); have n11_ := Aside0.mk ((by rw [hg]; exact Nat.ne_of_gt (IsS106.lt (show IsS106 w0 _ g s0_0 t141 from by repeat (first | (with_reducible first | exact HI0.out | apply IsS106.alloc | apply IsS106.drewN | apply IsS106.drew | apply IsS106.set_1 | refine IsS106.far ?_ NB0_136.out _) | exact HI0.out))) : gb142 ≠ g)); clear HO140; clear HI0; clear BK136; clear HK; clear HB; have HO140 := n0_; have HI0 := n1_; have BK136 := n2_; have HK := n3_; have HB := n4_; have BK142 := n5_; have GW142 := n6_; have GE142 := n7_; have NB136_142 := n8_; have NB142_136 := n9_; have NB0_142 := n10_; have NB142_0 := n11_; clear n0_ n1_ n2_ n3_ n4_ n5_ n6_ n7_ n8_ n9_ n10_ n11_; clear hb hbox hg; have hnb10 := NB142_136.out; have hnc10 := NB136_142.out; have hnb11 := NB142_0.out; have hnc11 := NB0_142.out; have hcz12_0 : w9.cell? ⟨gb142, 0, none⟩ = some (.int .i64 0) := (blk_cell BK142.out 0).trans rfl; have hcz12_1 : w9.cell? ⟨gb142, 1, none⟩ = some (.slice none 0 0) := (blk_cell BK142.out 1).trans rfl; have hfz12_0 := blk_frozen BK142.out 0; have hfz12_1 := blk_frozen BK142.out 1; obtain ⟨Ao13, co13, eo13⟩ := Kd.R_slice HO140.out; subst eo13) | ((with_reducible refine gate_callee (f := 49) rfl ?_); refine goesL_ (some 11) rfl rfl Try.func49 (by kernel_rfl) rfl #[.pointer (some ⟨g, 0, none⟩), .int .i64 14] rfl lmB ?_; (with_reducible refine (spec_l40Rd_pick.calls k g s0_0 t141 14 t143 t144 w0 _ ?side1 ?side2 A4.out).mono ?_); (case side1 => repeat (first | (with_reducible first | exact HI0.out | apply IsS106.alloc | apply IsS106.drewN | apply IsS106.drew | apply IsS106.set_1 | refine IsS106.far ?_ NB0_136.out _ | refine IsS106.far ?_ NB0_142.out _) | exact HI0.out)); (case side2 => repeat (first | (with_reducible first | exact HB.out | apply bwA | apply bwN | apply bwD | refine below_set ?_ (IsS106.ge HI0.out) | refine below_set ?_ GE136.out | refine below_set ?_ GE142.out) | exact HB.out)); rintro e w14 ⟨rfl, hi, hb, hk⟩; refine ⟨_, rfl, ?_⟩; have n0_ := Aside0.mk (KeepBut.blk hk (g' := gb136) (o := .cells #[.int .i64 0, .slice none 0 0] 45 (0, 0)) (by (with_reducible repeat (first | refine blk_drewN ?_ _ | refine blk_drew ?_ | refine blk_alloc ?_ _)); refine blk_far ?_ NB136_142.out _; (with_reducible repeat (first | refine blk_drewN ?_ _ | refine blk_drew ?_ | refine blk_alloc ?_ _)); refine blk_far ?_ NB136_142.out _; (with_reducible repeat (first | refine blk_drewN ?_ _ | refine blk_drew ?_ | refine blk_alloc ?_ _)); exact BK136.out) NB136_0.out (by simp)); have n1_ := Aside0.mk (Kd.R_mono (Kd.R_keep (IsS106.apart (show IsS106 w0 _ g s0_0 t141 from by repeat (first | (with_reducible first | exact HI0.out | apply IsS106.alloc | apply IsS106.drewN | apply IsS106.drew | apply IsS106.set_1 | refine IsS106.far ?_ NB0_136.out _ | refine IsS106.far ?_ NB0_142.out _) | exact HI0.out)) (by (with_reducible repeat (first | apply Kd.R_alloc | apply Kd.R_drewN | apply Kd.R_drew)); exact (Kd.R_mono (Kd.R_far (p := ⟨gb142, 1, none⟩) (Kd.R_far (p := ⟨gb142, 0, none⟩) (Kd.R_types HO140.out BK142.out (by decide)) (fun _ hk => hk.2) (.int .i64 t137)) (fun _ hk => hk.2) (.slice Ao13 t138.length co13)) (fun _ h_ => h_.1))) (by decide)) hk (fun _ h => h.2)) (fun _ h => h.1)); have n2_ := Aside0.mk (KeepBut.blk hk (g' := gb142) (o := .cells #[.int .i64 t137, .slice Ao13 t138.length co13] 45 (0, 0)) (by (with_reducible repeat (first | refine blk_drewN ?_ _ | refine blk_drew ?_ | refine blk_alloc ?_ _)); refine blk_put (cs := #[.int .i64 t137, .slice none 0 0]) ?_ 1 _ rfl; (with_reducible repeat (first | refine blk_drewN ?_ _ | refine blk_drew ?_ | refine blk_alloc ?_ _)); refine blk_put (cs := #[.int .i64 0, .slice none 0 0]) ?_ 0 _ rfl; (with_reducible repeat (first | refine blk_drewN ?_ _ | refine blk_drew ?_ | refine blk_alloc ?_ _)); exact BK142.out) NB142_0.out (by simp)); have n3_ := Aside0.mk (KeepBut.trans (by repeat (first | (with_reducible first | exact HK.out | apply KeepBut.set_ | apply keep_drewN | apply keep_drew | apply keep_alloc | refine keep_far ?_ GW136.out _ | refine keep_far ?_ GW142.out _) | exact HK.out)) hk (.inl rfl)); have n4_ := Aside0.mk (hb); have n5_ := Aside0.mk (hi); clear BK136; clear HO140; clear BK142; clear HK; clear HB; clear HI0; have BK136 := n0_; have HO140 := n1_; have BK142 := n2_; have HK := n3_; have HB := n4_; have HI0 := n5_; clear n0_ n1_ n2_ n3_ n4_ n5_; (try clear hb); (try clear hb2); (try clear hk); (try clear hi)))
  (try simp only [Act.put, List.setIfInBounds_toArray, List.set_cons_zero, List.set_cons_succ])
  go_cut [21] (fun v21 wc => ∃ (kq : Nat) (x21_5 : Bool) (x1001_5 : Int), v21 = .bool x21_5 ∧ Aside0 (spec_l7Any.j0 kq x21_5 s0_0 x1001_5 t137 t138 = some (r1, r2, r3)) ∧ Aside0 (kq ≤ k) ∧ Aside0 (Kd.R k121 121 wc w.heap.size (fun _ => True) (.slice Ao13 t138.length co13) t138) ∧ Aside0 (wc.heap[gb136]? = some (.cells #[.int .i64 0, (.slice none 0 0)] 45 (0, 0))) ∧ Aside0 (wc.heap[gb142]? = some (.cells #[.int .i64 t137, (.slice Ao13 t138.length co13)] 45 (0, 0))) ∧ Aside0 (IsS106 w0 wc g s0_0 x1001_5) ∧ Aside0 (KeepBut w wc g none) ∧ Aside0 (Below w0.heap.size w0 wc))
  case first =>
   have H := HC6.out
   clear HC6
   replace H := Option.bind_eq_some_iff.mp H
   obtain ⟨⟨t145, t146⟩, A150, H⟩ := H
   replace H : (if t145 = 0 then (spec_l7Any.j0 k true s0_0 t146 t137 t138) else (spec_l7Any.j0 k ((t138.length : Int) == 0) s0_0 t146 t137 t138)) = some (r1, r2, r3) := H
   have A15 := Aside0.mk A150
   clear A150
   by_cases c16 : t145 = 0
   ·rw [if_pos c16] at H
    have c16b0 : (t145 == 0) = true := beq_iff_eq.mpr c16
    have c16b1 : (t145 != 0) = false := bne_eq_false_iff_eq.mpr c16
    clear c16
    (first | rw [c16b0] | (simp only [i64_w, i32_w]; rw [c16b0]) | skip)
    have H' := Aside0.mk H
    clear H
    go_wp2_with (first | ((with_reducible refine gate_callee (f := 49) rfl ?_); refine goesL_ (some 14) rfl rfl Try.func49 (by kernel_rfl) rfl #[.pointer (some ⟨g, 0, none⟩), .int .i64 2] rfl lmB ?_; (with_reducible refine (spec_l40Rd_pick.calls k g s0_0 t144 2 t145 t146 w0 _ ?side1 ?side2 A15.out).mono ?_); (case side1 => repeat (first | (with_reducible first | exact HI0.out | apply IsS106.alloc | apply IsS106.drewN | apply IsS106.drew | apply IsS106.set_1 | refine IsS106.far ?_ NB0_136.out _ | refine IsS106.far ?_ NB0_142.out _) | exact HI0.out)); (case side2 => repeat (first | (with_reducible first | exact HB.out | apply bwA | apply bwN | apply bwD | refine below_set ?_ (IsS106.ge HI0.out) | refine below_set ?_ GE136.out | refine below_set ?_ GE142.out) | exact HB.out)); rintro e w17 ⟨rfl, hi, hb, hk⟩; refine ⟨_, rfl, ?_⟩; have n0_ := Aside0.mk (KeepBut.blk hk (g' := gb136) (o := .cells #[.int .i64 0, .slice none 0 0] 45 (0, 0)) (bvK BK136.out) NB136_0.out (by simp)); have n1_ := Aside0.mk (Kd.R_mono (Kd.R_keep (IsS106.apart (show IsS106 w0 _ g s0_0 t144 from by repeat (first | (with_reducible first | exact HI0.out | apply IsS106.alloc | apply IsS106.drewN | apply IsS106.drew | apply IsS106.set_1 | refine IsS106.far ?_ NB0_136.out _ | refine IsS106.far ?_ NB0_142.out _) | exact HI0.out)) (rvR HO140.out) (by decide)) hk (fun _ h => h.2)) (fun _ h => h.1)); have n2_ := Aside0.mk (KeepBut.blk hk (g' := gb142) (o := .cells #[.int .i64 t137, .slice Ao13 t138.length co13] 45 (0, 0)) (bvK BK142.out) NB142_0.out (by simp)); have n3_ := Aside0.mk (KeepBut.trans (by repeat (first | (with_reducible first | exact HK.out | apply KeepBut.set_ | apply keep_drewN | apply keep_drew | apply keep_alloc | refine keep_far ?_ GW136.out _ | refine keep_far ?_ GW142.out _) | exact HK.out)) hk (.inl rfl)); have n4_ := Aside0.mk (hb); have n5_ := Aside0.mk (hi); clear BK136; clear HO140; clear BK142; clear HK; clear HB; clear HI0; have BK136 := n0_; have HO140 := n1_; have BK142 := n2_; have HK := n3_; have HB := n4_; have HI0 := n5_; clear n0_ n1_ n2_ n3_ n4_ n5_; (try clear hb); (try clear hb2); (try clear hk); (try clear hi)))
    go_meet
    case rel => exact ⟨_, (true), (t146), rsd, H', ⟨by first | omega | exact Nat.le_refl _⟩, ⟨rvR HO140.out⟩, ⟨bvK BK136.out⟩, ⟨bvK BK142.out⟩, ⟨by repeat (first | (with_reducible first | exact HI0.out | apply IsS106.alloc | apply IsS106.drewN | apply IsS106.drew | apply IsS106.set_1 | refine IsS106.far ?_ NB0_136.out _ | refine IsS106.far ?_ NB0_142.out _) | exact HI0.out)⟩, ⟨by repeat (first | (with_reducible first | exact HK.out | apply KeepBut.set_ | apply keep_drewN | apply keep_drew | apply keep_alloc | refine keep_far ?_ GW136.out _ | refine keep_far ?_ GW142.out _) | exact HK.out)⟩, ⟨by repeat (first | (with_reducible first | exact HB.out | apply bwA | apply bwN | apply bwD | refine below_set ?_ (IsS106.ge HI0.out) | refine below_set ?_ GE136.out | refine below_set ?_ GE142.out) | exact HB.out)⟩⟩
   ·rw [if_neg c16] at H
    have c16b0 : (t145 == 0) = false := beq_eq_false_iff_ne.mpr c16
    have c16b1 : (t145 != 0) = true := bne_iff_ne.mpr c16
    (first | rw [c16b0] | (simp only [i64_w, i32_w]; rw [c16b0]) | skip)
    have H' := Aside0.mk H
    clear H
    go_wp2_with (first | ((with_reducible refine gate_callee (f := 49) rfl ?_); refine goesL_ (some 14) rfl rfl Try.func49 (by kernel_rfl) rfl #[.pointer (some ⟨g, 0, none⟩), .int .i64 2] rfl lmB ?_; (with_reducible refine (spec_l40Rd_pick.calls k g s0_0 t144 2 t145 t146 w0 _ ?side1 ?side2 A15.out).mono ?_); (case side1 => repeat (first | (with_reducible first | exact HI0.out | apply IsS106.alloc | apply IsS106.drewN | apply IsS106.drew | apply IsS106.set_1 | refine IsS106.far ?_ NB0_136.out _ | refine IsS106.far ?_ NB0_142.out _) | exact HI0.out)); (case side2 => repeat (first | (with_reducible first | exact HB.out | apply bwA | apply bwN | apply bwD | refine below_set ?_ (IsS106.ge HI0.out) | refine below_set ?_ GE136.out | refine below_set ?_ GE142.out) | exact HB.out)); rintro e w18 ⟨rfl, hi, hb, hk⟩; refine ⟨_, rfl, ?_⟩; have n0_ := Aside0.mk (KeepBut.blk hk (g' := gb136) (o := .cells #[.int .i64 0, .slice none 0 0] 45 (0, 0)) (bvK BK136.out) NB136_0.out (by simp)); have n1_ := Aside0.mk (Kd.R_mono (Kd.R_keep (IsS106.apart (show IsS106 w0 _ g s0_0 t144 from by repeat (first | (with_reducible first | exact HI0.out | apply IsS106.alloc | apply IsS106.drewN | apply IsS106.drew | apply IsS106.set_1 | refine IsS106.far ?_ NB0_136.out _ | refine IsS106.far ?_ NB0_142.out _) | exact HI0.out)) (rvR HO140.out) (by decide)) hk (fun _ h => h.2)) (fun _ h => h.1)); have n2_ := Aside0.mk (KeepBut.blk hk (g' := gb142) (o := .cells #[.int .i64 t137, .slice Ao13 t138.length co13] 45 (0, 0)) (bvK BK142.out) NB142_0.out (by simp)); have n3_ := Aside0.mk (KeepBut.trans (by repeat (first | (with_reducible first | exact HK.out | apply KeepBut.set_ | apply keep_drewN | apply keep_drew | apply keep_alloc | refine keep_far ?_ GW136.out _ | refine keep_far ?_ GW142.out _) | exact HK.out)) hk (.inl rfl)); have n4_ := Aside0.mk (hb); have n5_ := Aside0.mk (hi); clear BK136; clear HO140; clear BK142; clear HK; clear HB; clear HI0; have BK136 := n0_; have HO140 := n1_; have BK142 := n2_; have HK := n3_; have HB := n4_; have HI0 := n5_; clear n0_ n1_ n2_ n3_ n4_ n5_; (try clear hb); (try clear hb2); (try clear hk); (try clear hi); have hnb19 := NB142_136.out; have hnc19 := NB136_142.out; have hnb20 := NB142_0.out; have hnc20 := NB0_142.out; have hcz21_0 : w18.cell? ⟨gb142, 0, none⟩ = some (.int .i64 t137) := (blk_cell BK142.out 0).trans rfl; have hcz21_1 : w18.cell? ⟨gb142, 1, none⟩ = some (.slice Ao13 t138.length co13) := (blk_cell BK142.out 1).trans rfl; have hfz21_0 := blk_frozen BK142.out 0; have hfz21_1 := blk_frozen BK142.out 1))
    go_meet
    case rel => exact ⟨_, (((t138.length : Int) == 0)), (t146), rsd, H', ⟨by first | omega | exact Nat.le_refl _⟩, ⟨rvR HO140.out⟩, ⟨bvK BK136.out⟩, ⟨bvK BK142.out⟩, ⟨by repeat (first | (with_reducible first | exact HI0.out | apply IsS106.alloc | apply IsS106.drewN | apply IsS106.drew | apply IsS106.set_1 | refine IsS106.far ?_ NB0_136.out _ | refine IsS106.far ?_ NB0_142.out _) | exact HI0.out)⟩, ⟨by repeat (first | (with_reducible first | exact HK.out | apply KeepBut.set_ | apply keep_drewN | apply keep_drew | apply keep_alloc | refine keep_far ?_ GW136.out _ | refine keep_far ?_ GW142.out _) | exact HK.out)⟩, ⟨by repeat (first | (with_reducible first | exact HB.out | apply bwA | apply bwN | apply bwD | refine below_set ?_ (IsS106.ge HI0.out) | refine below_set ?_ GE136.out | refine below_set ?_ GE142.out) | exact HB.out)⟩⟩
  case rest =>
   clear HC6
   try clear c1
   try clear c2
   try clear p2
   try clear c4
   try clear c5
   try clear c5b0
   try clear c5b1
   try clear c10
   try clear c11
   try clear c16
   try clear c16b0
   try clear c16b1
   try clear c19
   try clear c20
   try clear hcz12_0
   try clear hcz12_1
   try clear hcz21_0
   try clear hcz21_1
   try clear hfz12_0
   try clear hfz12_1
   try clear hfz21_0
   try clear hfz21_1
   obtain ⟨kq, x21_5, x1001_5, rfl, HA, HJ5, HO_143001, BK136, BK142, HI0, HK, HB⟩ := hcut
   cases kq with
   | zero => exact absurd HA.out (by simp [spec_l7Any.j0])
   | succ kj5 =>
    have H := HA.out
    clear HA
    simp only [spec_l7Any.j0] at H
    by_cases c22 : x21_5 = true
    ·subst c22
     have H1 : ((spec_l40Rd_num.f kj5 s0_0 x1001_5 (([(-1), 13] : List Int))).bind fun bt150 => (some (bt150.1, t138, bt150.2))) = some (r1, r2, r3) := by rw [if_pos rfl] at H; exact H
     clear H
     have H := H1
     clear H1
     obtain ⟨y147, hy147⟩ : ∃ y_ : List Int, y_ = (([(-1), 13] : List Int)) := ⟨_, rfl⟩
     replace H : ((spec_l40Rd_num.f kj5 s0_0 x1001_5 y147).bind fun bt150 => (some (bt150.1, t138, bt150.2))) = some (r1, r2, r3) := by first | (rw [hy147]; with_reducible exact H) | (have H2_ := (Option.bind_some _ _).symm.trans H; rw [hy147]; with_reducible exact H2_) | (have H2_ := (Option.bind_some _ _).symm.trans H; with_reducible exact H2_) | with_reducible exact H | (rw [hy147]; exact H) | exact H
     have Ny147 := Aside0.mk hy147
     clear hy147
     replace H := Option.bind_eq_some_iff.mp H
     obtain ⟨⟨t150, t151⟩, A230, H⟩ := H
     replace H : (some (t150, t138, t151)) = some (r1, r2, r3) := H
     have A23 := Aside0.mk A230
     clear A230
     simp only [Option.some.injEq, Prod.mk.injEq] at H
     obtain ⟨rfl, rfl, rfl⟩ := H
     go_wp2_with (first | ((with_reducible refine gate_dst (N := 23) rfl ?_); (try (refine gate_guard (by rfl) ?_; dsimp only)); refine Kd.R_lit (Kd.int .i64) _ 3 ?hg (N := 23) ?hd (xs := ([(-1), 13] : List Int)) (inner := [.int .i64 (-1), .int .i64 13]) (ok := fun _ => True) (okp := fun _ => True) ?hr ?hp (fun _ hk => hk) trivial (Below.refl _ _) (Nat.le_refl _) (by simp) ?_; (case hd => rfl); (case hg => rfl); (case hr => first | (go_simp; done) | (go_simp; rfl)); (case hp => exact (Reps.one (show Kd.M (Kd.int .i64) _ _ _ (-1) [.int .i64 (-1)] from rfl) (Reps.one (show Kd.M (Kd.int .i64) _ _ _ 13 [.int .i64 13] from rfl) (Reps.none _ _)))); intro v148 w24 ho25 hb hg_ hnew_; clear hg_ hnew_; (first | rw [← Ny147.out] at ho25 | (simp only [Int.reduceToNat] at ho25; rw [← Ny147.out] at ho25)); have n0_ := Aside0.mk (Kd.R_below (rvR HO_143001.out) hb); have n1_ := Aside0.mk (Kd.R_lower ho25 (keep_size (w := w) (g := g) (row := none) (by repeat (first | (with_reducible first | exact HK.out | apply KeepBut.set_ | apply keep_drewN | apply keep_drew | apply keep_alloc | refine keep_far ?_ GW136.out _ | refine keep_far ?_ GW142.out _) | exact HK.out)))); have n2_ := Aside0.mk (blk_below (g := gb136) (o := .cells #[.int .i64 0, .slice none 0 0] 45 (0, 0)) (bvK BK136.out) hb); have n3_ := Aside0.mk (blk_below (g := gb142) (o := .cells #[.int .i64 t137, .slice Ao13 t138.length co13] 45 (0, 0)) (bvK BK142.out) hb); have n4_ := Aside0.mk (IsS106.below (by repeat (first | (with_reducible first | exact HI0.out | apply IsS106.alloc | apply IsS106.drewN | apply IsS106.drew | apply IsS106.set_1 | refine IsS106.far ?_ NB0_136.out _ | refine IsS106.far ?_ NB0_142.out _) | exact HI0.out)) hb); have n5_ := Aside0.mk (KeepBut.trans (by repeat (first | (with_reducible first | exact HK.out | apply KeepBut.set_ | apply keep_drewN | apply keep_drew | apply keep_alloc | refine keep_far ?_ GW136.out _ | refine keep_far ?_ GW142.out _) | exact HK.out)) (KeepBut.of_below hb g none) (.inl rfl)); have n6_ := Aside0.mk (below_step (by repeat (first | (with_reducible first | exact HB.out | apply bwA | apply bwN | apply bwD | refine below_set ?_ (IsS106.ge HI0.out) | refine below_set ?_ GE136.out | refine below_set ?_ GE142.out) | exact HB.out)) hb); clear HO_143001; clear BK136; clear BK142; clear HI0; clear HK; clear HB; have HO_143001 := n0_; have HO149 := n1_; have BK136 := n2_; have BK142 := n3_; have HI0 := n4_; have HK := n5_; have HB := n6_; clear n0_ n1_ n2_ n3_ n4_ n5_ n6_; clear hb ho25; obtain ⟨Ao26, co26, eo26⟩ := Kd.R_slice HO149.out; subst eo26) | ((with_reducible refine gate_callee (f := 51) rfl ?_); refine goesL_ (some 24) rfl rfl Try.func51 (by kernel_rfl) rfl #[.pointer (some ⟨g, 0, none⟩), .slice Ao26 y147.length co26] rfl lmB ?_; (with_reducible refine (spec_l40Rd_num.calls kj5 g s0_0 x1001_5 _ _ y147 t150 t151 w0 _ ?side1 ?side2 ?side3 ?side4 ?side5 A23.out).mono ?_); (case side1 => repeat (first | (with_reducible first | exact HI0.out | apply IsS106.alloc | apply IsS106.drewN | apply IsS106.drew | apply IsS106.set_1 | refine IsS106.far ?_ NB0_136.out _ | refine IsS106.far ?_ NB0_142.out _) | exact HI0.out)); (case side2 => repeat (first | (with_reducible first | exact HB.out | apply bwA | apply bwN | apply bwD | refine below_set ?_ (IsS106.ge HI0.out) | refine below_set ?_ GE136.out | refine below_set ?_ GE142.out) | exact HB.out)); (case side3 => repeat (first | exact (Kd.R_reads' HO149.out).2.2 | (with_reducible refine Kd.C_alloc ?_ _) | (with_reducible refine Kd.C_drewN ?_ _) | (with_reducible refine Kd.C_drew ?_))); (case side4 => exact (Kd.R_reads' HO149.out).2.1); (case side5 => exact far_slice (IsS106.own_ne HI0.out HO149.out (by decide))); rintro e w27 ⟨rfl, hi, hb, hk⟩; refine ⟨_, rfl, ?_⟩; have n0_ := Aside0.mk (Kd.R_mono (Kd.R_keep (IsS106.apart (show IsS106 w0 _ g s0_0 x1001_5 from by repeat (first | (with_reducible first | exact HI0.out | apply IsS106.alloc | apply IsS106.drewN | apply IsS106.drew | apply IsS106.set_1 | refine IsS106.far ?_ NB0_136.out _ | refine IsS106.far ?_ NB0_142.out _) | exact HI0.out)) (rvR HO_143001.out) (by decide)) hk (fun _ h => h.2)) (fun _ h => h.1)); have n1_ := Aside0.mk (KeepBut.blk hk (g' := gb136) (o := .cells #[.int .i64 0, .slice none 0 0] 45 (0, 0)) (bvK BK136.out) NB136_0.out (by simp)); have n2_ := Aside0.mk (KeepBut.blk hk (g' := gb142) (o := .cells #[.int .i64 t137, .slice Ao13 t138.length co13] 45 (0, 0)) (bvK BK142.out) NB142_0.out (by simp)); have n3_ := Aside0.mk (Kd.R_mono (Kd.R_keep (IsS106.apart (show IsS106 w0 _ g s0_0 x1001_5 from by repeat (first | (with_reducible first | exact HI0.out | apply IsS106.alloc | apply IsS106.drewN | apply IsS106.drew | apply IsS106.set_1 | refine IsS106.far ?_ NB0_136.out _ | refine IsS106.far ?_ NB0_142.out _) | exact HI0.out)) (rvR HO149.out) (by decide)) hk (fun _ h => h.2)) (fun _ h => h.1)); have n4_ := Aside0.mk (KeepBut.trans (by repeat (first | (with_reducible first | exact HK.out | apply KeepBut.set_ | apply keep_drewN | apply keep_drew | apply keep_alloc | refine keep_far ?_ GW136.out _ | refine keep_far ?_ GW142.out _) | exact HK.out)) hk (.inl rfl)); have n5_ := Aside0.mk (hb); have n6_ := Aside0.mk (hi); clear HO_143001; clear BK136; clear BK142; clear HO149; clear HK; clear HB; clear HI0; have HO_143001 := n0_; have BK136 := n1_; have BK142 := n2_; have HO149 := n3_; have HK := n4_; have HB := n5_; have HI0 := n6_; clear n0_ n1_ n2_ n3_ n4_ n5_ n6_; (try clear hb); (try clear hb2); (try clear hk); (try clear hi); have hnb28 := NB142_136.out; have hnc28 := NB136_142.out; have hnb29 := NB142_0.out; have hnc29 := NB0_142.out; have hcz30_0 : w27.cell? ⟨gb142, 0, none⟩ = some (.int .i64 t137) := (blk_cell BK142.out 0).trans rfl; have hcz30_1 : w27.cell? ⟨gb142, 1, none⟩ = some (.slice Ao13 t138.length co13) := (blk_cell BK142.out 1).trans rfl; have hfz30_0 := blk_frozen BK142.out 0; have hfz30_1 := blk_frozen BK142.out 1; have hnb31 := NB136_0.out; have hnc31 := NB0_136.out; have hcz32_0 : w27.cell? ⟨gb136, 0, none⟩ = some (.int .i64 0) := (blk_cell BK136.out 0).trans rfl; have hcz32_1 : w27.cell? ⟨gb136, 1, none⟩ = some (.slice none 0 0) := (blk_cell BK136.out 1).trans rfl; have hfz32_0 := blk_frozen BK136.out 0; have hfz32_1 := blk_frozen BK136.out 1))
     refine bodyPost_ret (results_cell_row rfl _ _ gb136 45 #[.int .i64 t150, .slice Ao13 t138.length co13] (0, 0) _ rfl (by (with_reducible repeat (first | refine blk_drewN ?_ _ | refine blk_drew ?_ | refine blk_alloc ?_ _)); refine blk_put (cs := #[.int .i64 t150, .slice none 0 0]) ?_ 1 _ rfl; (with_reducible repeat (first | refine blk_drewN ?_ _ | refine blk_drew ?_ | refine blk_alloc ?_ _)); refine blk_put (cs := #[.int .i64 0, .slice none 0 0]) ?_ 0 _ rfl; (with_reducible repeat (first | refine blk_drewN ?_ _ | refine blk_drew ?_ | refine blk_alloc ?_ _)); refine blk_far ?_ NB136_142.out _; (with_reducible repeat (first | refine blk_drewN ?_ _ | refine blk_drew ?_ | refine blk_alloc ?_ _)); exact BK136.out) Try.underlying45 rfl (by kernel_rfl)) rfl ?_
     exact ⟨_, ers, by (with_reducible repeat (first | apply Kd.R_alloc | apply Kd.R_drewN | apply Kd.R_drew)); exact Kd.R_mono (Kd.R_far (p := ⟨gb136, 1, none⟩) (Kd.R_far (p := ⟨gb136, 0, none⟩) (Kd.R_far (p := ⟨gb142, 0, none⟩) (Kd.R_types (Kd.R_types HO_143001.out BK142.out (by decide)) BK136.out (by decide)) (fun _ hk => hk.1.2) (.int .i64 t150)) (fun _ hk => hk.2) (.int .i64 t150)) (fun _ hk => hk.2) (.slice Ao13 t138.length co13)) (fun _ hk => trivial), by repeat (first | (with_reducible first | exact HI0.out | apply IsS106.alloc | apply IsS106.drewN | apply IsS106.drew | apply IsS106.set_1 | refine IsS106.far ?_ NB0_136.out _ | refine IsS106.far ?_ NB0_142.out _) | exact HI0.out), by repeat (first | (with_reducible first | exact HB.out | apply bwA | apply bwN | apply bwD | refine below_set ?_ (IsS106.ge HI0.out) | refine below_set ?_ GE136.out | refine below_set ?_ GE142.out) | exact HB.out), by repeat (first | (with_reducible first | exact HK.out | apply KeepBut.set_ | apply keep_drewN | apply keep_drew | apply keep_alloc | refine keep_far ?_ GW136.out _ | refine keep_far ?_ GW142.out _) | exact HK.out)⟩
    ·replace c22 := Bool.eq_false_iff.mpr c22
     subst c22
     have H1 : ((spec_l40Rd_pick.f kj5 s0_0 x1001_5 (t138.length : Int)).bind fun bt152 => ((spec_l40Rd_num.f kj5 s0_0 bt152.2 (([(-1), wrap64 (2 * (wrap64 ((wrap64 (1 + t137)) + bt152.1)))] : List Int))).bind fun bt157 => (if 0 ≤ bt152.1 then (if bt152.1 < (t138.length : Int) then (some (t137, (t138.set (bt152.1 : Int).toNat (⟨bt157.1, 0⟩ : S121)), bt157.2)) else (none)) else (none)))) = some (r1, r2, r3) := by rw [if_neg (show ¬ (false = true) by decide)] at H; exact H
     clear H
     have H := H1
     clear H1
     replace H := Option.bind_eq_some_iff.mp H
     obtain ⟨⟨t152, t153⟩, A330, H⟩ := H
     replace H : ((spec_l40Rd_num.f kj5 s0_0 t153 (([(-1), wrap64 (2 * (wrap64 ((wrap64 (1 + t137)) + t152)))] : List Int))).bind fun bt157 => (if 0 ≤ t152 then (if t152 < (t138.length : Int) then (some (t137, (t138.set (t152 : Int).toNat (⟨bt157.1, 0⟩ : S121)), bt157.2)) else (none)) else (none))) = some (r1, r2, r3) := H
     have A33 := Aside0.mk A330
     clear A330
     obtain ⟨y154, hy154⟩ : ∃ y_ : List Int, y_ = (([(-1), wrap64 (2 * (wrap64 ((wrap64 (1 + t137)) + t152)))] : List Int)) := ⟨_, rfl⟩
     replace H : ((spec_l40Rd_num.f kj5 s0_0 t153 y154).bind fun bt157 => (if 0 ≤ t152 then (if t152 < (t138.length : Int) then (some (t137, (t138.set (t152 : Int).toNat (⟨bt157.1, 0⟩ : S121)), bt157.2)) else (none)) else (none))) = some (r1, r2, r3) := by first | (rw [hy154]; with_reducible exact H) | (have H2_ := (Option.bind_some _ _).symm.trans H; rw [hy154]; with_reducible exact H2_) | (have H2_ := (Option.bind_some _ _).symm.trans H; with_reducible exact H2_) | with_reducible exact H | (rw [hy154]; exact H) | exact H
     have Ny154 := Aside0.mk hy154
     clear hy154
     replace H := Option.bind_eq_some_iff.mp H
     obtain ⟨⟨t157, t158⟩, A340, H⟩ := H
     replace H : (if 0 ≤ t152 then (if t152 < (t138.length : Int) then (some (t137, (t138.set (t152 : Int).toNat (⟨t157, 0⟩ : S121)), t158)) else (none)) else (none)) = some (r1, r2, r3) := H
     have A34 := Aside0.mk A340
     clear A340
     by_cases c35 : 0 ≤ t152
     ·rw [if_pos c35] at H
      have c35b0 : decide (0 ≤ t152) = true := decide_eq_true c35
      clear c35
      by_cases c36 : t152 < (t138.length : Int)
      ·rw [if_pos c36] at H
       have c36b0 : decide (t152 < (t138.length : Int)) = true := decide_eq_true c36
       clear c36
       obtain ⟨y159, hy159⟩ : ∃ y_ : List (S121), y_ = (t138.set (t152 : Int).toNat (⟨t157, 0⟩ : S121)) := ⟨_, rfl⟩
       replace H : (some (t137, y159, t158)) = some (r1, r2, r3) := by first | (rw [hy159]; with_reducible exact H) | (have H2_ := (Option.bind_some _ _).symm.trans H; rw [hy159]; with_reducible exact H2_) | (have H2_ := (Option.bind_some _ _).symm.trans H; with_reducible exact H2_) | with_reducible exact H | (rw [hy159]; exact H) | exact H
       have Ny159 := Aside0.mk hy159
       clear hy159
       simp only [Option.some.injEq, Prod.mk.injEq] at H
       obtain ⟨rfl, rfl, rfl⟩ := H
       have hnb38 := NB142_136.out
       have hnc38 := NB136_142.out
       have hnb39 := NB142_0.out
       have hnc39 := NB0_142.out
       have hcz40_0 : wc.cell? ⟨gb142, 0, none⟩ = some (.int .i64 t137) := (blk_cell BK142.out 0).trans rfl
       have hcz40_1 : wc.cell? ⟨gb142, 1, none⟩ = some (.slice Ao13 t138.length co13) := (blk_cell BK142.out 1).trans rfl
       have hfz40_0 := blk_frozen BK142.out 0
       have hfz40_1 := blk_frozen BK142.out 1
       try go_wp2_with (first | ((with_reducible refine gate_callee (f := 49) rfl ?_); refine goesL_ (some 30) rfl rfl Try.func49 (by kernel_rfl) rfl #[.pointer (some ⟨g, 0, none⟩), .int .i64 (t138.length : Int)] rfl lmB ?_; (with_reducible refine (spec_l40Rd_pick.calls kj5 g s0_0 x1001_5 (t138.length : Int) t152 t153 w0 _ ?side1 ?side2 A33.out).mono ?_); (case side1 => repeat (first | (with_reducible first | exact HI0.out | apply IsS106.alloc | apply IsS106.drewN | apply IsS106.drew | apply IsS106.set_1 | refine IsS106.far ?_ NB0_136.out _ | refine IsS106.far ?_ NB0_142.out _) | exact HI0.out)); (case side2 => repeat (first | (with_reducible first | exact HB.out | apply bwA | apply bwN | apply bwD | refine below_set ?_ (IsS106.ge HI0.out) | refine below_set ?_ GE136.out | refine below_set ?_ GE142.out) | exact HB.out)); rintro e w41 ⟨rfl, hi, hb, hk⟩; refine ⟨_, rfl, ?_⟩; have n0_ := Aside0.mk (Kd.R_mono (Kd.R_keep (IsS106.apart (show IsS106 w0 _ g s0_0 x1001_5 from by repeat (first | (with_reducible first | exact HI0.out | apply IsS106.alloc | apply IsS106.drewN | apply IsS106.drew | apply IsS106.set_1 | refine IsS106.far ?_ NB0_136.out _ | refine IsS106.far ?_ NB0_142.out _) | exact HI0.out)) (rvR HO_143001.out) (by decide)) hk (fun _ h => h.2)) (fun _ h => h.1)); have n1_ := Aside0.mk (KeepBut.blk hk (g' := gb136) (o := .cells #[.int .i64 0, .slice none 0 0] 45 (0, 0)) (bvK BK136.out) NB136_0.out (by simp)); have n2_ := Aside0.mk (KeepBut.blk hk (g' := gb142) (o := .cells #[.int .i64 t137, .slice Ao13 t138.length co13] 45 (0, 0)) (bvK BK142.out) NB142_0.out (by simp)); have n3_ := Aside0.mk (KeepBut.trans (by repeat (first | (with_reducible first | exact HK.out | apply KeepBut.set_ | apply keep_drewN | apply keep_drew | apply keep_alloc | refine keep_far ?_ GW136.out _ | refine keep_far ?_ GW142.out _) | exact HK.out)) hk (.inl rfl)); have n4_ := Aside0.mk (hb); have n5_ := Aside0.mk (hi); clear HO_143001; clear BK136; clear BK142; clear HK; clear HB; clear HI0; have HO_143001 := n0_; have BK136 := n1_; have BK142 := n2_; have HK := n3_; have HB := n4_; have HI0 := n5_; clear n0_ n1_ n2_ n3_ n4_ n5_; (try clear hb); (try clear hb2); (try clear hk); (try clear hi)))
       have n0_ := Aside0.mk (Kd.R_drew HO_143001.out)
       have n1_ := Aside0.mk (blk_drew BK136.out)
       have n2_ := Aside0.mk (blk_drew BK142.out)
       have n3_ := Aside0.mk (IsS106.drew HI0.out)
       have n4_ := Aside0.mk (keep_drew HK.out)
       have n5_ := Aside0.mk (below_drew1 HB.out)
       clear HO_143001
       clear BK136
       clear BK142
       clear HI0
       clear HK
       clear HB
       have HO_143001 := n0_
       have BK136 := n1_
       have BK142 := n2_
       have HI0 := n3_
       have HK := n4_
       have HB := n5_
       clear n0_ n1_ n2_ n3_ n4_ n5_
       refine start_ (n := 15) (S := fun w' => w'.cell? ⟨gb142, 0, none⟩ = some (.int .i64 t137) ∧ w'.cell? ⟨gb142, 1, none⟩ = some (.slice Ao13 t138.length co13)) (ds := [14]) (Pt.bm 15 0) (by kernel_rfl) rfl rfl ⟨(blk_cell BK142.out 0).trans rfl, (blk_cell BK142.out 1).trans rfl⟩ (fun hHeld => ?_); refine with_tabW spec_l7Any.tab6 spec_l7Any.bits6 (fun HT_ HW_ => ?_)
       generalize w41.drew = w42 at HO_143001 BK136 BK142 HI0 HK HB hHeld ⊢
       refine Pt.pu 0 (some 31) (Pt.bm 15 1) (any_of HT_.out (by kernel_rfl)) ?_
       refine Pt.pu 2 (some 33) (Pt.bm 15 5) (any_of HT_.out (by kernel_rfl)) ?_
       refine Pt.pu 3 (some 34) (Pt.bm 15 13) (any_of HT_.out (by kernel_rfl)) ?_
       refine Pt.pu 4 (some 35) (Pt.bm 15 29) (any_of HT_.out (by kernel_rfl)) ?_
       refine Pt.pu 7 (some 38) (Pt.bm 15 157) (any_of HT_.out (by kernel_rfl)) ?_
       refine Pt.tk 1 (some 32) (Pt.bm 15 159) rfl rfl (take_ofW HT_.out HW_.out (by kernel_rfl)) hHeld (Or.inl ⟨by rfl, by rintro w' ⟨s0, s1⟩; go_simp; with_reducible rfl⟩) ?_
       refine Pt.tk 5 (some 36) (Pt.bm 15 191) rfl rfl (take_ofW HT_.out HW_.out (by kernel_rfl)) hHeld (Or.inl ⟨by rfl, by rintro w' ⟨s0, s1⟩; go_simp; with_reducible rfl⟩) ?_
       refine Pt.pu 6 (some 37) (Pt.bm 15 255) (any_of HT_.out (by kernel_rfl)) ?_
       refine Pt.pu 8 (some 39) (Pt.bm 15 511) (any_of HT_.out (by kernel_rfl)) ?_
       refine Pt.pu 9 (some 40) (Pt.bm 15 1023) (any_of HT_.out (by kernel_rfl)) ?_
       refine one_ (i := 10) (N := some 41) (Pt.bm 15 2047) rfl rfl (one_of HT_.out (by kernel_rfl)) (by decide) (fun K hK => ?_)
       refine Kd.R_lit_step (Kd.int .i64) _ 3 ?hg (N := 41) ?hd (xs := ([(-1), wrap64 (2 * (wrap64 ((wrap64 (1 + t137)) + t152)))] : List Int)) (inner := [.int .i64 (-1), .int .i64 (wrap64 (2 * (wrap64 ((wrap64 (1 + t137)) + t152))))]) (ok := fun _ => True) (okp := fun _ => True) ?hr ?hp (fun _ hk => hk) trivial (Below.refl _ _) (Nat.le_refl _) (by simp) ?_; (case hd => rfl); (case hg => rfl); (case hr => first | (go_simp; done) | (go_simp; rfl)); (case hp => exact (Reps.one (show Kd.M (Kd.int .i64) _ _ _ (-1) [.int .i64 (-1)] from rfl) (Reps.one (show Kd.M (Kd.int .i64) _ _ _ (wrap64 (2 * (wrap64 ((wrap64 (1 + t137)) + t152)))) [.int .i64 (wrap64 (2 * (wrap64 ((wrap64 (1 + t137)) + t152))))] from rfl) (Reps.none _ _))))
       intro v155 w43 ho44 hb hg_ hnew_
       clear hg_ hnew_
       (first | rw [← Ny154.out] at ho44 | (simp only [Int.reduceToNat] at ho44; rw [← Ny154.out] at ho44))
       have n0_ := Aside0.mk (Kd.R_below (rvR HO_143001.out) hb)
       have n1_ := Aside0.mk (Kd.R_lower ho44 (keep_size (w := w) (g := g) (row := none) (by repeat (first | (with_reducible first | exact HK.out | apply KeepBut.set_ | apply keep_drewN | apply keep_drew | apply keep_alloc | refine keep_far ?_ GW136.out _ | refine keep_far ?_ GW142.out _) | exact HK.out))))
       have n2_ := Aside0.mk (blk_below (g := gb136) (o := .cells #[.int .i64 0, .slice none 0 0] 45 (0, 0)) (bvK BK136.out) hb)
       have n3_ := Aside0.mk (blk_below (g := gb142) (o := .cells #[.int .i64 t137, .slice Ao13 t138.length co13] 45 (0, 0)) (bvK BK142.out) hb)
       have n4_ := Aside0.mk (IsS106.below (by repeat (first | (with_reducible first | exact HI0.out | apply IsS106.alloc | apply IsS106.drewN | apply IsS106.drew | apply IsS106.set_1 | refine IsS106.far ?_ NB0_136.out _ | refine IsS106.far ?_ NB0_142.out _) | exact HI0.out)) hb)
       have n5_ := Aside0.mk (KeepBut.trans (by repeat (first | (with_reducible first | exact HK.out | apply KeepBut.set_ | apply keep_drewN | apply keep_drew | apply keep_alloc | refine keep_far ?_ GW136.out _ | refine keep_far ?_ GW142.out _) | exact HK.out)) (KeepBut.of_below hb g none) (.inl rfl))
       have n6_ := Aside0.mk (below_step (by repeat (first | (with_reducible first | exact HB.out | apply bwA | apply bwN | apply bwD | refine below_set ?_ (IsS106.ge HI0.out) | refine below_set ?_ GE136.out | refine below_set ?_ GE142.out) | exact HB.out)) hb)
       clear HO_143001
       clear BK136
       clear BK142
       clear HI0
       clear HK
       clear HB
       have HO_143001 := n0_
       have HO156 := n1_
       have BK136 := n2_
       have BK142 := n3_
       have HI0 := n4_
       have HK := n5_
       have HB := n6_
       clear n0_ n1_ n2_ n3_ n4_ n5_ n6_
       clear hb ho44
       obtain ⟨Ao45, co45, eo45⟩ := Kd.R_slice HO156.out
       (first | subst eo45 | (injection eo45 with f1_ f2_ f3_; have f4_ := f1_.symm; have f5_ := f3_.symm; clear f1_ f2_ f3_; subst f4_; subst f5_))
       refine hK.out _ _ ⟨(blk_cell BK142.out 0).trans rfl, (blk_cell BK142.out 1).trans rfl⟩ (fun hHeld => ?_)
       clear hK K
       refine norm_ (a' := ?_) ?_ ?_
       rotate_left
       ·show Act.put _ (some 41) _ = _
        simp only [Act.put, List.setIfInBounds_toArray, List.set_cons_zero, List.set_cons_succ, i64_w, i32_w]
        rfl
       refine one_ (i := 11) (N := some 42) (Pt.bm 15 4095) rfl rfl (one_of HT_.out (by kernel_rfl)) (by decide) (fun K hK => ?_)
       refine goes_ Try.func51 (by kernel_rfl) rfl #[.pointer (some ⟨g, 0, none⟩), .slice Ao45 y154.length co45] (by rfl) rfl rfl lmB ?_
       with_reducible refine (spec_l40Rd_num.calls kj5 g s0_0 t153 _ _ y154 t157 t158 w0 _ ?side1 ?side2 ?side3 ?side4 ?side5 A34.out).mono ?_
       (case side1 => repeat (first | (with_reducible first | exact HI0.out | apply IsS106.alloc | apply IsS106.drewN | apply IsS106.drew | apply IsS106.set_1 | refine IsS106.far ?_ NB0_136.out _ | refine IsS106.far ?_ NB0_142.out _) | exact HI0.out))
       (case side2 => repeat (first | (with_reducible first | exact HB.out | apply bwA | apply bwN | apply bwD | refine below_set ?_ (IsS106.ge HI0.out) | refine below_set ?_ GE136.out | refine below_set ?_ GE142.out) | exact HB.out))
       (case side3 => repeat (first | exact (Kd.R_reads' HO156.out).2.2 | (with_reducible refine Kd.C_alloc ?_ _) | (with_reducible refine Kd.C_drewN ?_ _) | (with_reducible refine Kd.C_drew ?_)))
       (case side4 => exact (Kd.R_reads' HO156.out).2.1)
       (case side5 => exact far_slice (IsS106.own_ne HI0.out HO156.out (by decide)))
       rintro e w46 ⟨rfl, hi, hb, hk⟩
       refine ⟨_, rfl, ?_⟩
       have n0_ := Aside0.mk (Kd.R_mono (Kd.R_keep (IsS106.apart (show IsS106 w0 _ g s0_0 t153 from by repeat (first | (with_reducible first | exact HI0.out | apply IsS106.alloc | apply IsS106.drewN | apply IsS106.drew | apply IsS106.set_1 | refine IsS106.far ?_ NB0_136.out _ | refine IsS106.far ?_ NB0_142.out _) | exact HI0.out)) (rvR HO_143001.out) (by decide)) hk (fun _ h => h.2)) (fun _ h => h.1))
       have n1_ := Aside0.mk (KeepBut.blk hk (g' := gb136) (o := .cells #[.int .i64 0, .slice none 0 0] 45 (0, 0)) (bvK BK136.out) NB136_0.out (by simp))
       have n2_ := Aside0.mk (KeepBut.blk hk (g' := gb142) (o := .cells #[.int .i64 t137, .slice Ao13 t138.length co13] 45 (0, 0)) (bvK BK142.out) NB142_0.out (by simp))
       have n3_ := Aside0.mk (Kd.R_mono (Kd.R_keep (IsS106.apart (show IsS106 w0 _ g s0_0 t153 from by repeat (first | (with_reducible first | exact HI0.out | apply IsS106.alloc | apply IsS106.drewN | apply IsS106.drew | apply IsS106.set_1 | refine IsS106.far ?_ NB0_136.out _ | refine IsS106.far ?_ NB0_142.out _) | exact HI0.out)) (rvR HO156.out) (by decide)) hk (fun _ h => h.2)) (fun _ h => h.1))
       have n4_ := Aside0.mk (KeepBut.trans (by repeat (first | (with_reducible first | exact HK.out | apply KeepBut.set_ | apply keep_drewN | apply keep_drew | apply keep_alloc | refine keep_far ?_ GW136.out _ | refine keep_far ?_ GW142.out _) | exact HK.out)) hk (.inl rfl))
       have n5_ := Aside0.mk (hb)
       have n6_ := Aside0.mk (hi)
       clear HO_143001
       clear BK136
       clear BK142
       clear HO156
       clear HK
       clear HB
       clear HI0
       have HO_143001 := n0_
       have BK136 := n1_
       have BK142 := n2_
       have HO156 := n3_
       have HK := n4_
       have HB := n5_
       have HI0 := n6_
       clear n0_ n1_ n2_ n3_ n4_ n5_ n6_
       (try clear hb)
       (try clear hb2)
       (try clear hk)
       (try clear hi)
       have p37 : 0 ≤ (t152 : Int) := oda
       have q37 : (t152 : Int) < ((t138.length : Int) : Int) := oda
       obtain ⟨go37, co37, eo37, gb37, gl37, cl37, HG37⟩ := Kd.R_form HO_143001.out (by omega)
       (first | cases eo37 | (injection eo37 with ea_ en_ ec_; (first | subst ea_ | (injection ea_ with ea_; subst ea_)); subst ec_; clear en_))
       have GB37 := Aside0.mk gb37
       have GG37 := Aside0.mk HG37
       clear gb37 gl37 HG37
       obtain ⟨ce37, hcl37, hM37, hcc37, hfr37⟩ := Kd.R_elem HO_143001.out z121 (t152 : Int) p37 q37
       obtain rfl := k121_openM hM37
       have hx37_0 : World.cell? _ ⟨go37, (t152 : Int).toNat * 2, none⟩ = some (.int .i64 ((rd_T121 t138 t152).f0)) := hcc37 0 _ rfl
       have hx37_1 : World.cell? _ ⟨go37, (t152 : Int).toNat * 2 + 1, none⟩ = some (.int .i64 ((rd_T121 t138 t152).f1)) := hcc37 1 _ rfl
       have hf37_0 : World.frozen? _ ⟨go37, (t152 : Int).toNat * 2, none⟩ = false := hfr37 0
       have hf37_1 : World.frozen? _ ⟨go37, (t152 : Int).toNat * 2 + 1, none⟩ = false := hfr37 1
       clear hcl37 hcc37 hfr37; (try clear hM37)
       replace p37 := eq_true p37
       replace q37 := eq_true q37
       have HN0_go37 := Aside0.mk (show g ≠ go37 from by have h_ := IsS106.own_ne HI0.out HO_143001.out (by decide); intro e_; exact h_ (by rw [e_]; rfl))
       obtain ⟨ce47, hcl47, hM47, hcc47, hfr47⟩ := Kd.R_elem HO_143001.out z121 (t152 : Int) (oda) (by have h_ : (t152 : Int) < ((t138.length : Int) : Int) := oda; first | exact h_ | (have e_ := (Kd.R_reads' HO_143001.out).1; omega) | simpa using h_)
       obtain rfl := k121_openM hM47
       have HP47 := (Kd.R_seg HO_143001.out (t152 : Int) (oda) (by have h_ : (t152 : Int) < ((t138.length : Int) : Int) := oda; first | exact h_ | (have e_ := (Kd.R_reads' HO_143001.out).1; omega) | simpa using h_) (seg := [.int .i64 t157, .int .i64 0]) (j := 0) hcl47 hcc47 (show 2 ≤ 2 from by decide) (x' := (⟨t157, 0⟩ : S121)) (k121_mkM _ _ _ (⟨t157, 0⟩ : S121) ) (fun _ hk => hk)).1
       rw [← Ny159.out] at HP47
       have HQ47 := Aside0.mk HP47
       clear hcl47 hcc47 hfr47 HP47; (try clear hM47)
       refine hK.out _ _ ⟨(blk_cell BK142.out 0).trans rfl, (blk_cell BK142.out 1).trans rfl⟩ (fun hHeld => ?_)
       clear hK K
       refine norm_ (a' := ?_) ?_ ?_
       rotate_left
       ·show Act.put _ (some 42) _ = _
        simp only [Act.put, List.setIfInBounds_toArray, List.set_cons_zero, List.set_cons_succ, i64_w, i32_w]
        rfl
       refine Pt.pu 12 (some 43) (Pt.bm 15 8191) (any_of HT_.out (by kernel_rfl)) ?_
       refine Pt.pu 13 (some 44) (Pt.bm 15 16383) (any_of HT_.out (by kernel_rfl)) ?_
       refine last_ (i := 14) (N := none) (Pt.bm 15 32767) rfl rfl (one_of HT_.out (by kernel_rfl)) (by decide) (fun K hK => ?_)
       refine skip_ (w1 := ?_) (by rfl) rfl ?_ ?_
       rotate_left
       ·go_simp
        rfl
       refine hK.out _ _ ?_
       clear hK K
       refine done_ (done_of HT_.out (by kernel_rfl)) ?_
       have n0_ : Aside0 (Kd.R k121 121 ((w46.setCell ⟨go37, (t152 : Int).toNat * 2, none⟩ (.int .i64 t157)).setCell ⟨go37, (t152 : Int).toNat * 2 + 1, none⟩ (.int .i64 0)) w.heap.size (fun _ => True) (.slice (some ⟨go37, 0, none⟩) t138.length co13) y159) := ⟨rvR HQ47.out⟩
       have n1_ : Aside0 (Kd.R (Kd.int .i64) 3 ((w46.setCell ⟨go37, (t152 : Int).toNat * 2, none⟩ (.int .i64 t157)).setCell ⟨go37, (t152 : Int).toNat * 2 + 1, none⟩ (.int .i64 0)) w.heap.size (fun _ => True) (.slice Ao45 y154.length co45) y154) := ⟨by (with_reducible repeat (first | apply Kd.R_alloc | apply Kd.R_drewN | apply Kd.R_drew)); exact Kd.R_mono (Kd.R_far (p := ⟨go37, (t152 : Int).toNat * 2 + 1, none⟩) (Kd.R_far (p := ⟨go37, (t152 : Int).toNat * 2, none⟩) (Kd.R_types HO156.out GG37.out (by decide)) (fun _ hk => hk.2) (.int .i64 t157)) (fun _ hk => hk.2) (.int .i64 0)) (fun _ hk => trivial)⟩
       have n2_ : Aside0 (((w46.setCell ⟨go37, (t152 : Int).toNat * 2, none⟩ (.int .i64 t157)).setCell ⟨go37, (t152 : Int).toNat * 2 + 1, none⟩ (.int .i64 0)).heap[gb136]? = some (.cells #[.int .i64 0, .slice none 0 0] 45 (0, 0))) := ⟨by (with_reducible repeat (first | refine blk_drewN ?_ _ | refine blk_drew ?_ | refine blk_alloc ?_ _)); refine blk_far ?_ (by have h_ := Kd.R_ne HO_143001.out BK136.out (by decide); intro e_; exact h_ (by rw [e_]; rfl)) _; (with_reducible repeat (first | refine blk_drewN ?_ _ | refine blk_drew ?_ | refine blk_alloc ?_ _)); refine blk_far ?_ (by have h_ := Kd.R_ne HO_143001.out BK136.out (by decide); intro e_; exact h_ (by rw [e_]; rfl)) _; (with_reducible repeat (first | refine blk_drewN ?_ _ | refine blk_drew ?_ | refine blk_alloc ?_ _)); exact BK136.out⟩
       have n3_ : Aside0 (((w46.setCell ⟨go37, (t152 : Int).toNat * 2, none⟩ (.int .i64 t157)).setCell ⟨go37, (t152 : Int).toNat * 2 + 1, none⟩ (.int .i64 0)).heap[gb142]? = some (.cells #[.int .i64 t137, .slice (some ⟨go37, 0, none⟩) t138.length co13] 45 (0, 0))) := ⟨by (with_reducible repeat (first | refine blk_drewN ?_ _ | refine blk_drew ?_ | refine blk_alloc ?_ _)); refine blk_far ?_ (by have h_ := Kd.R_ne HO_143001.out BK142.out (by decide); intro e_; exact h_ (by rw [e_]; rfl)) _; (with_reducible repeat (first | refine blk_drewN ?_ _ | refine blk_drew ?_ | refine blk_alloc ?_ _)); refine blk_far ?_ (by have h_ := Kd.R_ne HO_143001.out BK142.out (by decide); intro e_; exact h_ (by rw [e_]; rfl)) _; (with_reducible repeat (first | refine blk_drewN ?_ _ | refine blk_drew ?_ | refine blk_alloc ?_ _)); exact BK142.out⟩
       have n4_ : Aside0 (IsS106 w0 ((w46.setCell ⟨go37, (t152 : Int).toNat * 2, none⟩ (.int .i64 t157)).setCell ⟨go37, (t152 : Int).toNat * 2 + 1, none⟩ (.int .i64 0)) g s0_0 t158) := ⟨by repeat (first | (with_reducible first | exact HI0.out | apply IsS106.alloc | apply IsS106.drewN | apply IsS106.drew | apply IsS106.set_1 | refine IsS106.far ?_ HN0_go37.out _ | refine IsS106.far ?_ HN0_go37.out _ | refine IsS106.far ?_ NB0_136.out _ | refine IsS106.far ?_ NB0_142.out _) | exact HI0.out)⟩
       have n5_ : Aside0 (KeepBut w ((w46.setCell ⟨go37, (t152 : Int).toNat * 2, none⟩ (.int .i64 t157)).setCell ⟨go37, (t152 : Int).toNat * 2 + 1, none⟩ (.int .i64 0)) g none) := ⟨by repeat (first | (with_reducible first | exact HK.out | apply KeepBut.set_ | apply keep_drewN | apply keep_drew | apply keep_alloc | refine keep_far ?_ GB37.out _ | refine keep_far ?_ GB37.out _ | refine keep_far ?_ GW136.out _ | refine keep_far ?_ GW142.out _) | exact HK.out)⟩
       have n6_ : Aside0 (Below w0.heap.size w0 ((w46.setCell ⟨go37, (t152 : Int).toNat * 2, none⟩ (.int .i64 t157)).setCell ⟨go37, (t152 : Int).toNat * 2 + 1, none⟩ (.int .i64 0))) := ⟨by repeat (first | (with_reducible first | exact HB.out | apply bwA | apply bwN | apply bwD | refine below_set ?_ (Nat.le_trans HL.out GB37.out) | refine below_set ?_ (Nat.le_trans HL.out GB37.out) | refine below_set ?_ (IsS106.ge HI0.out) | refine below_set ?_ GE136.out | refine below_set ?_ GE142.out) | exact HB.out)⟩
       (try clear HO_143001)
       (try clear HO156)
       (try clear BK136)
       (try clear BK142)
       (try clear HI0)
       (try clear HK)
       (try clear HB)
       generalize ((w46.setCell ⟨go37, (t152 : Int).toNat * 2, none⟩ (.int .i64 t157)).setCell ⟨go37, (t152 : Int).toNat * 2 + 1, none⟩ (.int .i64 0)) = w48 at n0_ n1_ n2_ n3_ n4_ n5_ n6_ ⊢
       have HO_143001 := n0_
       have HO156 := n1_
       have BK136 := n2_
       have BK142 := n3_
       have HI0 := n4_
       have HK := n5_
       have HB := n6_
       clear n0_ n1_ n2_ n3_ n4_ n5_ n6_
       have hcz49_0 : w48.cell? ⟨gb142, 0, none⟩ = some (.int .i64 t137) := (blk_cell BK142.out 0).trans rfl
       have hcz49_1 : w48.cell? ⟨gb142, 1, none⟩ = some (.slice (some ⟨go37, 0, none⟩) t138.length co13) := (blk_cell BK142.out 1).trans rfl
       have hfz49_0 := blk_frozen BK142.out 0
       have hfz49_1 := blk_frozen BK142.out 1
       have hnb50 := NB136_0.out
       have hnc50 := NB0_136.out
       have hcz51_0 : w48.cell? ⟨gb136, 0, none⟩ = some (.int .i64 0) := (blk_cell BK136.out 0).trans rfl
       have hcz51_1 : w48.cell? ⟨gb136, 1, none⟩ = some (.slice none 0 0) := (blk_cell BK136.out 1).trans rfl
       have hfz51_0 := blk_frozen BK136.out 0
       have hfz51_1 := blk_frozen BK136.out 1
       try go_wp2
       refine bodyPost_ret (results_cell_row rfl _ _ gb136 45 #[.int .i64 t137, .slice (some ⟨go37, 0, none⟩) t138.length co13] (0, 0) _ rfl (by (with_reducible repeat (first | refine blk_drewN ?_ _ | refine blk_drew ?_ | refine blk_alloc ?_ _)); refine blk_put (cs := #[.int .i64 t137, .slice none 0 0]) ?_ 1 _ rfl; (with_reducible repeat (first | refine blk_drewN ?_ _ | refine blk_drew ?_ | refine blk_alloc ?_ _)); refine blk_put (cs := #[.int .i64 0, .slice none 0 0]) ?_ 0 _ rfl; (with_reducible repeat (first | refine blk_drewN ?_ _ | refine blk_drew ?_ | refine blk_alloc ?_ _)); exact BK136.out) Try.underlying45 rfl (by kernel_rfl)) rfl ?_
       exact ⟨_, ers, by (with_reducible repeat (first | apply Kd.R_alloc | apply Kd.R_drewN | apply Kd.R_drew)); exact Kd.R_mono (Kd.R_far (p := ⟨gb136, 1, none⟩) (Kd.R_far (p := ⟨gb136, 0, none⟩) (Kd.R_types HO_143001.out BK136.out (by decide)) (fun _ hk => hk.2) (.int .i64 t137)) (fun _ hk => hk.2) (.slice (some ⟨go37, 0, none⟩) t138.length co13)) (fun _ hk => trivial), by repeat (first | (with_reducible first | exact HI0.out | apply IsS106.alloc | apply IsS106.drewN | apply IsS106.drew | apply IsS106.set_1 | refine IsS106.far ?_ NB0_136.out _ | refine IsS106.far ?_ NB0_142.out _) | exact HI0.out), by repeat (first | (with_reducible first | exact HB.out | apply bwA | apply bwN | apply bwD | refine below_set ?_ (IsS106.ge HI0.out) | refine below_set ?_ GE136.out | refine below_set ?_ GE142.out) | exact HB.out), by repeat (first | (with_reducible first | exact HK.out | apply KeepBut.set_ | apply keep_drewN | apply keep_drew | apply keep_alloc | refine keep_far ?_ GW136.out _ | refine keep_far ?_ GW142.out _) | exact HK.out)⟩
      ·rw [if_neg c36] at H
       exact absurd H (by simp)
     ·rw [if_neg c35] at H
      exact absurd H (by simp)
 ·rw [if_neg c5] at H
  have c5b0 : (t143 == 0) = false := beq_eq_false_iff_ne.mpr c5
  have c5b1 : (t143 != 0) = true := bne_iff_ne.mpr c5
  simp only [Option.some.injEq, Prod.mk.injEq] at H
  obtain ⟨rfl, rfl, rfl⟩ := H
  go_enter Try.func106, Try.ntmps106
  go_wp2_with (first | ((with_reducible refine gate_dst (N := 4) rfl ?_); (try (refine gate_guard (by rfl) ?_; dsimp only)); refine box_event ?hg (N := 4) ?hd (cs := #[.int .i64 0, .slice none 0 0]) (t := 45) ?hr ?_; (case hd => rfl); (case hg => rfl); (case hr => first | (go_simp; done) | (go_simp; rfl)); intro gb136 hg w52 hbox hb; have n0_ := Aside0.mk (IsS106.below (by repeat (first | (with_reducible first | exact HI0.out | apply IsS106.alloc | apply IsS106.drewN | apply IsS106.drew | apply IsS106.set_1) | exact HI0.out)) hb); have n1_ := Aside0.mk (KeepBut.trans (by repeat (first | (with_reducible first | exact HK.out | apply KeepBut.set_ | apply keep_drewN | apply keep_drew | apply keep_alloc) | exact HK.out)) (KeepBut.of_below hb g none) (.inl rfl)); have n2_ := Aside0.mk (below_step (by repeat (first | (with_reducible first | exact HB.out | apply bwA | apply bwN | apply bwD | refine below_set ?_ (IsS106.ge HI0.out)) | exact HB.out)) hb); have n3_ := Aside0.mk (hbox); have n4_ := Aside0.mk ((by rw [hg]; exact (keep_size (w := w) (g := g) (row := none) (by repeat (first | (with_reducible first | exact HK.out | apply KeepBut.set_ | apply keep_drewN | apply keep_drew | apply keep_alloc) | exact HK.out))) : w.heap.size ≤ gb136)); have n5_ := Aside0.mk ((Nat.le_trans HW0.out (by rw [hg]; exact (keep_size (w := w) (g := g) (row := none) (by repeat (first | (with_reducible first | exact HK.out | apply KeepBut.set_ | apply keep_drewN | apply keep_drew | apply keep_alloc) | exact HK.out))) : w.heap.size ≤ gb136) : w0.heap.size ≤ gb136)); have n6_ := Aside0.mk ((by rw [hg]; exact Nat.ne_of_lt (IsS106.lt (show IsS106 w0 _ g s0_0 s0_1 from by repeat (first | (with_reducible first | exact HI0.out | apply IsS106.alloc | apply IsS106.drewN | apply IsS106.drew | apply IsS106.set_1) | exact HI0.out))) : g ≠ gb136)); have n7_ := Aside0.mk ((by rw [hg]; exact Nat.ne_of_gt (IsS106.lt (show IsS106 w0 _ g s0_0 s0_1 from by repeat (first | (with_reducible first | exact HI0.out | apply IsS106.alloc | apply IsS106.drewN | apply IsS106.drew | apply IsS106.set_1) | exact HI0.out))) : gb136 ≠ g)); clear HI0; clear HK; clear HB; have HI0 := n0_; have HK := n1_; have HB := n2_; have BK136 := n3_; have GW136 := n4_; have GE136 := n5_; have NB0_136 := n6_; have NB136_0 := n7_; clear n0_ n1_ n2_ n3_ n4_ n5_ n6_ n7_; clear hb hbox hg) | ((with_reducible refine gate_callee (f := 115) rfl ?_); refine goesL_ (some 9) rfl rfl Try.func115 (by kernel_rfl) rfl #[.pointer (some ⟨g, 0, none⟩), .int .i64 a1] rfl lmB ?_; (with_reducible refine (spec_l7Draw.calls k g s0_0 s0_1 a1 t137 t138 t141 w0 _ ?side1 ?side2 A3.out).mono ?_); (case side1 => repeat (first | (with_reducible first | exact HI0.out | apply IsS106.alloc | apply IsS106.drewN | apply IsS106.drew | apply IsS106.set_1 | refine IsS106.far ?_ NB0_136.out _) | exact HI0.out)); (case side2 => repeat (first | (with_reducible first | exact HB.out | apply bwA | apply bwN | apply bwD | refine below_set ?_ (IsS106.ge HI0.out) | refine below_set ?_ GE136.out) | exact HB.out)); rintro e w53 ⟨v139, rfl, ho0, hi, hb, hk⟩; refine ⟨_, rfl, ?_⟩; have n0_ := Aside0.mk (KeepBut.blk hk (g' := gb136) (o := .cells #[.int .i64 0, .slice none 0 0] 45 (0, 0)) (bvK BK136.out) NB136_0.out (by simp)); have n1_ := Aside0.mk (Kd.R_lower ho0 (keep_size (w := w) (g := g) (row := none) (by repeat (first | (with_reducible first | exact HK.out | apply KeepBut.set_ | apply keep_drewN | apply keep_drew | apply keep_alloc | refine keep_far ?_ GW136.out _) | exact HK.out)))); have n2_ := Aside0.mk (KeepBut.trans (by repeat (first | (with_reducible first | exact HK.out | apply KeepBut.set_ | apply keep_drewN | apply keep_drew | apply keep_alloc | refine keep_far ?_ GW136.out _) | exact HK.out)) hk (.inl rfl)); have n3_ := Aside0.mk (hb); have n4_ := Aside0.mk (hi); clear BK136; clear HK; clear HB; clear HI0; have BK136 := n0_; have HO140 := n1_; have HK := n2_; have HB := n3_; have HI0 := n4_; clear n0_ n1_ n2_ n3_ n4_; (try clear hb); (try clear hb2); (try clear hk); (try clear hi); (try clear ho0)) | ((with_reducible refine gate_dst (N := 5) rfl ?_); (try (refine gate_guard (by rfl) ?_; dsimp only)); refine box_event ?hg (N := 5) ?hd (cs := #[.int .i64 0, .slice none 0 0]) (t := 45) ?hr ?_; (case hd => rfl); (case hg => rfl); (case hr => first | (go_simp; done) | (go_simp; rfl)); intro gb142 hg w54 hbox hb; have n0_ := Aside0.mk (Kd.R_below (rvR HO140.out) hb); have n1_ := Aside0.mk (IsS106.below (by repeat (first | (with_reducible first | exact HI0.out | apply IsS106.alloc | apply IsS106.drewN | apply IsS106.drew | apply IsS106.set_1 | refine IsS106.far ?_ NB0_136.out _) | exact HI0.out)) hb); have n2_ := Aside0.mk (blk_below (g := gb136) (o := .cells #[.int .i64 0, .slice none 0 0] 45 (0, 0)) (bvK BK136.out) hb); have n3_ := Aside0.mk (KeepBut.trans (by repeat (first | (with_reducible first | exact HK.out | apply KeepBut.set_ | apply keep_drewN | apply keep_drew | apply keep_alloc | refine keep_far ?_ GW136.out _) | exact HK.out)) (KeepBut.of_below hb g none) (.inl rfl)); have n4_ := Aside0.mk (below_step (by repeat (first | (with_reducible first | exact HB.out | apply bwA | apply bwN | apply bwD | refine below_set ?_ (IsS106.ge HI0.out) | refine below_set ?_ GE136.out) | exact HB.out)) hb); have n5_ := Aside0.mk (hbox); have n6_ := Aside0.mk ((by rw [hg]; exact (keep_size (w := w) (g := g) (row := none) (by repeat (first | (with_reducible first | exact HK.out | apply KeepBut.set_ | apply keep_drewN | apply keep_drew | apply keep_alloc | refine keep_far ?_ GW136.out _) | exact HK.out))) : w.heap.size ≤ gb142)); have n7_ := Aside0.mk ((Nat.le_trans HW0.out (by rw [hg]; exact (keep_size (w := w) (g := g) (row := none) (by repeat (first | (with_reducible first | exact HK.out | apply KeepBut.set_ | apply keep_drewN | apply keep_drew | apply keep_alloc | refine keep_far ?_ GW136.out _) | exact HK.out))) : w.heap.size ≤ gb142) : w0.heap.size ≤ gb142)); have n8_ := Aside0.mk ((by rw [hg]; exact Nat.ne_of_lt (blk_lt (g := gb136) (o := .cells #[.int .i64 0, .slice none 0 0] 45 (0, 0)) (bvK BK136.out)) : gb136 ≠ gb142)); have n9_ := Aside0.mk ((by rw [hg]; exact Nat.ne_of_gt (blk_lt (g := gb136) (o := .cells #[.int .i64 0, .slice none 0 0] 45 (0, 0)) (bvK BK136.out)) : gb142 ≠ gb136)); have n10_ := Aside0.mk ((by rw [hg]; exact Nat.ne_of_lt (IsS106.lt (show IsS106 w0 _ g s0_0 t141 from by repeat (first | (with_reducible first | exact HI0.out | apply IsS106.alloc | apply IsS106.drewN | apply IsS106.drew | apply IsS106.set_1 | refine IsS106.far ?_ NB0_136.out _) | exact HI0.out))) : g ≠ gb142)); have n11_ := Aside0.mk ((by rw [hg]; exact Nat.ne_of_gt (IsS106.lt (show IsS106 w0 _ g s0_0 t141 from by repeat (first | (with_reducible first | exact HI0.out | apply IsS106.alloc | apply IsS106.drewN | apply IsS106.drew | apply IsS106.set_1 | refine IsS106.far ?_ NB0_136.out _) | exact HI0.out))) : gb142 ≠ g)); clear HO140; clear HI0; clear BK136; clear HK; clear HB; have HO140 := n0_; have HI0 := n1_; have BK136 := n2_; have HK := n3_; have HB := n4_; have BK142 := n5_; have GW142 := n6_; have GE142 := n7_; have NB136_142 := n8_; have NB142_136 := n9_; have NB0_142 := n10_; have NB142_0 := n11_; clear n0_ n1_ n2_ n3_ n4_ n5_ n6_ n7_ n8_ n9_ n10_ n11_; clear hb hbox hg; have hnb55 := NB142_136.out; have hnc55 := NB136_142.out; have hnb56 := NB142_0.out; have hnc56 := NB0_142.out; have hcz57_0 : w54.cell? ⟨gb142, 0, none⟩ = some (.int .i64 0) := (blk_cell BK142.out 0).trans rfl; have hcz57_1 : w54.cell? ⟨gb142, 1, none⟩ = some (.slice none 0 0) := (blk_cell BK142.out 1).trans rfl; have hfz57_0 := blk_frozen BK142.out 0; have hfz57_1 := blk_frozen BK142.out 1; obtain ⟨Ao58, co58, eo58⟩ := Kd.R_slice HO140.out; subst eo58) | ((with_reducible refine gate_callee (f := 49) rfl ?_); refine goesL_ (some 11) rfl rfl Try.func49 (by kernel_rfl) rfl #[.pointer (some ⟨g, 0, none⟩), .int .i64 14] rfl lmB ?_; (with_reducible refine (spec_l40Rd_pick.calls k g s0_0 t141 14 t143 t144 w0 _ ?side1 ?side2 A4.out).mono ?_); (case side1 => repeat (first | (with_reducible first | exact HI0.out | apply IsS106.alloc | apply IsS106.drewN | apply IsS106.drew | apply IsS106.set_1 | refine IsS106.far ?_ NB0_136.out _ | refine IsS106.far ?_ NB0_142.out _) | exact HI0.out)); (case side2 => repeat (first | (with_reducible first | exact HB.out | apply bwA | apply bwN | apply bwD | refine below_set ?_ (IsS106.ge HI0.out) | refine below_set ?_ GE136.out | refine below_set ?_ GE142.out) | exact HB.out)); rintro e w59 ⟨rfl, hi, hb, hk⟩; refine ⟨_, rfl, ?_⟩; have n0_ := Aside0.mk (KeepBut.blk hk (g' := gb136) (o := .cells #[.int .i64 0, .slice none 0 0] 45 (0, 0)) (by (with_reducible repeat (first | refine blk_drewN ?_ _ | refine blk_drew ?_ | refine blk_alloc ?_ _)); refine blk_far ?_ NB136_142.out _; (with_reducible repeat (first | refine blk_drewN ?_ _ | refine blk_drew ?_ | refine blk_alloc ?_ _)); refine blk_far ?_ NB136_142.out _; (with_reducible repeat (first | refine blk_drewN ?_ _ | refine blk_drew ?_ | refine blk_alloc ?_ _)); exact BK136.out) NB136_0.out (by simp)); have n1_ := Aside0.mk (Kd.R_mono (Kd.R_keep (IsS106.apart (show IsS106 w0 _ g s0_0 t141 from by repeat (first | (with_reducible first | exact HI0.out | apply IsS106.alloc | apply IsS106.drewN | apply IsS106.drew | apply IsS106.set_1 | refine IsS106.far ?_ NB0_136.out _ | refine IsS106.far ?_ NB0_142.out _) | exact HI0.out)) (by (with_reducible repeat (first | apply Kd.R_alloc | apply Kd.R_drewN | apply Kd.R_drew)); exact (Kd.R_mono (Kd.R_far (p := ⟨gb142, 1, none⟩) (Kd.R_far (p := ⟨gb142, 0, none⟩) (Kd.R_types HO140.out BK142.out (by decide)) (fun _ hk => hk.2) (.int .i64 t137)) (fun _ hk => hk.2) (.slice Ao58 t138.length co58)) (fun _ h_ => h_.1))) (by decide)) hk (fun _ h => h.2)) (fun _ h => h.1)); have n2_ := Aside0.mk (KeepBut.blk hk (g' := gb142) (o := .cells #[.int .i64 t137, .slice Ao58 t138.length co58] 45 (0, 0)) (by (with_reducible repeat (first | refine blk_drewN ?_ _ | refine blk_drew ?_ | refine blk_alloc ?_ _)); refine blk_put (cs := #[.int .i64 t137, .slice none 0 0]) ?_ 1 _ rfl; (with_reducible repeat (first | refine blk_drewN ?_ _ | refine blk_drew ?_ | refine blk_alloc ?_ _)); refine blk_put (cs := #[.int .i64 0, .slice none 0 0]) ?_ 0 _ rfl; (with_reducible repeat (first | refine blk_drewN ?_ _ | refine blk_drew ?_ | refine blk_alloc ?_ _)); exact BK142.out) NB142_0.out (by simp)); have n3_ := Aside0.mk (KeepBut.trans (by repeat (first | (with_reducible first | exact HK.out | apply KeepBut.set_ | apply keep_drewN | apply keep_drew | apply keep_alloc | refine keep_far ?_ GW136.out _ | refine keep_far ?_ GW142.out _) | exact HK.out)) hk (.inl rfl)); have n4_ := Aside0.mk (hb); have n5_ := Aside0.mk (hi); clear BK136; clear HO140; clear BK142; clear HK; clear HB; clear HI0; have BK136 := n0_; have HO140 := n1_; have BK142 := n2_; have HK := n3_; have HB := n4_; have HI0 := n5_; clear n0_ n1_ n2_ n3_ n4_ n5_; (try clear hb); (try clear hb2); (try clear hk); (try clear hi); have hcz60_0 : w59.cell? ⟨gb142, 0, none⟩ = some (.int .i64 t137) := (blk_cell BK142.out 0).trans rfl; have hcz60_1 : w59.cell? ⟨gb142, 1, none⟩ = some (.slice Ao58 t138.length co58) := (blk_cell BK142.out 1).trans rfl; have hfz60_0 := blk_frozen BK142.out 0; have hfz60_1 := blk_frozen BK142.out 1; have hnb61 := NB136_0.out; have hnc61 := NB0_136.out; have hcz62_0 : w59.cell? ⟨gb136, 0, none⟩ = some (.int .i64 0) := (blk_cell BK136.out 0).trans rfl; have hcz62_1 : w59.cell? ⟨gb136, 1, none⟩ = some (.slice none 0 0) := (blk_cell BK136.out 1).trans rfl; have hfz62_0 := blk_frozen BK136.out 0; have hfz62_1 := blk_frozen BK136.out 1))
  refine bodyPost_ret (results_cell_row rfl _ _ gb136 45 #[.int .i64 t137, .slice Ao58 t138.length co58] (0, 0) _ rfl (by (with_reducible repeat (first | refine blk_drewN ?_ _ | refine blk_drew ?_ | refine blk_alloc ?_ _)); refine blk_put (cs := #[.int .i64 t137, .slice none 0 0]) ?_ 1 _ rfl; (with_reducible repeat (first | refine blk_drewN ?_ _ | refine blk_drew ?_ | refine blk_alloc ?_ _)); refine blk_put (cs := #[.int .i64 0, .slice none 0 0]) ?_ 0 _ rfl; (with_reducible repeat (first | refine blk_drewN ?_ _ | refine blk_drew ?_ | refine blk_alloc ?_ _)); exact BK136.out) Try.underlying45 rfl (by kernel_rfl)) rfl ?_
  exact ⟨_, ers, by (with_reducible repeat (first | apply Kd.R_alloc | apply Kd.R_drewN | apply Kd.R_drew)); exact Kd.R_mono (Kd.R_far (p := ⟨gb136, 1, none⟩) (Kd.R_far (p := ⟨gb136, 0, none⟩) (Kd.R_types HO140.out BK136.out (by decide)) (fun _ hk => hk.2) (.int .i64 t137)) (fun _ hk => hk.2) (.slice Ao58 t138.length co58)) (fun _ hk => trivial), by repeat (first | (with_reducible first | exact HI0.out | apply IsS106.alloc | apply IsS106.drewN | apply IsS106.drew | apply IsS106.set_1 | refine IsS106.far ?_ NB0_136.out _ | refine IsS106.far ?_ NB0_142.out _) | exact HI0.out), by repeat (first | (with_reducible first | exact HB.out | apply bwA | apply bwN | apply bwD | refine below_set ?_ (IsS106.ge HI0.out) | refine below_set ?_ GE136.out | refine below_set ?_ GE142.out) | exact HB.out), by repeat (first | (with_reducible first | exact HK.out | apply KeepBut.set_ | apply keep_drewN | apply keep_drew | apply keep_alloc | refine keep_far ?_ GW136.out _ | refine keep_far ?_ GW142.out _) | exact HK.out)⟩

/-! ### spec_l7Some: function 107 -/
def spec_l7Some.f (k : Nat) (s0_0 : List Int) (s0_1 : Int) (a1_0 : Int) (l1_1 : List (S121)) : Option (Int × Int) := (spec_l7Nodes.f a1_0 l1_1).bind fun t161 => ((spec_l40Rd_pick.f k s0_0 s0_1 15).bind fun bt162 => (if bt162.1 = 0 then ((spec_l40Rd_num.f k s0_0 bt162.2 (([wrap64 (2 * t161), (-1)] : List Int))).bind fun bt167 => (some (bt167.1, bt167.2))) else ((spec_l40Rd_pick.f k s0_0 bt162.2 2).bind fun bt169 => (if bt169.1 = 0 then ((spec_l40Rd_pick.f k s0_0 bt169.2 4).bind fun bt171 => (some (wrap64 ((wrap64 ((wrap64 (2 * t161)) - 1)) - bt171.1), bt171.2))) else ((spec_l40Rd_pick.f k s0_0 bt169.2 (wrap64 (2 * t161))).bind fun bt173 => (some (bt173.1, bt173.2)))))))
theorem spec_l7Some.mono : ∀ a0 a1 a2 a3 k, LeO (spec_l7Some.f k a0 a1 a2 a3) (spec_l7Some.f (k + 1) a0 a1 a2 a3) := by
 intro a0 a1 a2 a3 k
 unfold spec_l7Some.f
 repeat' first
   | (with_reducible exact spec_l40Rd_num.mono _ _ _ _)
   | (with_reducible exact spec_l40Rd_pick.mono _ _ _ _)
   | (with_reducible exact LeO.refl _)
   | (with_reducible exact LeO.none _)
   | (with_reducible refine LeO.ite ?_ ?_)
   | (with_reducible refine LeO.bind ?_ (fun _ => ?_))
   | exact spec_l40Rd_num.mono _ _ _ _
   | exact spec_l40Rd_pick.mono _ _ _ _
   | exact LeO.none _
   | refine LeO.ite ?_ ?_
   | refine LeO.bind ?_ (fun _ => ?_)
set_option maxHeartbeats 8000000 in
set_option maxRecDepth 100000 in
theorem spec_l7Some.calls (k : Nat) (g : Nat) (s0_0 : List Int) (s0_1 : Int) (a1_0 : Int) (A1_1 : Option Addr) (c1_1 : Nat) (l1_1 : List (S121)) (r1 : Int) (r2 : Int) (w0 w : World) (hI : IsS106 w0 w g s0_0 s0_1) (hB : Below w0.heap.size w0 w) (hr1_1 : ∀ W_, KeepBut w W_ g none → Kd.C k121 W_ A1_1 l1_1.length l1_1) (hc1_1 : l1_1.length ≤ c1_1) (h : spec_l7Some.f k s0_0 s0_1 a1_0 l1_1 = some (r1, r2)) :
  Calls Try.prog 107 #[.pointer (some ⟨g, 0, none⟩), .agg #[.int .i64 a1_0, .slice A1_1 l1_1.length c1_1]] w fun e w' => e = .returned (.int .i64 r1) ∧ IsS106 w0 w' g s0_0 r2 ∧ Below w0.heap.size w0 w' ∧ KeepBut w w' g none := by
 have hu45 := Try.underlying45
 have HR1_1 := Aside0.mk hr1_1
 have HC1_1 := Aside0.mk hc1_1
 clear hr1_1 hc1_1
 have HI0 := Aside0.mk hI
 have HK := Aside0.mk (KeepBut.refl w g none)
 have HL := Aside0.mk hB.size
 clear hI
 have HW0 := Aside0.mk hB.size
 have HB := Aside0.mk hB
 clear hB
 have H : ((spec_l7Nodes.f a1_0 l1_1).bind fun t161 => ((spec_l40Rd_pick.f k s0_0 s0_1 15).bind fun bt162 => (if bt162.1 = 0 then ((spec_l40Rd_num.f k s0_0 bt162.2 (([wrap64 (2 * t161), (-1)] : List Int))).bind fun bt167 => (some (bt167.1, bt167.2))) else ((spec_l40Rd_pick.f k s0_0 bt162.2 2).bind fun bt169 => (if bt169.1 = 0 then ((spec_l40Rd_pick.f k s0_0 bt169.2 4).bind fun bt171 => (some (wrap64 ((wrap64 ((wrap64 (2 * t161)) - 1)) - bt171.1), bt171.2))) else ((spec_l40Rd_pick.f k s0_0 bt169.2 (wrap64 (2 * t161))).bind fun bt173 => (some (bt173.1, bt173.2)))))))) = some (r1, r2) := h
 clear h
 replace H := Option.bind_eq_some_iff.mp H
 obtain ⟨t161, A30, H⟩ := H
 replace H : ((spec_l40Rd_pick.f k s0_0 s0_1 15).bind fun bt162 => (if bt162.1 = 0 then ((spec_l40Rd_num.f k s0_0 bt162.2 (([wrap64 (2 * t161), (-1)] : List Int))).bind fun bt167 => (some (bt167.1, bt167.2))) else ((spec_l40Rd_pick.f k s0_0 bt162.2 2).bind fun bt169 => (if bt169.1 = 0 then ((spec_l40Rd_pick.f k s0_0 bt169.2 4).bind fun bt171 => (some (wrap64 ((wrap64 ((wrap64 (2 * t161)) - 1)) - bt171.1), bt171.2))) else ((spec_l40Rd_pick.f k s0_0 bt169.2 (wrap64 (2 * t161))).bind fun bt173 => (some (bt173.1, bt173.2))))))) = some (r1, r2) := H
 have A3 := Aside0.mk A30
 clear A30
 replace H := Option.bind_eq_some_iff.mp H
 obtain ⟨⟨t162, t163⟩, A40, H⟩ := H
 replace H : (if t162 = 0 then ((spec_l40Rd_num.f k s0_0 t163 (([wrap64 (2 * t161), (-1)] : List Int))).bind fun bt167 => (some (bt167.1, bt167.2))) else ((spec_l40Rd_pick.f k s0_0 t163 2).bind fun bt169 => (if bt169.1 = 0 then ((spec_l40Rd_pick.f k s0_0 bt169.2 4).bind fun bt171 => (some (wrap64 ((wrap64 ((wrap64 (2 * t161)) - 1)) - bt171.1), bt171.2))) else ((spec_l40Rd_pick.f k s0_0 bt169.2 (wrap64 (2 * t161))).bind fun bt173 => (some (bt173.1, bt173.2)))))) = some (r1, r2) := H
 have A4 := Aside0.mk A40
 clear A40
 by_cases c5 : t162 = 0
 ·rw [if_pos c5] at H
  have c5b0 : (t162 == 0) = true := beq_iff_eq.mpr c5
  have c5b1 : (t162 != 0) = false := bne_eq_false_iff_eq.mpr c5
  clear c5
  obtain ⟨y164, hy164⟩ : ∃ y_ : List Int, y_ = (([wrap64 (2 * t161), (-1)] : List Int)) := ⟨_, rfl⟩
  replace H : ((spec_l40Rd_num.f k s0_0 t163 y164).bind fun bt167 => (some (bt167.1, bt167.2))) = some (r1, r2) := by first | (rw [hy164]; with_reducible exact H) | (have H2_ := (Option.bind_some _ _).symm.trans H; rw [hy164]; with_reducible exact H2_) | (have H2_ := (Option.bind_some _ _).symm.trans H; with_reducible exact H2_) | with_reducible exact H | (rw [hy164]; exact H) | exact H
  have Ny164 := Aside0.mk hy164
  clear hy164
  replace H := Option.bind_eq_some_iff.mp H
  obtain ⟨⟨t167, t168⟩, A60, H⟩ := H
  replace H : (some (t167, t168)) = some (r1, r2) := H
  have A6 := Aside0.mk A60
  clear A60
  simp only [Option.some.injEq, Prod.mk.injEq] at H
  obtain ⟨rfl, rfl⟩ := H
  go_enter Try.func107, Try.ntmps107
  go_wp2_with (first | ((with_reducible refine gate_dst (N := 3) rfl ?_); refine box_event ?hg (N := 3) ?hd (cs := #[.int .i64 a1_0, .slice A1_1 l1_1.length c1_1]) (t := 45) ?hr ?_; (case hd => rfl); (case hg => rfl); (case hr => first | (go_simp; done) | (go_simp; rfl)); intro gb160 hg w7 hbox hb; have n0_ := Aside0.mk (IsS106.below (by repeat (first | (with_reducible first | exact HI0.out | apply IsS106.alloc | apply IsS106.drewN | apply IsS106.drew | apply IsS106.set_1) | exact HI0.out)) hb); have n1_ := Aside0.mk (KeepBut.trans (by repeat (first | (with_reducible first | exact HK.out | apply KeepBut.set_ | apply keep_drewN | apply keep_drew | apply keep_alloc) | exact HK.out)) (KeepBut.of_below hb g none) (.inl rfl)); have n2_ := Aside0.mk (below_step (by repeat (first | (with_reducible first | exact HB.out | apply bwA | apply bwN | apply bwD | refine below_set ?_ (IsS106.ge HI0.out)) | exact HB.out)) hb); have n3_ := Aside0.mk (hbox); have n4_ := Aside0.mk ((by rw [hg]; exact (keep_size (w := w) (g := g) (row := none) (by repeat (first | (with_reducible first | exact HK.out | apply KeepBut.set_ | apply keep_drewN | apply keep_drew | apply keep_alloc) | exact HK.out))) : w.heap.size ≤ gb160)); have n5_ := Aside0.mk ((Nat.le_trans HW0.out (by rw [hg]; exact (keep_size (w := w) (g := g) (row := none) (by repeat (first | (with_reducible first | exact HK.out | apply KeepBut.set_ | apply keep_drewN | apply keep_drew | apply keep_alloc) | exact HK.out))) : w.heap.size ≤ gb160) : w0.heap.size ≤ gb160)); have n6_ := Aside0.mk ((by rw [hg]; exact Nat.ne_of_lt (IsS106.lt (show IsS106 w0 _ g s0_0 s0_1 from by repeat (first | (with_reducible first | exact HI0.out | apply IsS106.alloc | apply IsS106.drewN | apply IsS106.drew | apply IsS106.set_1) | exact HI0.out))) : g ≠ gb160)); have n7_ := Aside0.mk ((by rw [hg]; exact Nat.ne_of_gt (IsS106.lt (show IsS106 w0 _ g s0_0 s0_1 from by repeat (first | (with_reducible first | exact HI0.out | apply IsS106.alloc | apply IsS106.drewN | apply IsS106.drew | apply IsS106.set_1) | exact HI0.out))) : gb160 ≠ g)); clear HI0; clear HK; clear HB; have HI0 := n0_; have HK := n1_; have HB := n2_; have BK160 := n3_; have GW160 := n4_; have GE160 := n5_; have NB0_160 := n6_; have NB160_0 := n7_; clear n0_ n1_ n2_ n3_ n4_ n5_ n6_ n7_; clear hb hbox hg; have hnb8 := NB160_0.out; have hnc8 := NB0_160.out; have hcz9_0 : w7.cell? ⟨gb160, 0, none⟩ = some (.int .i64 a1_0) := (blk_cell BK160.out 0).trans rfl; have hcz9_1 : w7.cell? ⟨gb160, 1, none⟩ = some (.slice A1_1 l1_1.length c1_1) := (blk_cell BK160.out 1).trans rfl; have hfz9_0 := blk_frozen BK160.out 0; have hfz9_1 := blk_frozen BK160.out 1) | ((with_reducible refine gate_callee (f := 110) rfl ?_); refine goesL_ (some 7) rfl rfl Try.func110 (by kernel_rfl) rfl #[.agg #[.int .i64 a1_0, .slice A1_1 l1_1.length c1_1]] rfl lmB ?_; (with_reducible refine (spec_l7Nodes.calls a1_0 _ _ l1_1 t161 _ ?side1 ?side2 A3.out).mono ?_); (case side1 => exact Kd.C_foot_now HR1_1.out (by repeat (first | (with_reducible first | exact HK.out | apply KeepBut.set_ | apply keep_drewN | apply keep_drew | apply keep_alloc | refine keep_far ?_ GW160.out _) | exact HK.out))); (case side2 => exact HC1_1.out); rintro e w10 ⟨rfl, hb⟩; refine ⟨_, rfl, ?_⟩; have n0_ := Aside0.mk (IsS106.below (by repeat (first | (with_reducible first | exact HI0.out | apply IsS106.alloc | apply IsS106.drewN | apply IsS106.drew | apply IsS106.set_1 | refine IsS106.far ?_ NB0_160.out _) | exact HI0.out)) hb); have n1_ := Aside0.mk (blk_below (g := gb160) (o := .cells #[.int .i64 a1_0, .slice A1_1 l1_1.length c1_1] 45 (0, 0)) (bvK BK160.out) hb); have n2_ := Aside0.mk (KeepBut.trans (by repeat (first | (with_reducible first | exact HK.out | apply KeepBut.set_ | apply keep_drewN | apply keep_drew | apply keep_alloc | refine keep_far ?_ GW160.out _) | exact HK.out)) (KeepBut.of_below hb g none) (.inl rfl)); have n3_ := Aside0.mk (below_step (by repeat (first | (with_reducible first | exact HB.out | apply bwA | apply bwN | apply bwD | refine below_set ?_ (IsS106.ge HI0.out) | refine below_set ?_ GE160.out) | exact HB.out)) hb); clear HI0; clear BK160; clear HK; clear HB; have HI0 := n0_; have BK160 := n1_; have HK := n2_; have HB := n3_; clear n0_ n1_ n2_ n3_; (try clear hb); (try clear hb2); (try clear hk); (try clear hi)) | ((with_reducible refine gate_callee (f := 49) rfl ?_); refine goesL_ (some 10) rfl rfl Try.func49 (by kernel_rfl) rfl #[.pointer (some ⟨g, 0, none⟩), .int .i64 15] rfl lmB ?_; (with_reducible refine (spec_l40Rd_pick.calls k g s0_0 s0_1 15 t162 t163 w0 _ ?side1 ?side2 A4.out).mono ?_); (case side1 => repeat (first | (with_reducible first | exact HI0.out | apply IsS106.alloc | apply IsS106.drewN | apply IsS106.drew | apply IsS106.set_1 | refine IsS106.far ?_ NB0_160.out _) | exact HI0.out)); (case side2 => repeat (first | (with_reducible first | exact HB.out | apply bwA | apply bwN | apply bwD | refine below_set ?_ (IsS106.ge HI0.out) | refine below_set ?_ GE160.out) | exact HB.out)); rintro e w11 ⟨rfl, hi, hb, hk⟩; refine ⟨_, rfl, ?_⟩; have n0_ := Aside0.mk (KeepBut.blk hk (g' := gb160) (o := .cells #[.int .i64 a1_0, .slice A1_1 l1_1.length c1_1] 45 (0, 0)) (bvK BK160.out) NB160_0.out (by simp)); have n1_ := Aside0.mk (KeepBut.trans (by repeat (first | (with_reducible first | exact HK.out | apply KeepBut.set_ | apply keep_drewN | apply keep_drew | apply keep_alloc | refine keep_far ?_ GW160.out _) | exact HK.out)) hk (.inl rfl)); have n2_ := Aside0.mk (hb); have n3_ := Aside0.mk (hi); clear BK160; clear HK; clear HB; clear HI0; have BK160 := n0_; have HK := n1_; have HB := n2_; have HI0 := n3_; clear n0_ n1_ n2_ n3_; (try clear hb); (try clear hb2); (try clear hk); (try clear hi)) | ((with_reducible refine gate_dst (N := 14) rfl ?_); refine Kd.R_lit (Kd.int .i64) _ 3 ?hg (N := 14) ?hd (xs := ([wrap64 (2 * t161), (-1)] : List Int)) (inner := [.int .i64 (wrap64 (2 * t161)), .int .i64 (-1)]) (ok := fun _ => True) (okp := fun _ => True) ?hr ?hp (fun _ hk => hk) trivial (Below.refl _ _) (Nat.le_refl _) (by simp) ?_; (case hd => rfl); (case hg => rfl); (case hr => first | (go_simp; done) | (go_simp; rfl)); (case hp => exact (Reps.one (show Kd.M (Kd.int .i64) _ _ _ (wrap64 (2 * t161)) [.int .i64 (wrap64 (2 * t161))] from rfl) (Reps.one (show Kd.M (Kd.int .i64) _ _ _ (-1) [.int .i64 (-1)] from rfl) (Reps.none _ _)))); intro v165 w12 ho13 hb hg_ hnew_; clear hg_ hnew_; (first | rw [← Ny164.out] at ho13 | (simp only [Int.reduceToNat] at ho13; rw [← Ny164.out] at ho13)); have n0_ := Aside0.mk (Kd.R_lower ho13 (keep_size (w := w) (g := g) (row := none) (by repeat (first | (with_reducible first | exact HK.out | apply KeepBut.set_ | apply keep_drewN | apply keep_drew | apply keep_alloc | refine keep_far ?_ GW160.out _) | exact HK.out)))); have n1_ := Aside0.mk (IsS106.below (by repeat (first | (with_reducible first | exact HI0.out | apply IsS106.alloc | apply IsS106.drewN | apply IsS106.drew | apply IsS106.set_1 | refine IsS106.far ?_ NB0_160.out _) | exact HI0.out)) hb); have n2_ := Aside0.mk (blk_below (g := gb160) (o := .cells #[.int .i64 a1_0, .slice A1_1 l1_1.length c1_1] 45 (0, 0)) (bvK BK160.out) hb); have n3_ := Aside0.mk (KeepBut.trans (by repeat (first | (with_reducible first | exact HK.out | apply KeepBut.set_ | apply keep_drewN | apply keep_drew | apply keep_alloc | refine keep_far ?_ GW160.out _) | exact HK.out)) (KeepBut.of_below hb g none) (.inl rfl)); have n4_ := Aside0.mk (below_step (by repeat (first | (with_reducible first | exact HB.out | apply bwA | apply bwN | apply bwD | refine below_set ?_ (IsS106.ge HI0.out) | refine below_set ?_ GE160.out) | exact HB.out)) hb); clear HI0; clear BK160; clear HK; clear HB; have HO166 := n0_; have HI0 := n1_; have BK160 := n2_; have HK := n3_; have HB := n4_; clear n0_ n1_ n2_ n3_ n4_; clear hb ho13; obtain ⟨Ao14, co14, eo14⟩ := Kd.R_slice HO166.out; subst eo14) | ((with_reducible refine gate_callee (f := 51) rfl ?_); refine goesL_ (some 15) rfl rfl Try.func51 (by kernel_rfl) rfl #[.pointer (some ⟨g, 0, none⟩), .slice Ao14 y164.length co14] rfl lmB ?_; (with_reducible refine (spec_l40Rd_num.calls k g s0_0 t163 _ _ y164 t167 t168 w0 _ ?side1 ?side2 ?side3 ?side4 ?side5 A6.out).mono ?_); (case side1 => repeat (first | (with_reducible first | exact HI0.out | apply IsS106.alloc | apply IsS106.drewN | apply IsS106.drew | apply IsS106.set_1 | refine IsS106.far ?_ NB0_160.out _) | exact HI0.out)); (case side2 => repeat (first | (with_reducible first | exact HB.out | apply bwA | apply bwN | apply bwD | refine below_set ?_ (IsS106.ge HI0.out) | refine below_set ?_ GE160.out) | exact HB.out)); (case side3 => repeat (first | exact (Kd.R_reads' HO166.out).2.2 | (with_reducible refine Kd.C_alloc ?_ _) | (with_reducible refine Kd.C_drewN ?_ _) | (with_reducible refine Kd.C_drew ?_))); (case side4 => exact (Kd.R_reads' HO166.out).2.1); (case side5 => exact far_slice (IsS106.own_ne HI0.out HO166.out (by decide))); rintro e w15 ⟨rfl, hi, hb, hk⟩; refine ⟨_, rfl, ?_⟩; have n0_ := Aside0.mk (KeepBut.blk hk (g' := gb160) (o := .cells #[.int .i64 a1_0, .slice A1_1 l1_1.length c1_1] 45 (0, 0)) (bvK BK160.out) NB160_0.out (by simp)); have n1_ := Aside0.mk (Kd.R_mono (Kd.R_keep (IsS106.apart (show IsS106 w0 _ g s0_0 t163 from by repeat (first | (with_reducible first | exact HI0.out | apply IsS106.alloc | apply IsS106.drewN | apply IsS106.drew | apply IsS106.set_1 | refine IsS106.far ?_ NB0_160.out _) | exact HI0.out)) (rvR HO166.out) (by decide)) hk (fun _ h => h.2)) (fun _ h => h.1)); have n2_ := Aside0.mk (KeepBut.trans (by repeat (first | (with_reducible first | exact HK.out | apply KeepBut.set_ | apply keep_drewN | apply keep_drew | apply keep_alloc | refine keep_far ?_ GW160.out _) | exact HK.out)) hk (.inl rfl)); have n3_ := Aside0.mk (hb); have n4_ := Aside0.mk (hi); clear BK160; clear HO166; clear HK; clear HB; clear HI0; have BK160 := n0_; have HO166 := n1_; have HK := n2_; have HB := n3_; have HI0 := n4_; clear n0_ n1_ n2_ n3_ n4_; (try clear hb); (try clear hb2); (try clear hk); (try clear hi)))
  go_ret
  exact ⟨ers, by repeat (first | (with_reducible first | exact HI0.out | apply IsS106.alloc | apply IsS106.drewN | apply IsS106.drew | apply IsS106.set_1 | refine IsS106.far ?_ NB0_160.out _) | exact HI0.out), by repeat (first | (with_reducible first | exact HB.out | apply bwA | apply bwN | apply bwD | refine below_set ?_ (IsS106.ge HI0.out) | refine below_set ?_ GE160.out) | exact HB.out), by repeat (first | (with_reducible first | exact HK.out | apply KeepBut.set_ | apply keep_drewN | apply keep_drew | apply keep_alloc | refine keep_far ?_ GW160.out _) | exact HK.out)⟩
 ·rw [if_neg c5] at H
  have c5b0 : (t162 == 0) = false := beq_eq_false_iff_ne.mpr c5
  have c5b1 : (t162 != 0) = true := bne_iff_ne.mpr c5
  replace H := Option.bind_eq_some_iff.mp H
  obtain ⟨⟨t169, t170⟩, A160, H⟩ := H
  replace H : (if t169 = 0 then ((spec_l40Rd_pick.f k s0_0 t170 4).bind fun bt171 => (some (wrap64 ((wrap64 ((wrap64 (2 * t161)) - 1)) - bt171.1), bt171.2))) else ((spec_l40Rd_pick.f k s0_0 t170 (wrap64 (2 * t161))).bind fun bt173 => (some (bt173.1, bt173.2)))) = some (r1, r2) := H
  have A16 := Aside0.mk A160
  clear A160
  by_cases c17 : t169 = 0
  ·rw [if_pos c17] at H
   have c17b0 : (t169 == 0) = true := beq_iff_eq.mpr c17
   have c17b1 : (t169 != 0) = false := bne_eq_false_iff_eq.mpr c17
   clear c17
   replace H := Option.bind_eq_some_iff.mp H
   obtain ⟨⟨t171, t172⟩, A180, H⟩ := H
   replace H : (some (wrap64 ((wrap64 ((wrap64 (2 * t161)) - 1)) - t171), t172)) = some (r1, r2) := H
   have A18 := Aside0.mk A180
   clear A180
   simp only [Option.some.injEq, Prod.mk.injEq] at H
   obtain ⟨rfl, rfl⟩ := H
   go_enter Try.func107, Try.ntmps107
   go_wp2_with (first | ((with_reducible refine gate_dst (N := 3) rfl ?_); refine box_event ?hg (N := 3) ?hd (cs := #[.int .i64 a1_0, .slice A1_1 l1_1.length c1_1]) (t := 45) ?hr ?_; (case hd => rfl); (case hg => rfl); (case hr => first | (go_simp; done) | (go_simp; rfl)); intro gb160 hg w19 hbox hb; have n0_ := Aside0.mk (IsS106.below (by repeat (first | (with_reducible first | exact HI0.out | apply IsS106.alloc | apply IsS106.drewN | apply IsS106.drew | apply IsS106.set_1) | exact HI0.out)) hb); have n1_ := Aside0.mk (KeepBut.trans (by repeat (first | (with_reducible first | exact HK.out | apply KeepBut.set_ | apply keep_drewN | apply keep_drew | apply keep_alloc) | exact HK.out)) (KeepBut.of_below hb g none) (.inl rfl)); have n2_ := Aside0.mk (below_step (by repeat (first | (with_reducible first | exact HB.out | apply bwA | apply bwN | apply bwD | refine below_set ?_ (IsS106.ge HI0.out)) | exact HB.out)) hb); have n3_ := Aside0.mk (hbox); have n4_ := Aside0.mk ((by rw [hg]; exact (keep_size (w := w) (g := g) (row := none) (by repeat (first | (with_reducible first | exact HK.out | apply KeepBut.set_ | apply keep_drewN | apply keep_drew | apply keep_alloc) | exact HK.out))) : w.heap.size ≤ gb160)); have n5_ := Aside0.mk ((Nat.le_trans HW0.out (by rw [hg]; exact (keep_size (w := w) (g := g) (row := none) (by repeat (first | (with_reducible first | exact HK.out | apply KeepBut.set_ | apply keep_drewN | apply keep_drew | apply keep_alloc) | exact HK.out))) : w.heap.size ≤ gb160) : w0.heap.size ≤ gb160)); have n6_ := Aside0.mk ((by rw [hg]; exact Nat.ne_of_lt (IsS106.lt (show IsS106 w0 _ g s0_0 s0_1 from by repeat (first | (with_reducible first | exact HI0.out | apply IsS106.alloc | apply IsS106.drewN | apply IsS106.drew | apply IsS106.set_1) | exact HI0.out))) : g ≠ gb160)); have n7_ := Aside0.mk ((by rw [hg]; exact Nat.ne_of_gt (IsS106.lt (show IsS106 w0 _ g s0_0 s0_1 from by repeat (first | (with_reducible first | exact HI0.out | apply IsS106.alloc | apply IsS106.drewN | apply IsS106.drew | apply IsS106.set_1) | exact HI0.out))) : gb160 ≠ g)); clear HI0; clear HK; clear HB; have HI0 := n0_; have HK := n1_; have HB := n2_; have BK160 := n3_; have GW160 := n4_; have GE160 := n5_; have NB0_160 := n6_; have NB160_0 := n7_; clear n0_ n1_ n2_ n3_ n4_ n5_ n6_ n7_; clear hb hbox hg; have hnb20 := NB160_0.out; have hnc20 := NB0_160.out; have hcz21_0 : w19.cell? ⟨gb160, 0, none⟩ = some (.int .i64 a1_0) := (blk_cell BK160.out 0).trans rfl; have hcz21_1 : w19.cell? ⟨gb160, 1, none⟩ = some (.slice A1_1 l1_1.length c1_1) := (blk_cell BK160.out 1).trans rfl; have hfz21_0 := blk_frozen BK160.out 0; have hfz21_1 := blk_frozen BK160.out 1) | ((with_reducible refine gate_callee (f := 110) rfl ?_); refine goesL_ (some 7) rfl rfl Try.func110 (by kernel_rfl) rfl #[.agg #[.int .i64 a1_0, .slice A1_1 l1_1.length c1_1]] rfl lmB ?_; (with_reducible refine (spec_l7Nodes.calls a1_0 _ _ l1_1 t161 _ ?side1 ?side2 A3.out).mono ?_); (case side1 => exact Kd.C_foot_now HR1_1.out (by repeat (first | (with_reducible first | exact HK.out | apply KeepBut.set_ | apply keep_drewN | apply keep_drew | apply keep_alloc | refine keep_far ?_ GW160.out _) | exact HK.out))); (case side2 => exact HC1_1.out); rintro e w22 ⟨rfl, hb⟩; refine ⟨_, rfl, ?_⟩; have n0_ := Aside0.mk (IsS106.below (by repeat (first | (with_reducible first | exact HI0.out | apply IsS106.alloc | apply IsS106.drewN | apply IsS106.drew | apply IsS106.set_1 | refine IsS106.far ?_ NB0_160.out _) | exact HI0.out)) hb); have n1_ := Aside0.mk (blk_below (g := gb160) (o := .cells #[.int .i64 a1_0, .slice A1_1 l1_1.length c1_1] 45 (0, 0)) (bvK BK160.out) hb); have n2_ := Aside0.mk (KeepBut.trans (by repeat (first | (with_reducible first | exact HK.out | apply KeepBut.set_ | apply keep_drewN | apply keep_drew | apply keep_alloc | refine keep_far ?_ GW160.out _) | exact HK.out)) (KeepBut.of_below hb g none) (.inl rfl)); have n3_ := Aside0.mk (below_step (by repeat (first | (with_reducible first | exact HB.out | apply bwA | apply bwN | apply bwD | refine below_set ?_ (IsS106.ge HI0.out) | refine below_set ?_ GE160.out) | exact HB.out)) hb); clear HI0; clear BK160; clear HK; clear HB; have HI0 := n0_; have BK160 := n1_; have HK := n2_; have HB := n3_; clear n0_ n1_ n2_ n3_; (try clear hb); (try clear hb2); (try clear hk); (try clear hi)) | ((with_reducible refine gate_callee (f := 49) rfl ?_); refine goesL_ (some 10) rfl rfl Try.func49 (by kernel_rfl) rfl #[.pointer (some ⟨g, 0, none⟩), .int .i64 15] rfl lmB ?_; (with_reducible refine (spec_l40Rd_pick.calls k g s0_0 s0_1 15 t162 t163 w0 _ ?side1 ?side2 A4.out).mono ?_); (case side1 => repeat (first | (with_reducible first | exact HI0.out | apply IsS106.alloc | apply IsS106.drewN | apply IsS106.drew | apply IsS106.set_1 | refine IsS106.far ?_ NB0_160.out _) | exact HI0.out)); (case side2 => repeat (first | (with_reducible first | exact HB.out | apply bwA | apply bwN | apply bwD | refine below_set ?_ (IsS106.ge HI0.out) | refine below_set ?_ GE160.out) | exact HB.out)); rintro e w23 ⟨rfl, hi, hb, hk⟩; refine ⟨_, rfl, ?_⟩; have n0_ := Aside0.mk (KeepBut.blk hk (g' := gb160) (o := .cells #[.int .i64 a1_0, .slice A1_1 l1_1.length c1_1] 45 (0, 0)) (bvK BK160.out) NB160_0.out (by simp)); have n1_ := Aside0.mk (KeepBut.trans (by repeat (first | (with_reducible first | exact HK.out | apply KeepBut.set_ | apply keep_drewN | apply keep_drew | apply keep_alloc | refine keep_far ?_ GW160.out _) | exact HK.out)) hk (.inl rfl)); have n2_ := Aside0.mk (hb); have n3_ := Aside0.mk (hi); clear BK160; clear HK; clear HB; clear HI0; have BK160 := n0_; have HK := n1_; have HB := n2_; have HI0 := n3_; clear n0_ n1_ n2_ n3_; (try clear hb); (try clear hb2); (try clear hk); (try clear hi)) | ((with_reducible refine gate_callee (f := 49) rfl ?_); refine goesL_ (some 17) rfl rfl Try.func49 (by kernel_rfl) rfl #[.pointer (some ⟨g, 0, none⟩), .int .i64 2] rfl lmB ?_; (with_reducible refine (spec_l40Rd_pick.calls k g s0_0 t163 2 t169 t170 w0 _ ?side1 ?side2 A16.out).mono ?_); (case side1 => repeat (first | (with_reducible first | exact HI0.out | apply IsS106.alloc | apply IsS106.drewN | apply IsS106.drew | apply IsS106.set_1 | refine IsS106.far ?_ NB0_160.out _) | exact HI0.out)); (case side2 => repeat (first | (with_reducible first | exact HB.out | apply bwA | apply bwN | apply bwD | refine below_set ?_ (IsS106.ge HI0.out) | refine below_set ?_ GE160.out) | exact HB.out)); rintro e w24 ⟨rfl, hi, hb, hk⟩; refine ⟨_, rfl, ?_⟩; have n0_ := Aside0.mk (KeepBut.blk hk (g' := gb160) (o := .cells #[.int .i64 a1_0, .slice A1_1 l1_1.length c1_1] 45 (0, 0)) (bvK BK160.out) NB160_0.out (by simp)); have n1_ := Aside0.mk (KeepBut.trans (by repeat (first | (with_reducible first | exact HK.out | apply KeepBut.set_ | apply keep_drewN | apply keep_drew | apply keep_alloc | refine keep_far ?_ GW160.out _) | exact HK.out)) hk (.inl rfl)); have n2_ := Aside0.mk (hb); have n3_ := Aside0.mk (hi); clear BK160; clear HK; clear HB; clear HI0; have BK160 := n0_; have HK := n1_; have HB := n2_; have HI0 := n3_; clear n0_ n1_ n2_ n3_; (try clear hb); (try clear hb2); (try clear hk); (try clear hi)) | ((with_reducible refine gate_callee (f := 49) rfl ?_); refine goesL_ (some 22) rfl rfl Try.func49 (by kernel_rfl) rfl #[.pointer (some ⟨g, 0, none⟩), .int .i64 4] rfl lmB ?_; (with_reducible refine (spec_l40Rd_pick.calls k g s0_0 t170 4 t171 t172 w0 _ ?side1 ?side2 A18.out).mono ?_); (case side1 => repeat (first | (with_reducible first | exact HI0.out | apply IsS106.alloc | apply IsS106.drewN | apply IsS106.drew | apply IsS106.set_1 | refine IsS106.far ?_ NB0_160.out _) | exact HI0.out)); (case side2 => repeat (first | (with_reducible first | exact HB.out | apply bwA | apply bwN | apply bwD | refine below_set ?_ (IsS106.ge HI0.out) | refine below_set ?_ GE160.out) | exact HB.out)); rintro e w25 ⟨rfl, hi, hb, hk⟩; refine ⟨_, rfl, ?_⟩; have n0_ := Aside0.mk (KeepBut.blk hk (g' := gb160) (o := .cells #[.int .i64 a1_0, .slice A1_1 l1_1.length c1_1] 45 (0, 0)) (bvK BK160.out) NB160_0.out (by simp)); have n1_ := Aside0.mk (KeepBut.trans (by repeat (first | (with_reducible first | exact HK.out | apply KeepBut.set_ | apply keep_drewN | apply keep_drew | apply keep_alloc | refine keep_far ?_ GW160.out _) | exact HK.out)) hk (.inl rfl)); have n2_ := Aside0.mk (hb); have n3_ := Aside0.mk (hi); clear BK160; clear HK; clear HB; clear HI0; have BK160 := n0_; have HK := n1_; have HB := n2_; have HI0 := n3_; clear n0_ n1_ n2_ n3_; (try clear hb); (try clear hb2); (try clear hk); (try clear hi)))
   go_ret
   exact ⟨ers, by repeat (first | (with_reducible first | exact HI0.out | apply IsS106.alloc | apply IsS106.drewN | apply IsS106.drew | apply IsS106.set_1 | refine IsS106.far ?_ NB0_160.out _) | exact HI0.out), by repeat (first | (with_reducible first | exact HB.out | apply bwA | apply bwN | apply bwD | refine below_set ?_ (IsS106.ge HI0.out) | refine below_set ?_ GE160.out) | exact HB.out), by repeat (first | (with_reducible first | exact HK.out | apply KeepBut.set_ | apply keep_drewN | apply keep_drew | apply keep_alloc | refine keep_far ?_ GW160.out _) | exact HK.out)⟩
  ·rw [if_neg c17] at H
   have c17b0 : (t169 == 0) = false := beq_eq_false_iff_ne.mpr c17
   have c17b1 : (t169 != 0) = true := bne_iff_ne.mpr c17
   replace H := Option.bind_eq_some_iff.mp H
   obtain ⟨⟨t173, t174⟩, A260, H⟩ := H
   replace H : (some (t173, t174)) = some (r1, r2) := H
   have A26 := Aside0.mk A260
   clear A260
   simp only [Option.some.injEq, Prod.mk.injEq] at H
   obtain ⟨rfl, rfl⟩ := H
   go_enter Try.func107, Try.ntmps107
   go_wp2_with (first | ((with_reducible refine gate_dst (N := 3) rfl ?_); refine box_event ?hg (N := 3) ?hd (cs := #[.int .i64 a1_0, .slice A1_1 l1_1.length c1_1]) (t := 45) ?hr ?_; (case hd => rfl); (case hg => rfl); (case hr => first | (go_simp; done) | (go_simp; rfl)); intro gb160 hg w27 hbox hb; have n0_ := Aside0.mk (IsS106.below (by repeat (first | (with_reducible first | exact HI0.out | apply IsS106.alloc | apply IsS106.drewN | apply IsS106.drew | apply IsS106.set_1) | exact HI0.out)) hb); have n1_ := Aside0.mk (KeepBut.trans (by repeat (first | (with_reducible first | exact HK.out | apply KeepBut.set_ | apply keep_drewN | apply keep_drew | apply keep_alloc) | exact HK.out)) (KeepBut.of_below hb g none) (.inl rfl)); have n2_ := Aside0.mk (below_step (by repeat (first | (with_reducible first | exact HB.out | apply bwA | apply bwN | apply bwD | refine below_set ?_ (IsS106.ge HI0.out)) | exact HB.out)) hb); have n3_ := Aside0.mk (hbox); have n4_ := Aside0.mk ((by rw [hg]; exact (keep_size (w := w) (g := g) (row := none) (by repeat (first | (with_reducible first | exact HK.out | apply KeepBut.set_ | apply keep_drewN | apply keep_drew | apply keep_alloc) | exact HK.out))) : w.heap.size ≤ gb160)); have n5_ := Aside0.mk ((Nat.le_trans HW0.out (by rw [hg]; exact (keep_size (w := w) (g := g) (row := none) (by repeat (first | (with_reducible first | exact HK.out | apply KeepBut.set_ | apply keep_drewN | apply keep_drew | apply keep_alloc) | exact HK.out))) : w.heap.size ≤ gb160) : w0.heap.size ≤ gb160)); have n6_ := Aside0.mk ((by rw [hg]; exact Nat.ne_of_lt (IsS106.lt (show IsS106 w0 _ g s0_0 s0_1 from by repeat (first | (with_reducible first | exact HI0.out | apply IsS106.alloc | apply IsS106.drewN | apply IsS106.drew | apply IsS106.set_1) | exact HI0.out))) : g ≠ gb160)); have n7_ := Aside0.mk ((by rw [hg]; exact Nat.ne_of_gt (IsS106.lt (show IsS106 w0 _ g s0_0 s0_1 from by repeat (first | (with_reducible first | exact HI0.out | apply IsS106.alloc | apply IsS106.drewN | apply IsS106.drew | apply IsS106.set_1) | exact HI0.out))) : gb160 ≠ g)); clear HI0; clear HK; clear HB; have HI0 := n0_; have HK := n1_; have HB := n2_; have BK160 := n3_; have GW160 := n4_; have GE160 := n5_; have NB0_160 := n6_; have NB160_0 := n7_; clear n0_ n1_ n2_ n3_ n4_ n5_ n6_ n7_; clear hb hbox hg; have hnb28 := NB160_0.out; have hnc28 := NB0_160.out; have hcz29_0 : w27.cell? ⟨gb160, 0, none⟩ = some (.int .i64 a1_0) := (blk_cell BK160.out 0).trans rfl; have hcz29_1 : w27.cell? ⟨gb160, 1, none⟩ = some (.slice A1_1 l1_1.length c1_1) := (blk_cell BK160.out 1).trans rfl; have hfz29_0 := blk_frozen BK160.out 0; have hfz29_1 := blk_frozen BK160.out 1) | ((with_reducible refine gate_callee (f := 110) rfl ?_); refine goesL_ (some 7) rfl rfl Try.func110 (by kernel_rfl) rfl #[.agg #[.int .i64 a1_0, .slice A1_1 l1_1.length c1_1]] rfl lmB ?_; (with_reducible refine (spec_l7Nodes.calls a1_0 _ _ l1_1 t161 _ ?side1 ?side2 A3.out).mono ?_); (case side1 => exact Kd.C_foot_now HR1_1.out (by repeat (first | (with_reducible first | exact HK.out | apply KeepBut.set_ | apply keep_drewN | apply keep_drew | apply keep_alloc | refine keep_far ?_ GW160.out _) | exact HK.out))); (case side2 => exact HC1_1.out); rintro e w30 ⟨rfl, hb⟩; refine ⟨_, rfl, ?_⟩; have n0_ := Aside0.mk (IsS106.below (by repeat (first | (with_reducible first | exact HI0.out | apply IsS106.alloc | apply IsS106.drewN | apply IsS106.drew | apply IsS106.set_1 | refine IsS106.far ?_ NB0_160.out _) | exact HI0.out)) hb); have n1_ := Aside0.mk (blk_below (g := gb160) (o := .cells #[.int .i64 a1_0, .slice A1_1 l1_1.length c1_1] 45 (0, 0)) (bvK BK160.out) hb); have n2_ := Aside0.mk (KeepBut.trans (by repeat (first | (with_reducible first | exact HK.out | apply KeepBut.set_ | apply keep_drewN | apply keep_drew | apply keep_alloc | refine keep_far ?_ GW160.out _) | exact HK.out)) (KeepBut.of_below hb g none) (.inl rfl)); have n3_ := Aside0.mk (below_step (by repeat (first | (with_reducible first | exact HB.out | apply bwA | apply bwN | apply bwD | refine below_set ?_ (IsS106.ge HI0.out) | refine below_set ?_ GE160.out) | exact HB.out)) hb); clear HI0; clear BK160; clear HK; clear HB; have HI0 := n0_; have BK160 := n1_; have HK := n2_; have HB := n3_; clear n0_ n1_ n2_ n3_; (try clear hb); (try clear hb2); (try clear hk); (try clear hi)) | ((with_reducible refine gate_callee (f := 49) rfl ?_); refine goesL_ (some 10) rfl rfl Try.func49 (by kernel_rfl) rfl #[.pointer (some ⟨g, 0, none⟩), .int .i64 15] rfl lmB ?_; (with_reducible refine (spec_l40Rd_pick.calls k g s0_0 s0_1 15 t162 t163 w0 _ ?side1 ?side2 A4.out).mono ?_); (case side1 => repeat (first | (with_reducible first | exact HI0.out | apply IsS106.alloc | apply IsS106.drewN | apply IsS106.drew | apply IsS106.set_1 | refine IsS106.far ?_ NB0_160.out _) | exact HI0.out)); (case side2 => repeat (first | (with_reducible first | exact HB.out | apply bwA | apply bwN | apply bwD | refine below_set ?_ (IsS106.ge HI0.out) | refine below_set ?_ GE160.out) | exact HB.out)); rintro e w31 ⟨rfl, hi, hb, hk⟩; refine ⟨_, rfl, ?_⟩; have n0_ := Aside0.mk (KeepBut.blk hk (g' := gb160) (o := .cells #[.int .i64 a1_0, .slice A1_1 l1_1.length c1_1] 45 (0, 0)) (bvK BK160.out) NB160_0.out (by simp)); have n1_ := Aside0.mk (KeepBut.trans (by repeat (first | (with_reducible first | exact HK.out | apply KeepBut.set_ | apply keep_drewN | apply keep_drew | apply keep_alloc | refine keep_far ?_ GW160.out _) | exact HK.out)) hk (.inl rfl)); have n2_ := Aside0.mk (hb); have n3_ := Aside0.mk (hi); clear BK160; clear HK; clear HB; clear HI0; have BK160 := n0_; have HK := n1_; have HB := n2_; have HI0 := n3_; clear n0_ n1_ n2_ n3_; (try clear hb); (try clear hb2); (try clear hk); (try clear hi)) | ((with_reducible refine gate_callee (f := 49) rfl ?_); refine goesL_ (some 17) rfl rfl Try.func49 (by kernel_rfl) rfl #[.pointer (some ⟨g, 0, none⟩), .int .i64 2] rfl lmB ?_; (with_reducible refine (spec_l40Rd_pick.calls k g s0_0 t163 2 t169 t170 w0 _ ?side1 ?side2 A16.out).mono ?_); (case side1 => repeat (first | (with_reducible first | exact HI0.out | apply IsS106.alloc | apply IsS106.drewN | apply IsS106.drew | apply IsS106.set_1 | refine IsS106.far ?_ NB0_160.out _) | exact HI0.out)); (case side2 => repeat (first | (with_reducible first | exact HB.out | apply bwA | apply bwN | apply bwD | refine below_set ?_ (IsS106.ge HI0.out) | refine below_set ?_ GE160.out) | exact HB.out)); rintro e w32 ⟨rfl, hi, hb, hk⟩; refine ⟨_, rfl, ?_⟩; have n0_ := Aside0.mk (KeepBut.blk hk (g' := gb160) (o := .cells #[.int .i64 a1_0, .slice A1_1 l1_1.length c1_1] 45 (0, 0)) (bvK BK160.out) NB160_0.out (by simp)); have n1_ := Aside0.mk (KeepBut.trans (by repeat (first | (with_reducible first | exact HK.out | apply KeepBut.set_ | apply keep_drewN | apply keep_drew | apply keep_alloc | refine keep_far ?_ GW160.out _) | exact HK.out)) hk (.inl rfl)); have n2_ := Aside0.mk (hb); have n3_ := Aside0.mk (hi); clear BK160; clear HK; clear HB; clear HI0; have BK160 := n0_; have HK := n1_; have HB := n2_; have HI0 := n3_; clear n0_ n1_ n2_ n3_; (try clear hb); (try clear hb2); (try clear hk); (try clear hi)) | ((with_reducible refine gate_callee (f := 49) rfl ?_); refine goesL_ (some 26) rfl rfl Try.func49 (by kernel_rfl) rfl #[.pointer (some ⟨g, 0, none⟩), .int .i64 (wrap64 (2 * t161))] rfl lmB ?_; (with_reducible refine (spec_l40Rd_pick.calls k g s0_0 t170 (wrap64 (2 * t161)) t173 t174 w0 _ ?side1 ?side2 A26.out).mono ?_); (case side1 => repeat (first | (with_reducible first | exact HI0.out | apply IsS106.alloc | apply IsS106.drewN | apply IsS106.drew | apply IsS106.set_1 | refine IsS106.far ?_ NB0_160.out _) | exact HI0.out)); (case side2 => repeat (first | (with_reducible first | exact HB.out | apply bwA | apply bwN | apply bwD | refine below_set ?_ (IsS106.ge HI0.out) | refine below_set ?_ GE160.out) | exact HB.out)); rintro e w33 ⟨rfl, hi, hb, hk⟩; refine ⟨_, rfl, ?_⟩; have n0_ := Aside0.mk (KeepBut.blk hk (g' := gb160) (o := .cells #[.int .i64 a1_0, .slice A1_1 l1_1.length c1_1] 45 (0, 0)) (bvK BK160.out) NB160_0.out (by simp)); have n1_ := Aside0.mk (KeepBut.trans (by repeat (first | (with_reducible first | exact HK.out | apply KeepBut.set_ | apply keep_drewN | apply keep_drew | apply keep_alloc | refine keep_far ?_ GW160.out _) | exact HK.out)) hk (.inl rfl)); have n2_ := Aside0.mk (hb); have n3_ := Aside0.mk (hi); clear BK160; clear HK; clear HB; clear HI0; have BK160 := n0_; have HK := n1_; have HB := n2_; have HI0 := n3_; clear n0_ n1_ n2_ n3_; (try clear hb); (try clear hb2); (try clear hk); (try clear hi)))
   go_ret
   exact ⟨ers, by repeat (first | (with_reducible first | exact HI0.out | apply IsS106.alloc | apply IsS106.drewN | apply IsS106.drew | apply IsS106.set_1 | refine IsS106.far ?_ NB0_160.out _) | exact HI0.out), by repeat (first | (with_reducible first | exact HB.out | apply bwA | apply bwN | apply bwD | refine below_set ?_ (IsS106.ge HI0.out) | refine below_set ?_ GE160.out) | exact HB.out), by repeat (first | (with_reducible first | exact HK.out | apply KeepBut.set_ | apply keep_drewN | apply keep_drew | apply keep_alloc | refine keep_far ?_ GW160.out _) | exact HK.out)⟩

/-! ### spec_DrawNeedsInputs: function 74 -/
def spec_DrawNeedsInputs.f (k : Nat) (l0 : List Int) : Option (Int × (List (S121)) × Int) := (spec_l40Open.f l0).bind fun bt176 => ((spec_l7Any.f k bt176.1 bt176.2 5).bind fun bt179 => ((spec_l7Some.f k bt176.1 bt179.2.2 bt179.1 bt179.2.1).bind fun bt185 => (some (bt179.1, bt179.2.1, bt185.1))))
theorem spec_DrawNeedsInputs.mono : ∀ a0 k, LeO (spec_DrawNeedsInputs.f k a0) (spec_DrawNeedsInputs.f (k + 1) a0) := by
 intro a0 k
 unfold spec_DrawNeedsInputs.f
 repeat' first
   | (with_reducible exact spec_l7Any.mono _ _ _ _)
   | (with_reducible exact spec_l7Some.mono _ _ _ _ _)
   | (with_reducible exact LeO.refl _)
   | (with_reducible exact LeO.none _)
   | (with_reducible refine LeO.ite ?_ ?_)
   | (with_reducible refine LeO.bind ?_ (fun _ => ?_))
   | exact spec_l7Any.mono _ _ _ _
   | exact spec_l7Some.mono _ _ _ _ _
   | exact LeO.none _
   | refine LeO.ite ?_ ?_
   | refine LeO.bind ?_ (fun _ => ?_)
set_option maxHeartbeats 8000000 in
set_option maxRecDepth 100000 in
theorem spec_DrawNeedsInputs.calls (k : Nat) (A0 : Option Addr) (c0 : Nat) (l0 : List Int) (r1 : Int) (r2 : List (S121)) (r3 : Int) (w : World) (hr0 : Kd.C (Kd.int .u8) w A0 l0.length l0) (hc0 : l0.length ≤ c0) (h : spec_DrawNeedsInputs.f k l0 = some (r1, r2, r3)) :
  Calls Try.prog 74 #[.slice A0 l0.length c0] w fun e w' => ∃ v1_ : Value, e = .returned (.tuple #[.agg #[.int .i64 r1, v1_], .int .i64 r3]) ∧ Kd.R k121 121 w' w.heap.size (fun _ => True) v1_ r2 ∧ Below w.heap.size w w' := by
 have hu45 := Try.underlying45
 have HR0 := Aside0.mk hr0
 have HC0 := Aside0.mk hc0
 clear hr0 hc0
 have HB := Aside0.mk (Below.refl w.heap.size w)
 have H : ((spec_l40Open.f l0).bind fun bt176 => ((spec_l7Any.f k bt176.1 bt176.2 5).bind fun bt179 => ((spec_l7Some.f k bt176.1 bt179.2.2 bt179.1 bt179.2.1).bind fun bt185 => (some (bt179.1, bt179.2.1, bt185.1))))) = some (r1, r2, r3) := h
 clear h
 replace H := Option.bind_eq_some_iff.mp H
 obtain ⟨⟨t176, t177⟩, A20, H⟩ := H
 replace H : ((spec_l7Any.f k t176 t177 5).bind fun bt179 => ((spec_l7Some.f k t176 bt179.2.2 bt179.1 bt179.2.1).bind fun bt185 => (some (bt179.1, bt179.2.1, bt185.1)))) = some (r1, r2, r3) := H
 have A2 := Aside0.mk A20
 clear A20
 replace H := Option.bind_eq_some_iff.mp H
 obtain ⟨⟨t179, t180, t183⟩, A30, H⟩ := H
 replace H : ((spec_l7Some.f k t176 t183 t179 t180).bind fun bt185 => (some (t179, t180, bt185.1))) = some (r1, r2, r3) := H
 have A3 := Aside0.mk A30
 clear A30
 replace H := Option.bind_eq_some_iff.mp H
 obtain ⟨⟨t185, t186⟩, A40, H⟩ := H
 replace H : (some (t179, t180, t185)) = some (r1, r2, r3) := H
 have A4 := Aside0.mk A40
 clear A40
 simp only [Option.some.injEq, Prod.mk.injEq] at H
 obtain ⟨rfl, rfl, rfl⟩ := H
 go_enter Try.func74, Try.ntmps74
 try go_wp2_with (first | ((with_reducible refine gate_dst (N := 2) rfl ?_); refine box_event ?hg (N := 2) ?hd (cs := #[.int .i64 0, .slice none 0 0]) (t := 45) ?hr ?_; (case hd => rfl); (case hg => rfl); (case hr => first | (go_simp; done) | (go_simp; rfl)); intro gb175 hg w5 hbox hb; have n0_ := Aside0.mk (below_step (by repeat (first | (with_reducible first | exact HB.out | apply bwA | apply bwN | apply bwD) | exact HB.out)) hb); have n1_ := Aside0.mk (hbox); have n2_ := Aside0.mk ((by rw [hg]; exact (below_size (by repeat (first | (with_reducible first | exact HB.out | apply bwA | apply bwN | apply bwD) | exact HB.out))) : w.heap.size ≤ gb175)); have n3_ := Aside0.mk ((by rw [hg]; exact (below_size (by repeat (first | (with_reducible first | exact HB.out | apply bwA | apply bwN | apply bwD) | exact HB.out))) : w.heap.size ≤ gb175)); clear HB; have HB := n0_; have BK175 := n1_; have GW175 := n2_; have GE175 := n3_; clear n0_ n1_ n2_ n3_; clear hb hbox hg) | ((with_reducible refine gate_callee (f := 47) rfl ?_); refine goesL_ (some 7) rfl rfl Try.func47 (by kernel_rfl) rfl #[.slice A0 l0.length c0] rfl lmB ?_; (with_reducible refine (spec_l40Open.calls _ _ l0 t176 t177 w _ ?side1 ?side2 ?side3 A2.out).mono ?_); (case side1 => repeat (first | (with_reducible first | exact HB.out | apply bwA | apply bwN | apply bwD | refine below_set ?_ GE175.out) | exact HB.out)); (case side2 => exact HR0.out); (case side3 => exact HC0.out); rintro e w6 ⟨g178, rfl, hi, hb, hb2⟩; refine ⟨_, rfl, ?_⟩; have n0_ := Aside0.mk (blk_below (g := gb175) (o := .cells #[.int .i64 0, .slice none 0 0] 45 (0, 0)) (bvK BK175.out) hb2); have n1_ := Aside0.mk (hb); have n2_ := Aside0.mk (hi); have n3_ := Aside0.mk (IsS106.ne_blk hi (blk_below (g := gb175) (o := .cells #[.int .i64 0, .slice none 0 0] 45 (0, 0)) (bvK BK175.out) hb2) (by decide)); have n4_ := Aside0.mk (Ne.symm (IsS106.ne_blk hi (blk_below (g := gb175) (o := .cells #[.int .i64 0, .slice none 0 0] 45 (0, 0)) (bvK BK175.out) hb2) (by decide))); clear BK175; clear HB; have BK175 := n0_; have HB := n1_; have HI178 := n2_; have NB178_175 := n3_; have NB175_178 := n4_; clear n0_ n1_ n2_ n3_ n4_; (try clear hb); (try clear hb2); (try clear hk); (try clear hi)) | ((with_reducible refine gate_callee (f := 106) rfl ?_); refine goesL_ (some 9) rfl rfl Try.func106 (by kernel_rfl) rfl #[.pointer (some ⟨g178, 0, none⟩), .int .i64 5] rfl lmB ?_; (with_reducible refine (spec_l7Any.calls k g178 t176 t177 5 t179 t180 t183 w _ ?side1 ?side2 A3.out).mono ?_); (case side1 => repeat (first | (with_reducible first | exact HI178.out | apply IsS106.alloc | apply IsS106.drewN | apply IsS106.drew | apply IsS106.set_1 | refine IsS106.far ?_ NB178_175.out _) | exact HI178.out)); (case side2 => repeat (first | (with_reducible first | exact HB.out | apply bwA | apply bwN | apply bwD | refine below_set ?_ (IsS106.ge HI178.out) | refine below_set ?_ GE175.out) | exact HB.out)); rintro e w7 ⟨v181, rfl, ho0, hi, hb, hk⟩; refine ⟨_, rfl, ?_⟩; have n0_ := Aside0.mk (KeepBut.blk hk (g' := gb175) (o := .cells #[.int .i64 0, .slice none 0 0] 45 (0, 0)) (bvK BK175.out) NB175_178.out (by simp)); have n1_ := Aside0.mk (Kd.R_lower ho0 (below_size (by repeat (first | (with_reducible first | exact HB.out | apply bwA | apply bwN | apply bwD | refine below_set ?_ (IsS106.ge HI178.out) | refine below_set ?_ GE175.out) | exact HB.out)))); have n2_ := Aside0.mk (hb); have n3_ := Aside0.mk (hi); clear BK175; clear HB; clear HI178; have BK175 := n0_; have HO182 := n1_; have HB := n2_; have HI178 := n3_; clear n0_ n1_ n2_ n3_; (try clear hb); (try clear hb2); (try clear hk); (try clear hi); (try clear ho0)) | ((with_reducible refine gate_dst (N := 5) rfl ?_); refine box_event ?hg (N := 5) ?hd (cs := #[.int .i64 0, .slice none 0 0]) (t := 45) ?hr ?_; (case hd => rfl); (case hg => rfl); (case hr => first | (go_simp; done) | (go_simp; rfl)); intro gb184 hg w8 hbox hb; have n0_ := Aside0.mk (Kd.R_below (rvR HO182.out) hb); have n1_ := Aside0.mk (blk_below (g := gb175) (o := .cells #[.int .i64 0, .slice none 0 0] 45 (0, 0)) (bvK BK175.out) hb); have n2_ := Aside0.mk (IsS106.below (by repeat (first | (with_reducible first | exact HI178.out | apply IsS106.alloc | apply IsS106.drewN | apply IsS106.drew | apply IsS106.set_1 | refine IsS106.far ?_ NB178_175.out _) | exact HI178.out)) hb); have n3_ := Aside0.mk (below_step (by repeat (first | (with_reducible first | exact HB.out | apply bwA | apply bwN | apply bwD | refine below_set ?_ (IsS106.ge HI178.out) | refine below_set ?_ GE175.out) | exact HB.out)) hb); have n4_ := Aside0.mk (hbox); have n5_ := Aside0.mk ((by rw [hg]; exact (below_size (by repeat (first | (with_reducible first | exact HB.out | apply bwA | apply bwN | apply bwD | refine below_set ?_ (IsS106.ge HI178.out) | refine below_set ?_ GE175.out) | exact HB.out))) : w.heap.size ≤ gb184)); have n6_ := Aside0.mk ((by rw [hg]; exact (below_size (by repeat (first | (with_reducible first | exact HB.out | apply bwA | apply bwN | apply bwD | refine below_set ?_ (IsS106.ge HI178.out) | refine below_set ?_ GE175.out) | exact HB.out))) : w.heap.size ≤ gb184)); have n7_ := Aside0.mk ((by rw [hg]; exact Nat.ne_of_lt (blk_lt (g := gb175) (o := .cells #[.int .i64 0, .slice none 0 0] 45 (0, 0)) (bvK BK175.out)) : gb175 ≠ gb184)); have n8_ := Aside0.mk ((by rw [hg]; exact Nat.ne_of_gt (blk_lt (g := gb175) (o := .cells #[.int .i64 0, .slice none 0 0] 45 (0, 0)) (bvK BK175.out)) : gb184 ≠ gb175)); have n9_ := Aside0.mk ((by rw [hg]; exact Nat.ne_of_lt (IsS106.lt (show IsS106 w _ g178 t176 t183 from by repeat (first | (with_reducible first | exact HI178.out | apply IsS106.alloc | apply IsS106.drewN | apply IsS106.drew | apply IsS106.set_1 | refine IsS106.far ?_ NB178_175.out _) | exact HI178.out))) : g178 ≠ gb184)); have n10_ := Aside0.mk ((by rw [hg]; exact Nat.ne_of_gt (IsS106.lt (show IsS106 w _ g178 t176 t183 from by repeat (first | (with_reducible first | exact HI178.out | apply IsS106.alloc | apply IsS106.drewN | apply IsS106.drew | apply IsS106.set_1 | refine IsS106.far ?_ NB178_175.out _) | exact HI178.out))) : gb184 ≠ g178)); clear HO182; clear BK175; clear HI178; clear HB; have HO182 := n0_; have BK175 := n1_; have HI178 := n2_; have HB := n3_; have BK184 := n4_; have GW184 := n5_; have GE184 := n6_; have NB175_184 := n7_; have NB184_175 := n8_; have NB178_184 := n9_; have NB184_178 := n10_; clear n0_ n1_ n2_ n3_ n4_ n5_ n6_ n7_ n8_ n9_ n10_; clear hb hbox hg; have hnb9 := NB184_175.out; have hnc9 := NB175_184.out; have hnb10 := NB184_178.out; have hnc10 := NB178_184.out; have hcz11_0 : w8.cell? ⟨gb184, 0, none⟩ = some (.int .i64 0) := (blk_cell BK184.out 0).trans rfl; have hcz11_1 : w8.cell? ⟨gb184, 1, none⟩ = some (.slice none 0 0) := (blk_cell BK184.out 1).trans rfl; have hfz11_0 := blk_frozen BK184.out 0; have hfz11_1 := blk_frozen BK184.out 1; obtain ⟨Ao12, co12, eo12⟩ := Kd.R_slice HO182.out; subst eo12))
 have n0_ : Aside0 (Kd.R k121 121 ((w8.setCell ⟨gb184, 0, none⟩ (.int .i64 t179)).setCell ⟨gb184, 1, none⟩ (.slice Ao12 t180.length co12)) w.heap.size (fun _ => True) (.slice Ao12 t180.length co12) t180) := ⟨by (with_reducible repeat (first | apply Kd.R_alloc | apply Kd.R_drewN | apply Kd.R_drew)); exact Kd.R_mono (Kd.R_far (p := ⟨gb184, 1, none⟩) (Kd.R_far (p := ⟨gb184, 0, none⟩) (Kd.R_types HO182.out BK184.out (by decide)) (fun _ hk => hk.2) (.int .i64 t179)) (fun _ hk => hk.2) (.slice Ao12 t180.length co12)) (fun _ hk => trivial)⟩
 have n1_ : Aside0 (((w8.setCell ⟨gb184, 0, none⟩ (.int .i64 t179)).setCell ⟨gb184, 1, none⟩ (.slice Ao12 t180.length co12)).heap[gb175]? = some (.cells #[.int .i64 0, .slice none 0 0] 45 (0, 0))) := ⟨by (with_reducible repeat (first | refine blk_drewN ?_ _ | refine blk_drew ?_ | refine blk_alloc ?_ _)); refine blk_far ?_ NB175_184.out _; (with_reducible repeat (first | refine blk_drewN ?_ _ | refine blk_drew ?_ | refine blk_alloc ?_ _)); refine blk_far ?_ NB175_184.out _; (with_reducible repeat (first | refine blk_drewN ?_ _ | refine blk_drew ?_ | refine blk_alloc ?_ _)); exact BK175.out⟩
 have n2_ : Aside0 (((w8.setCell ⟨gb184, 0, none⟩ (.int .i64 t179)).setCell ⟨gb184, 1, none⟩ (.slice Ao12 t180.length co12)).heap[gb184]? = some (.cells #[.int .i64 t179, .slice Ao12 t180.length co12] 45 (0, 0))) := ⟨by (with_reducible repeat (first | refine blk_drewN ?_ _ | refine blk_drew ?_ | refine blk_alloc ?_ _)); refine blk_put (cs := #[.int .i64 t179, .slice none 0 0]) ?_ 1 _ rfl; (with_reducible repeat (first | refine blk_drewN ?_ _ | refine blk_drew ?_ | refine blk_alloc ?_ _)); refine blk_put (cs := #[.int .i64 0, .slice none 0 0]) ?_ 0 _ rfl; (with_reducible repeat (first | refine blk_drewN ?_ _ | refine blk_drew ?_ | refine blk_alloc ?_ _)); exact BK184.out⟩
 have n3_ : Aside0 (IsS106 w ((w8.setCell ⟨gb184, 0, none⟩ (.int .i64 t179)).setCell ⟨gb184, 1, none⟩ (.slice Ao12 t180.length co12)) g178 t176 t183) := ⟨by repeat (first | (with_reducible first | exact HI178.out | apply IsS106.alloc | apply IsS106.drewN | apply IsS106.drew | apply IsS106.set_1 | refine IsS106.far ?_ NB178_175.out _ | refine IsS106.far ?_ NB178_184.out _) | exact HI178.out)⟩
 have n4_ : Aside0 (Below w.heap.size w ((w8.setCell ⟨gb184, 0, none⟩ (.int .i64 t179)).setCell ⟨gb184, 1, none⟩ (.slice Ao12 t180.length co12))) := ⟨by repeat (first | (with_reducible first | exact HB.out | apply bwA | apply bwN | apply bwD | refine below_set ?_ (IsS106.ge HI178.out) | refine below_set ?_ GE175.out | refine below_set ?_ GE184.out) | exact HB.out)⟩
 (try clear HO182)
 (try clear BK175)
 (try clear BK184)
 (try clear HI178)
 (try clear HB)
 generalize ((w8.setCell ⟨gb184, 0, none⟩ (.int .i64 t179)).setCell ⟨gb184, 1, none⟩ (.slice Ao12 t180.length co12)) = w13 at n0_ n1_ n2_ n3_ n4_ ⊢
 have HO182 := n0_
 have BK175 := n1_
 have BK184 := n2_
 have HI178 := n3_
 have HB := n4_
 clear n0_ n1_ n2_ n3_ n4_
 have n0_ := Aside0.mk (Kd.R_drew HO182.out)
 have n1_ := Aside0.mk (blk_drew BK175.out)
 have n2_ := Aside0.mk (blk_drew BK184.out)
 have n3_ := Aside0.mk (IsS106.drew HI178.out)
 have n4_ := Aside0.mk (below_drew1 HB.out)
 clear HO182
 clear BK175
 clear BK184
 clear HI178
 clear HB
 have HO182 := n0_
 have BK175 := n1_
 have BK184 := n2_
 have HI178 := n3_
 have HB := n4_
 clear n0_ n1_ n2_ n3_ n4_
 refine start_ (n := 6) (S := fun w' => w'.cell? ⟨gb184, 0, none⟩ = some (.int .i64 t179) ∧ w'.cell? ⟨gb184, 1, none⟩ = some (.slice Ao12 t180.length co12)) (ds := []) (Pt.bm 6 0) (by kernel_rfl) rfl rfl ⟨(blk_cell BK184.out 0).trans rfl, (blk_cell BK184.out 1).trans rfl⟩ (fun hHeld => ?_)
 generalize w13.drew = w14 at HO182 BK175 BK184 HI178 HB hHeld ⊢
 refine Pt.pu 1 (some 11) (Pt.bm 6 2) (by kernel_rfl) ?_
 refine Pt.tk 0 (some 10) (Pt.bm 6 3) rfl rfl (by kernel_rfl) hHeld (Or.inl ⟨by rfl, by rintro w' ⟨s0, s1⟩; go_simp; with_reducible rfl⟩) ?_
 refine Pt.tk 2 (some 12) (Pt.bm 6 7) rfl rfl (by kernel_rfl) hHeld (Or.inl ⟨by rfl, by rintro w' ⟨s0, s1⟩; go_simp; with_reducible rfl⟩) ?_
 refine one_ (i := 3) (N := some 13) (Pt.bm 6 15) rfl rfl (by kernel_rfl) (by decide) (fun K hK => ?_)
 refine goes_ Try.func107 (by kernel_rfl) rfl #[.pointer (some ⟨g178, 0, none⟩), .agg #[.int .i64 t179, .slice Ao12 t180.length co12]] (by rfl) rfl rfl lmB ?_
 with_reducible refine (spec_l7Some.calls k g178 t176 t183 t179 _ _ t180 t185 t186 w _ ?side1 ?side2 ?side3 ?side4 A4.out).mono ?_
 (case side1 => repeat (first | (with_reducible first | exact HI178.out | apply IsS106.alloc | apply IsS106.drewN | apply IsS106.drew | apply IsS106.set_1 | refine IsS106.far ?_ NB178_175.out _ | refine IsS106.far ?_ NB178_184.out _) | exact HI178.out))
 (case side2 => repeat (first | (with_reducible first | exact HB.out | apply bwA | apply bwN | apply bwD | refine below_set ?_ (IsS106.ge HI178.out) | refine below_set ?_ GE175.out | refine below_set ?_ GE184.out) | exact HB.out))
 (case side3 => exact Kd.C_foot_own (IsS106.apart (show IsS106 w _ g178 t176 t183 from by repeat (first | (with_reducible first | exact HI178.out | apply IsS106.alloc | apply IsS106.drewN | apply IsS106.drew | apply IsS106.set_1 | refine IsS106.far ?_ NB178_175.out _ | refine IsS106.far ?_ NB178_184.out _) | exact HI178.out)) (rvR HO182.out) (by decide)) (fun _ h_ => h_.2))
 (case side4 => exact (Kd.R_reads' HO182.out).2.1)
 rintro e w15 ⟨rfl, hi, hb, hk⟩
 refine ⟨_, rfl, ?_⟩
 have n0_ := Aside0.mk (KeepBut.blk hk (g' := gb175) (o := .cells #[.int .i64 0, .slice none 0 0] 45 (0, 0)) (bvK BK175.out) NB175_178.out (by simp))
 have n1_ := Aside0.mk (Kd.R_mono (Kd.R_keep (IsS106.apart (show IsS106 w _ g178 t176 t183 from by repeat (first | (with_reducible first | exact HI178.out | apply IsS106.alloc | apply IsS106.drewN | apply IsS106.drew | apply IsS106.set_1 | refine IsS106.far ?_ NB178_175.out _ | refine IsS106.far ?_ NB178_184.out _) | exact HI178.out)) (rvR HO182.out) (by decide)) hk (fun _ h => h.2)) (fun _ h => h.1))
 have n2_ := Aside0.mk (KeepBut.blk hk (g' := gb184) (o := .cells #[.int .i64 t179, .slice Ao12 t180.length co12] 45 (0, 0)) (bvK BK184.out) NB184_178.out (by simp))
 have n3_ := Aside0.mk (hb)
 have n4_ := Aside0.mk (hi)
 clear BK175
 clear HO182
 clear BK184
 clear HB
 clear HI178
 have BK175 := n0_
 have HO182 := n1_
 have BK184 := n2_
 have HB := n3_
 have HI178 := n4_
 clear n0_ n1_ n2_ n3_ n4_
 (try clear hb)
 (try clear hb2)
 (try clear hk)
 (try clear hi)
 refine hK.out _ _ ⟨(blk_cell BK184.out 0).trans rfl, (blk_cell BK184.out 1).trans rfl⟩ (fun hHeld => ?_)
 clear hK K
 refine norm_ (a' := ?_) ?_ ?_
 rotate_left
 ·show Act.put _ (some 13) _ = _
  simp only [Act.put, List.setIfInBounds_toArray, List.set_cons_zero, List.set_cons_succ, i64_w, i32_w]
  rfl
 refine one_ (i := 4) (N := none) (Pt.bm 6 31) rfl rfl (by kernel_rfl) (by decide) (fun K hK => ?_)
 have hs16 : w15.cell? ⟨gb175, 0, none⟩ = some (.int .i64 0) := (blk_cell BK175.out 0).trans rfl
 have hfs16 := blk_frozen BK175.out 0
 have hns16_1 := NB184_175.out
 have hms16_1 := NB175_184.out
 have hs17 : w15.cell? ⟨gb175, 1, none⟩ = some (.slice none 0 0) := (blk_cell BK175.out 1).trans rfl
 have hfs17 := blk_frozen BK175.out 1
 have hns17_1 := NB184_175.out
 have hms17_1 := NB175_184.out
 refine skip_ (w1 := ?_) (by rfl) rfl ?_ ?_
 rotate_left
 ·go_simp
  rfl
 refine hK.out _ _ ⟨((cell_far (p := ⟨gb175, _, none⟩) NB184_175.out _).trans (((cell_far (p := ⟨gb175, _, none⟩) NB184_175.out _).trans (hHeld.1)))), ((cell_far (p := ⟨gb175, _, none⟩) NB184_175.out _).trans (((cell_far (p := ⟨gb175, _, none⟩) NB184_175.out _).trans (hHeld.2))))⟩ (fun hHeld => ?_)
 clear hK K
 refine Pt.pu 5 (some 3) (Pt.bm 6 63) (by kernel_rfl) ?_
 refine done_ (by kernel_rfl) ?_
 try go_wp2
 refine bodyPost_ret (results_ct rfl _ _ gb175 45 #[.int .i64 t179, .slice Ao12 t180.length co12] (0, 0) _ rfl (by (with_reducible repeat (first | refine blk_drewN ?_ _ | refine blk_drew ?_ | refine blk_alloc ?_ _)); refine blk_put (cs := #[.int .i64 t179, .slice none 0 0]) ?_ 1 _ rfl; (with_reducible repeat (first | refine blk_drewN ?_ _ | refine blk_drew ?_ | refine blk_alloc ?_ _)); refine blk_put (cs := #[.int .i64 0, .slice none 0 0]) ?_ 0 _ rfl; (with_reducible repeat (first | refine blk_drewN ?_ _ | refine blk_drew ?_ | refine blk_alloc ?_ _)); exact BK175.out) Try.underlying45 rfl (by kernel_rfl)) rfl ?_
 exact ⟨_, ers, by (with_reducible repeat (first | apply Kd.R_alloc | apply Kd.R_drewN | apply Kd.R_drew)); exact Kd.R_mono (Kd.R_far (p := ⟨gb175, 1, none⟩) (Kd.R_far (p := ⟨gb175, 0, none⟩) (Kd.R_types HO182.out BK175.out (by decide)) (fun _ hk => hk.2) (.int .i64 t179)) (fun _ hk => hk.2) (.slice Ao12 t180.length co12)) (fun _ hk => trivial), by repeat (first | (with_reducible first | exact HB.out | apply bwA | apply bwN | apply bwD | refine below_set ?_ (IsS106.ge HI178.out) | refine below_set ?_ GE175.out | refine below_set ?_ GE184.out) | exact HB.out)⟩

/-! ### spec_DrawDiagramOf: function 30 -/
def spec_DrawDiagramOf.f (k : Nat) (l0 : List Int) : Option (Int × (List (S121)) × Int) := (spec_DrawNeedsInputs.f k l0).bind fun bt188 => (some (bt188.1, bt188.2.1, bt188.2.2))
theorem spec_DrawDiagramOf.mono : ∀ a0 k, LeO (spec_DrawDiagramOf.f k a0) (spec_DrawDiagramOf.f (k + 1) a0) := by
 intro a0 k
 unfold spec_DrawDiagramOf.f
 repeat' first
   | (with_reducible exact spec_DrawNeedsInputs.mono _ _)
   | (with_reducible exact LeO.refl _)
   | (with_reducible exact LeO.none _)
   | (with_reducible refine LeO.ite ?_ ?_)
   | (with_reducible refine LeO.bind ?_ (fun _ => ?_))
   | exact spec_DrawNeedsInputs.mono _ _
   | exact LeO.none _
   | refine LeO.ite ?_ ?_
   | refine LeO.bind ?_ (fun _ => ?_)
set_option maxHeartbeats 8000000 in
set_option maxRecDepth 100000 in
theorem spec_DrawDiagramOf.calls (k : Nat) (A0 : Option Addr) (c0 : Nat) (l0 : List Int) (r1 : Int) (r2 : List (S121)) (r3 : Int) (w : World) (hr0 : Kd.C (Kd.int .u8) w A0 l0.length l0) (hc0 : l0.length ≤ c0) (h : spec_DrawDiagramOf.f k l0 = some (r1, r2, r3)) :
  Calls Try.prog 30 #[.slice A0 l0.length c0] w fun e w' => ∃ v1_ : Value, e = .returned (.tuple #[.agg #[.int .i64 r1, v1_], .int .i64 r3]) ∧ Kd.R k121 121 w' w.heap.size (fun _ => True) v1_ r2 ∧ Below w.heap.size w w' := by
 have hu45 := Try.underlying45
 have HR0 := Aside0.mk hr0
 have HC0 := Aside0.mk hc0
 clear hr0 hc0
 have HB := Aside0.mk (Below.refl w.heap.size w)
 have H : ((spec_DrawNeedsInputs.f k l0).bind fun bt188 => (some (bt188.1, bt188.2.1, bt188.2.2))) = some (r1, r2, r3) := h
 clear h
 replace H := Option.bind_eq_some_iff.mp H
 obtain ⟨⟨t188, t189, t192⟩, A20, H⟩ := H
 replace H : (some (t188, t189, t192)) = some (r1, r2, r3) := H
 have A2 := Aside0.mk A20
 clear A20
 simp only [Option.some.injEq, Prod.mk.injEq] at H
 obtain ⟨rfl, rfl, rfl⟩ := H
 go_enter Try.func30, Try.ntmps30
 go_wp2_with (first | ((with_reducible refine gate_dst (N := 2) rfl ?_); refine box_event ?hg (N := 2) ?hd (cs := #[.int .i64 0, .slice none 0 0]) (t := 45) ?hr ?_; (case hd => rfl); (case hg => rfl); (case hr => first | (go_simp; done) | (go_simp; rfl)); intro gb187 hg w3 hbox hb; have n0_ := Aside0.mk (below_step (by repeat (first | (with_reducible first | exact HB.out | apply bwA | apply bwN | apply bwD) | exact HB.out)) hb); have n1_ := Aside0.mk (hbox); have n2_ := Aside0.mk ((by rw [hg]; exact (below_size (by repeat (first | (with_reducible first | exact HB.out | apply bwA | apply bwN | apply bwD) | exact HB.out))) : w.heap.size ≤ gb187)); have n3_ := Aside0.mk ((by rw [hg]; exact (below_size (by repeat (first | (with_reducible first | exact HB.out | apply bwA | apply bwN | apply bwD) | exact HB.out))) : w.heap.size ≤ gb187)); clear HB; have HB := n0_; have BK187 := n1_; have GW187 := n2_; have GE187 := n3_; clear n0_ n1_ n2_ n3_; clear hb hbox hg) | ((with_reducible refine gate_callee (f := 74) rfl ?_); refine goesL_ (some 5) rfl rfl Try.func74 (by kernel_rfl) rfl #[.slice A0 l0.length c0] rfl lmB ?_; (with_reducible refine (spec_DrawNeedsInputs.calls k _ _ l0 t188 t189 t192 _ ?side1 ?side2 A2.out).mono ?_); (case side1 => repeat (first | exact (Kd.C_below HR0.out HB.out) | (with_reducible refine Kd.C_alloc ?_ _) | (with_reducible refine Kd.C_drewN ?_ _) | (with_reducible refine Kd.C_drew ?_))); (case side2 => exact HC0.out); rintro e w4 ⟨v190, rfl, ho0, hb⟩; refine ⟨_, rfl, ?_⟩; have n0_ := Aside0.mk (Kd.R_lower ho0 (below_size (by repeat (first | (with_reducible first | exact HB.out | apply bwA | apply bwN | apply bwD | refine below_set ?_ GE187.out) | exact HB.out)))); have n1_ := Aside0.mk (blk_below (g := gb187) (o := .cells #[.int .i64 0, .slice none 0 0] 45 (0, 0)) (bvK BK187.out) hb); have n2_ := Aside0.mk (below_step (by repeat (first | (with_reducible first | exact HB.out | apply bwA | apply bwN | apply bwD | refine below_set ?_ GE187.out) | exact HB.out)) hb); clear BK187; clear HB; have HO191 := n0_; have BK187 := n1_; have HB := n2_; clear n0_ n1_ n2_; (try clear hb); (try clear hb2); (try clear hk); (try clear hi); (try clear ho0); have hcz5_0 : w4.cell? ⟨gb187, 0, none⟩ = some (.int .i64 0) := (blk_cell BK187.out 0).trans rfl; have hcz5_1 : w4.cell? ⟨gb187, 1, none⟩ = some (.slice none 0 0) := (blk_cell BK187.out 1).trans rfl; have hfz5_0 := blk_frozen BK187.out 0; have hfz5_1 := blk_frozen BK187.out 1; obtain ⟨Ao6, co6, eo6⟩ := Kd.R_slice HO191.out; subst eo6))
 refine bodyPost_ret (results_ct rfl _ _ gb187 45 #[.int .i64 t188, .slice Ao6 t189.length co6] (0, 0) _ rfl (by (with_reducible repeat (first | refine blk_drewN ?_ _ | refine blk_drew ?_ | refine blk_alloc ?_ _)); refine blk_put (cs := #[.int .i64 t188, .slice none 0 0]) ?_ 1 _ rfl; (with_reducible repeat (first | refine blk_drewN ?_ _ | refine blk_drew ?_ | refine blk_alloc ?_ _)); refine blk_put (cs := #[.int .i64 0, .slice none 0 0]) ?_ 0 _ rfl; (with_reducible repeat (first | refine blk_drewN ?_ _ | refine blk_drew ?_ | refine blk_alloc ?_ _)); exact BK187.out) Try.underlying45 rfl (by kernel_rfl)) rfl ?_
 exact ⟨_, ers, by (with_reducible repeat (first | apply Kd.R_alloc | apply Kd.R_drewN | apply Kd.R_drew)); exact Kd.R_mono (Kd.R_far (p := ⟨gb187, 1, none⟩) (Kd.R_far (p := ⟨gb187, 0, none⟩) (Kd.R_types HO191.out BK187.out (by decide)) (fun _ hk => hk.2) (.int .i64 t188)) (fun _ hk => hk.2) (.slice Ao6 t189.length co6)) (fun _ hk => trivial), by repeat (first | (with_reducible first | exact HB.out | apply bwA | apply bwN | apply bwD | refine below_set ?_ GE187.out) | exact HB.out)⟩

/-! ### impl_Fork_97: function 97 -/
def impl_Fork_97.f (l0 : List (S71)) : Option ((List (S71))) := (some (([] : List (S71)) : List (S71))).bind fun y193 => (if y193.length + l0.length < 5864062014805 then (some (y193 ++ l0)) else (none))
set_option maxHeartbeats 8000000 in
set_option maxRecDepth 100000 in
theorem impl_Fork_97.calls_s (Ad0 : Addr) (c0 : Nat) (l0 : List (S71)) (r : List (S71)) (w : World) (hr0 : Kd.C k71 w (some Ad0) l0.length l0) (hc0 : l0.length ≤ c0) (h : impl_Fork_97.f l0 = some r) :
  Calls Try.prog 97 #[.slice (some Ad0) l0.length c0] w fun e w' => ∃ v0_ : Value, e = .returned (v0_) ∧ Kd.R k71 71 w' w.heap.size (fun _ => True) v0_ r ∧ Below w.heap.size w w' := by
 have HR0 := Aside0.mk hr0
 have HC0 := Aside0.mk hc0
 clear hr0 hc0
 have HB := Aside0.mk (Below.refl w.heap.size w)
 have H : ((some (([] : List (S71)) : List (S71))).bind fun y193 => (if y193.length + l0.length < 5864062014805 then (some (y193 ++ l0)) else (none))) = some r := h
 clear h
 obtain ⟨y193, hy193⟩ : ∃ y_ : List (S71), y_ = (([] : List (S71))) := ⟨_, rfl⟩
 replace H : (if y193.length + l0.length < 5864062014805 then (some (y193 ++ l0)) else (none)) = some r := by first | (rw [hy193]; with_reducible exact H) | (have H2_ := (Option.bind_some _ _).symm.trans H; rw [hy193]; with_reducible exact H2_) | (have H2_ := (Option.bind_some _ _).symm.trans H; with_reducible exact H2_) | with_reducible exact H | (rw [hy193]; exact H) | exact H
 have Ny193 := Aside0.mk hy193
 clear hy193
 by_cases c2 : y193.length + l0.length < 5864062014805
 ·rw [if_pos c2] at H
  have LMc2 := Aside0.mk c2
  clear c2
  obtain ⟨y196, hy196⟩ : ∃ y_ : List (S71), y_ = (y193 ++ l0) := ⟨_, rfl⟩
  replace H : (some y196) = some r := by first | (rw [hy196]; with_reducible exact H) | (have H2_ := (Option.bind_some _ _).symm.trans H; rw [hy196]; with_reducible exact H2_) | (have H2_ := (Option.bind_some _ _).symm.trans H; with_reducible exact H2_) | with_reducible exact H | (rw [hy196]; exact H) | exact H
  have Ny196 := Aside0.mk hy196
  clear hy196
  obtain rfl := Option.some.inj H
  have hun_ := fun (w_ : World) (A_ : Option Addr) (n_ c_ : Nat) => Copy.eql_nil (P := Try.prog) w_ 23 _ A_ n_ c_ Try.underlying23
  go_enter Try.func97, Try.ntmps97
  go_wp2_with (first | ((with_reducible refine gate_dst (N := 5) rfl ?_); refine Kd.R_lit k71 _ 71 ?hg (N := 5) ?hd (xs := ([] : List (S71))) (inner := []) (ok := fun _ => True) (okp := fun _ => True) ?hr ?hp (fun _ hk => hk) trivial (Below.refl _ _) (Nat.le_refl _) (by simp) ?_; (case hd => rfl); (case hg => rfl); (case hr => first | (go_simp; done) | (go_simp; rfl)); (case hp => exact (Reps.none _ _)); intro v194 w3 ho4 hb hg_ hnew_; clear hg_ hnew_; (first | rw [← Ny193.out] at ho4 | (simp only [Int.reduceToNat] at ho4; rw [← Ny193.out] at ho4)); have n0_ := Aside0.mk (Kd.R_lower ho4 (below_size (by repeat (first | (with_reducible first | exact HB.out | apply bwA | apply bwN | apply bwD) | exact HB.out)))); have n1_ := Aside0.mk (below_step (by repeat (first | (with_reducible first | exact HB.out | apply bwA | apply bwN | apply bwD) | exact HB.out)) hb); clear HB; have HO195 := n0_; have HB := n1_; clear n0_ n1_; clear hb ho4) | ((with_reducible refine gate_builtin (b := .append) (xs := #[.tmp 5, .tmp 6]) rfl ?_); at_builtin; refine Kd.R_append_rows k71 (w0 := w) w.heap.size rfl (.tmp 5) (.tmp 6) 23 71 (.agg #[(.int .i64 0), (.int .i64 0), (.int .i64 0)]) 24 rfl Try.underlying23 info71 rfl (by decide) (by omega) v194 y193 l0 _ _ _ (fun _ => True) (fun _ => False) rfl rfl ?aO ?aR (fun _ _ h => h) (fun _ h => h.elim) ?aF ?aB ?aS ?aL ?_; (case aR => repeat (first | exact (Kd.C_below HR0.out HB.out) | (with_reducible refine Kd.C_alloc ?_ _) | (with_reducible refine Kd.C_drewN ?_ _) | (with_reducible refine Kd.C_drew ?_))); (case aB => exact (by repeat (first | (with_reducible first | exact HB.out | apply bwA | apply bwN | apply bwD) | exact HB.out))); (case aF => exact (fun _ _ => trivial)); (case aO => exact (rvR HO195.out)); (case aS => exact (below_size (by repeat (first | (with_reducible first | exact HB.out | apply bwA | apply bwN | apply bwD) | exact HB.out)))); (case aL => have := LMc2.out; omega); intro v197 w5 ho hb hg hat; rw [← Ny196.out] at ho; have n0_ := Aside0.mk (hb); have n1_ := Aside0.mk (ho); clear HB; clear HO195; have HB := n0_; have HO198 := n1_; clear n0_ n1_; clear ho hb hg hat))
  go_ret
  exact ⟨_, ers, by (with_reducible repeat (first | apply Kd.R_alloc | apply Kd.R_drewN | apply Kd.R_drew)); exact HO198.out, by repeat (first | (with_reducible first | exact HB.out | apply bwA | apply bwN | apply bwD) | exact HB.out)⟩
 ·rw [if_neg c2] at H
  exact absurd H (by simp)
set_option maxHeartbeats 8000000 in
set_option maxRecDepth 100000 in
theorem impl_Fork_97.calls (A0 : Option Addr) (c0 : Nat) (l0 : List (S71)) (r : List (S71)) (w : World) (hr0 : Kd.C k71 w A0 l0.length l0) (hc0 : l0.length ≤ c0) (h : impl_Fork_97.f l0 = some r) :
  Calls Try.prog 97 #[.slice A0 l0.length c0] w fun e w' => ∃ v0_ : Value, e = .returned (v0_) ∧ Kd.R k71 71 w' w.heap.size (fun _ => True) v0_ r ∧ Below w.heap.size w w' := by
 cases A0 with
 | some ad => exact impl_Fork_97.calls_s ad c0 l0 r w hr0 hc0 h
 | none =>
  have hl : l0 = [] := by
   have h_ := hr0
   cases l0 with
   | nil => rfl
   | cons x_ xs_ => obtain ⟨ad, e_, _⟩ := h_.2.2 (by simp); cases e_
  subst hl
  have hr_ : [] = r := Option.some.inj ((show impl_Fork_97.f [] = some [] by unfold impl_Fork_97.f; simp).symm.trans h)
  subst hr_
  clear hc0
  clear h hr0
  have hun_ := fun (w_ : World) (A_ : Option Addr) (n_ c_ : Nat) => Copy.eql_nil (P := Try.prog) w_ 23 _ A_ n_ c_ Try.underlying23
  go_enter Try.func97, Try.ntmps97
  go_wp2
  go_ret
  exact ⟨_, rfl, by first | exact Kd.R_nil _ _ _ _ _ | exact Kd.N_nil _ _ _ _ _, Below.refl _ _⟩

end Go.Proofs.Ytpcompnmadpljaa.QFnDiagramOf
