-- Written by a program of this session (mk.py). Lean checks it.
import Derived.Test.YtkfmgfdbdgjfiaaQFnFixedLitsx0
import Derived.Test.YtkfmgfdbdgjfiaaQFnFixedLitsx1
import Derived.Test.YtkfmgfdbdgjfiaaQFnFixedLitsx3
import Derived.Test.YtkfmgfdbdgjfiaaQFnFixedLitsx5
import Derived.Test.YtkfmgfdbdgjfiaaQFnFixedLitsx6
import Derived.Test.YtkfmgfdbdgjfiaaQFnFixedLitsx10
namespace Go.Proofs.Ytkfmgfdbdgjfiaa.QFnFixedLits
open Go.RowKit Go.Proofs.YtkfmgfdbdgjfiaaW.PrintWords Go.Proofs.YtkfmgfdbdgjfiaaW.PrintLast Go.Proofs.YtkfmgfdbdgjfiaaW.PrintMore
attribute [local go_sem] max2_int min2_int max_two min_two max_three min_three max_four min_four   -- for this text's walks alone
set_option linter.unusedVariables false
set_option linter.unusedSimpArgs false

/-! ### laws_FnFixedLits: function 8 -/
mutual
def laws_FnFixedLits.j0 : Nat → List Int → Bool → Int → List (List Int) → Option (Bool)
 | 0, _, _, _, _ => none
 | k + 1, x4, x24, x387000, x387001 => if x24 = true then (some false) else (laws_FnFixedLits.l0 k x4 1 x387000 x387001)
def laws_FnFixedLits.l0 : Nat → List Int → Int → Int → List (List Int) → Option (Bool)
 | 0, _, _, _, _ => none
 | k + 1, x4, x5, x387000, x387001 => if x5 ≤ x387000 then ((impl_CountModels.f k x387000 x387001).bind fun t396 => (laws_FnFixedLits.j2 k x4 x5 (decide (t396 > 0)) x387000 x387001)) else (laws_FnFixedLits.j2 k x4 x5 false x387000 x387001)
def laws_FnFixedLits.j2 : Nat → List Int → Int → Bool → Int → List (List Int) → Option (Bool)
 | 0, _, _, _, _, _ => none
 | k + 1, x4, x5, x33, x387000, x387001 => if x33 = true then ((impl_FollowsFrom.f k x387000 x387001 (([x5] : List Int))).bind fun t401 => ((laws_wcHas.f k x4 x5).bind fun t402 => (if (t401 != t402) = true then (some false) else ((impl_FollowsFrom.f k x387000 x387001 (([wrap64 (-x5)] : List Int))).bind fun t406 => ((laws_wcHas.f k x4 (wrap64 (-x5))).bind fun t407 => (if (t406 != t407) = true then (some false) else (laws_FnFixedLits.l0 k x4 (wrap64 (x5 + 1)) x387000 x387001))))))) else ((impl_CountModels.f k x387000 x387001).bind fun t397 => (if t397 > 0 then (some true) else (some ((x4.length : Int) == 0))))
end
def laws_FnFixedLits.f (k : Nat) (l0 : List Int) : Option (Bool) := if (l0.length : Int) > 1048576 then (some true) else ((spec_DrawFixedLits.f k l0).bind fun bt382 => ((impl_FixedLits.f k bt382.1 bt382.2).bind fun t387 => ((spec_FixedLits.f k bt382.1 bt382.2).bind fun t390 => ((laws_wcInts.f k t387 t390).bind fun t393 => (if t393 = true then ((impl_CountModels.f k bt382.1 bt382.2).bind fun t394 => ((spec_CountModels.f k bt382.1 bt382.2).bind fun t395 => (laws_FnFixedLits.j0 k t387 (t394 != t395) bt382.1 bt382.2))) else (laws_FnFixedLits.j0 k t387 true bt382.1 bt382.2))))))
theorem laws_FnFixedLits.mono_l : ∀ k, (∀ y0 y1 y2 y3, LeO (laws_FnFixedLits.j0 k y0 y1 y2 y3) (laws_FnFixedLits.j0 (k + 1) y0 y1 y2 y3)) ∧ (∀ y0 y1 y2 y3, LeO (laws_FnFixedLits.l0 k y0 y1 y2 y3) (laws_FnFixedLits.l0 (k + 1) y0 y1 y2 y3)) ∧ (∀ y0 y1 y2 y3 y4, LeO (laws_FnFixedLits.j2 k y0 y1 y2 y3 y4) (laws_FnFixedLits.j2 (k + 1) y0 y1 y2 y3 y4))
 | 0 => ⟨fun _ _ _ _ r h => by simp [laws_FnFixedLits.j0] at h, fun _ _ _ _ r h => by simp [laws_FnFixedLits.l0] at h, fun _ _ _ _ _ r h => by simp [laws_FnFixedLits.j2] at h⟩
 | k + 1 => by
  obtain ⟨ih0, ih1, ih2⟩ := laws_FnFixedLits.mono_l k
  refine ⟨?_, ?_, ?_⟩
  ·intro y0 y1 y2 y3
   unfold laws_FnFixedLits.j0
   repeat' first
   | (with_reducible exact ih0 _ _ _ _)
   | (with_reducible exact ih1 _ _ _ _)
   | (with_reducible exact ih2 _ _ _ _ _)
   | (with_reducible exact impl_CountModels.mono _ _ _)
   | (with_reducible exact impl_FixedLits.mono _ _ _)
   | (with_reducible exact impl_FollowsFrom.mono _ _ _ _)
   | (with_reducible exact laws_wcHas.mono _ _ _)
   | (with_reducible exact laws_wcInts.mono _ _ _)
   | (with_reducible exact spec_CountModels.mono _ _ _)
   | (with_reducible exact spec_DrawFixedLits.mono _ _)
   | (with_reducible exact spec_FixedLits.mono _ _ _)
   | (with_reducible exact LeO.refl _)
   | (with_reducible exact LeO.none _)
   | (with_reducible refine LeO.ite ?_ ?_)
   | (with_reducible refine LeO.bind ?_ (fun _ => ?_))
   | exact ih0 _ _ _ _
   | exact ih1 _ _ _ _
   | exact ih2 _ _ _ _ _
   | exact impl_CountModels.mono _ _ _
   | exact impl_FixedLits.mono _ _ _
   | exact impl_FollowsFrom.mono _ _ _ _
   | exact laws_wcHas.mono _ _ _
   | exact laws_wcInts.mono _ _ _
   | exact spec_CountModels.mono _ _ _
   | exact spec_DrawFixedLits.mono _ _
   | exact spec_FixedLits.mono _ _ _
   | exact LeO.none _
   | refine LeO.ite ?_ ?_
   | refine LeO.bind ?_ (fun _ => ?_)
  ·intro y0 y1 y2 y3
   unfold laws_FnFixedLits.l0
   repeat' first
   | (with_reducible exact ih0 _ _ _ _)
   | (with_reducible exact ih1 _ _ _ _)
   | (with_reducible exact ih2 _ _ _ _ _)
   | (with_reducible exact impl_CountModels.mono _ _ _)
   | (with_reducible exact impl_FixedLits.mono _ _ _)
   | (with_reducible exact impl_FollowsFrom.mono _ _ _ _)
   | (with_reducible exact laws_wcHas.mono _ _ _)
   | (with_reducible exact laws_wcInts.mono _ _ _)
   | (with_reducible exact spec_CountModels.mono _ _ _)
   | (with_reducible exact spec_DrawFixedLits.mono _ _)
   | (with_reducible exact spec_FixedLits.mono _ _ _)
   | (with_reducible exact LeO.refl _)
   | (with_reducible exact LeO.none _)
   | (with_reducible refine LeO.ite ?_ ?_)
   | (with_reducible refine LeO.bind ?_ (fun _ => ?_))
   | exact ih0 _ _ _ _
   | exact ih1 _ _ _ _
   | exact ih2 _ _ _ _ _
   | exact impl_CountModels.mono _ _ _
   | exact impl_FixedLits.mono _ _ _
   | exact impl_FollowsFrom.mono _ _ _ _
   | exact laws_wcHas.mono _ _ _
   | exact laws_wcInts.mono _ _ _
   | exact spec_CountModels.mono _ _ _
   | exact spec_DrawFixedLits.mono _ _
   | exact spec_FixedLits.mono _ _ _
   | exact LeO.none _
   | refine LeO.ite ?_ ?_
   | refine LeO.bind ?_ (fun _ => ?_)
  ·intro y0 y1 y2 y3 y4
   unfold laws_FnFixedLits.j2
   repeat' first
   | (with_reducible exact ih0 _ _ _ _)
   | (with_reducible exact ih1 _ _ _ _)
   | (with_reducible exact ih2 _ _ _ _ _)
   | (with_reducible exact impl_CountModels.mono _ _ _)
   | (with_reducible exact impl_FixedLits.mono _ _ _)
   | (with_reducible exact impl_FollowsFrom.mono _ _ _ _)
   | (with_reducible exact laws_wcHas.mono _ _ _)
   | (with_reducible exact laws_wcInts.mono _ _ _)
   | (with_reducible exact spec_CountModels.mono _ _ _)
   | (with_reducible exact spec_DrawFixedLits.mono _ _)
   | (with_reducible exact spec_FixedLits.mono _ _ _)
   | (with_reducible exact LeO.refl _)
   | (with_reducible exact LeO.none _)
   | (with_reducible refine LeO.ite ?_ ?_)
   | (with_reducible refine LeO.bind ?_ (fun _ => ?_))
   | exact ih0 _ _ _ _
   | exact ih1 _ _ _ _
   | exact ih2 _ _ _ _ _
   | exact impl_CountModels.mono _ _ _
   | exact impl_FixedLits.mono _ _ _
   | exact impl_FollowsFrom.mono _ _ _ _
   | exact laws_wcHas.mono _ _ _
   | exact laws_wcInts.mono _ _ _
   | exact spec_CountModels.mono _ _ _
   | exact spec_DrawFixedLits.mono _ _
   | exact spec_FixedLits.mono _ _ _
   | exact LeO.none _
   | refine LeO.ite ?_ ?_
   | refine LeO.bind ?_ (fun _ => ?_)
theorem laws_FnFixedLits.mono : ∀ a0 k, LeO (laws_FnFixedLits.f k a0) (laws_FnFixedLits.f (k + 1) a0) := by
 intro a0 k
 obtain ⟨ih0, ih1, ih2⟩ := laws_FnFixedLits.mono_l k
 unfold laws_FnFixedLits.f
 repeat' first
   | (with_reducible exact ih0 _ _ _ _)
   | (with_reducible exact ih1 _ _ _ _)
   | (with_reducible exact ih2 _ _ _ _ _)
   | (with_reducible exact impl_CountModels.mono _ _ _)
   | (with_reducible exact impl_FixedLits.mono _ _ _)
   | (with_reducible exact impl_FollowsFrom.mono _ _ _ _)
   | (with_reducible exact laws_wcHas.mono _ _ _)
   | (with_reducible exact laws_wcInts.mono _ _ _)
   | (with_reducible exact spec_CountModels.mono _ _ _)
   | (with_reducible exact spec_DrawFixedLits.mono _ _)
   | (with_reducible exact spec_FixedLits.mono _ _ _)
   | (with_reducible exact LeO.refl _)
   | (with_reducible exact LeO.none _)
   | (with_reducible refine LeO.ite ?_ ?_)
   | (with_reducible refine LeO.bind ?_ (fun _ => ?_))
   | exact ih0 _ _ _ _
   | exact ih1 _ _ _ _
   | exact ih2 _ _ _ _ _
   | exact impl_CountModels.mono _ _ _
   | exact impl_FixedLits.mono _ _ _
   | exact impl_FollowsFrom.mono _ _ _ _
   | exact laws_wcHas.mono _ _ _
   | exact laws_wcInts.mono _ _ _
   | exact spec_CountModels.mono _ _ _
   | exact spec_DrawFixedLits.mono _ _
   | exact spec_FixedLits.mono _ _ _
   | exact LeO.none _
   | refine LeO.ite ?_ ?_
   | refine LeO.bind ?_ (fun _ => ?_)
def laws_FnFixedLits.T5 : Bool × List (List Nat × List Nat) := (true, [([], []), ([], []), ([1], [1]), ([0, 2, 2], [0, 2]), ([3], [3]), ([4, 3], [4]), ([5], [5]), ([6, 5, 5], [5, 6]), ([5], [5]), ([8, 7, 5], [5, 8]), ([7, 9, 5], [5, 7, 9]), ([5, 10], [5, 10])])
def laws_FnFixedLits.B5 : List Nat := [0, 0, 2, 7, 15, 31, 63, 127, 63, 511, 1023, 2047]
theorem laws_FnFixedLits.tab5 : rtab .any (opsOf Try.f8 5) = laws_FnFixedLits.T5 := by kernel_rfl
theorem laws_FnFixedLits.bits5 : waitsOk laws_FnFixedLits.T5.2 laws_FnFixedLits.B5 = true := by kernel_rfl
set_option maxHeartbeats 8000000 in
set_option maxRecDepth 100000 in
theorem laws_FnFixedLits.calls (k : Nat) (A0 : Option Addr) (c0 : Nat) (l0 : List Int) (r : Bool) (w : World) (hr0 : Kd.C (Kd.int .u8) w A0 l0.length l0) (hc0 : l0.length ≤ c0) (h : laws_FnFixedLits.f k l0 = some r) :
  Calls Try.prog 8 #[.slice A0 l0.length c0] w fun e w' => e = .returned (.bool r) ∧ Below w.heap.size w w' := by
 have hu29 := Try.underlying29
 have HR0 := Aside0.mk hr0
 have HC0 := Aside0.mk hc0
 clear hr0 hc0
 have HB := Aside0.mk (Below.refl w.heap.size w)
 have H : (if (l0.length : Int) > 1048576 then (some true) else ((spec_DrawFixedLits.f k l0).bind fun bt382 => ((impl_FixedLits.f k bt382.1 bt382.2).bind fun t387 => ((spec_FixedLits.f k bt382.1 bt382.2).bind fun t390 => ((laws_wcInts.f k t387 t390).bind fun t393 => (if t393 = true then ((impl_CountModels.f k bt382.1 bt382.2).bind fun t394 => ((spec_CountModels.f k bt382.1 bt382.2).bind fun t395 => (laws_FnFixedLits.j0 k t387 (t394 != t395) bt382.1 bt382.2))) else (laws_FnFixedLits.j0 k t387 true bt382.1 bt382.2))))))) = some r := h
 clear h
 by_cases c2 : (l0.length : Int) > 1048576
 ·rw [if_pos c2] at H
  have c2b0 : decide (1048576 < (l0.length : Int)) = true := decide_eq_true c2
  have c2b1 : decide (1048576 < l0.length) = true := decide_eq_true (by omega)
  clear c2
  obtain rfl := Option.some.inj H
  go_enter Try.func8, Try.ntmps8
  go_wp2
  go_ret
  exact ⟨by first | rfl | (simp [errW_none, errW_some] <;> rfl) | (simp [*, errW_none, errW_some] <;> rfl), by repeat (first | (with_reducible first | exact HB.out | apply bwA | apply bwN | apply bwD) | exact HB.out)⟩
 ·rw [if_neg c2] at H
  have c2b0 : decide (1048576 < (l0.length : Int)) = false := decide_eq_false c2
  have c2b1 : decide (1048576 < l0.length) = false := decide_eq_false (by omega)
  clear c2
  replace H := Option.bind_eq_some_iff.mp H
  obtain ⟨⟨t382, t383⟩, A30, H⟩ := H
  replace H : ((impl_FixedLits.f k t382 t383).bind fun t387 => ((spec_FixedLits.f k t382 t383).bind fun t390 => ((laws_wcInts.f k t387 t390).bind fun t393 => (if t393 = true then ((impl_CountModels.f k t382 t383).bind fun t394 => ((spec_CountModels.f k t382 t383).bind fun t395 => (laws_FnFixedLits.j0 k t387 (t394 != t395) t382 t383))) else (laws_FnFixedLits.j0 k t387 true t382 t383))))) = some r := H
  have A3 := Aside0.mk A30
  clear A30
  replace H := Option.bind_eq_some_iff.mp H
  obtain ⟨t387, A40, H⟩ := H
  replace H : ((spec_FixedLits.f k t382 t383).bind fun t390 => ((laws_wcInts.f k t387 t390).bind fun t393 => (if t393 = true then ((impl_CountModels.f k t382 t383).bind fun t394 => ((spec_CountModels.f k t382 t383).bind fun t395 => (laws_FnFixedLits.j0 k t387 (t394 != t395) t382 t383))) else (laws_FnFixedLits.j0 k t387 true t382 t383)))) = some r := H
  have A4 := Aside0.mk A40
  clear A40
  have HC5 := Aside0.mk H
  clear H
  go_enter Try.func8, Try.ntmps8
  go_upto_region 5 with (first | ((with_reducible refine gate_callee (f := 37) rfl ?_); refine goesL_ (some 10) rfl rfl Try.func37 (by kernel_rfl) rfl #[.slice A0 l0.length c0] rfl (by (try simp only [List.map_toArray, List.map_cons, List.map_nil]); first | done | rfl | (simp only [List.length_drop, List.length_take]; rfl)) ?_; (with_reducible refine (spec_DrawFixedLits.calls k _ _ l0 t382 t383 _ ?side1 ?side2 A3.out).mono ?_); (case side1 => repeat (first | exact HR0.out | (with_reducible refine Kd.C_alloc ?_ _) | (with_reducible refine Kd.C_drewN ?_ _) | (with_reducible refine Kd.C_drew ?_))); (case side2 => exact HC0.out); rintro e w6 ⟨v384, rfl, ho0, hb⟩; refine ⟨_, rfl, ?_⟩; have n0_ := Aside0.mk (Kd.S_lower ho0 (below_size (by repeat (first | (with_reducible first | exact HB.out | apply bwA | apply bwN | apply bwD) | exact HB.out)))); have n1_ := Aside0.mk (below_step (by repeat (first | (with_reducible first | exact HB.out | apply bwA | apply bwN | apply bwD) | exact HB.out)) hb); clear HB; have HO385 := n0_; have HB := n1_; clear n0_ n1_; (try clear hb); (try clear hb2); (try clear hk); (try clear hi); (try clear ho0)) | ((with_reducible refine gate_dst (N := 3) rfl ?_); (try (refine gate_guard (by rfl) ?_; dsimp only)); refine box_event ?hg (N := 3) ?hd (cs := #[.int .i64 0, .slice none 0 0]) (t := 29) ?hr ?_; (case hd => rfl); (case hg => rfl); (case hr => first | (go_simp; done) | (go_simp; rfl)); intro gb386 hg w7 hbox hb; have n0_ := Aside0.mk (Kd.S_below (by (with_reducible repeat (first | apply Kd.S_alloc | apply Kd.S_drewN | apply Kd.S_drew)); exact HO385.out) hb); have n1_ := Aside0.mk (below_step (by repeat (first | (with_reducible first | exact HB.out | apply bwA | apply bwN | apply bwD) | exact HB.out)) hb); have n2_ := Aside0.mk (hbox); have n3_ := Aside0.mk ((by rw [hg]; exact (below_size (by repeat (first | (with_reducible first | exact HB.out | apply bwA | apply bwN | apply bwD) | exact HB.out))) : w.heap.size ≤ gb386)); have n4_ := Aside0.mk ((by rw [hg]; exact (below_size (by repeat (first | (with_reducible first | exact HB.out | apply bwA | apply bwN | apply bwD) | exact HB.out))) : w.heap.size ≤ gb386)); clear HO385; clear HB; have HO385 := n0_; have HB := n1_; have BK386 := n2_; have GW386 := n3_; have GE386 := n4_; clear n0_ n1_ n2_ n3_ n4_; clear hb hbox hg; have hcz8_0 : w7.cell? ⟨gb386, 0, none⟩ = some (.int .i64 0) := (blk_cell BK386.out 0).trans rfl; have hcz8_1 : w7.cell? ⟨gb386, 1, none⟩ = some (.slice none 0 0) := (blk_cell BK386.out 1).trans rfl; have hfz8_0 := blk_frozen BK386.out 0; have hfz8_1 := blk_frozen BK386.out 1; obtain ⟨Ao9, co9, eo9⟩ := Kd.S_slice HO385.out; subst eo9) | ((with_reducible refine gate_callee (f := 36) rfl ?_); refine goesL_ (some 12) rfl rfl Try.func36 (by kernel_rfl) rfl #[.agg #[.int .i64 t382, .slice Ao9 t383.length co9]] rfl (by (try simp only [List.map_toArray, List.map_cons, List.map_nil]); first | done | rfl | (simp only [List.length_drop, List.length_take]; rfl)) ?_; (with_reducible refine (impl_FixedLits.calls k t382 _ _ t383 t387 _ ?side1 ?side2 A4.out).mono ?_); (case side1 => refine (Kd.S_reads' (e := 25) (base := w.heap.size) (ok := fun k_ => True) (n := t383.length) (c := co9) ?_).2.2; exact (by (with_reducible repeat (first | apply Kd.S_alloc | apply Kd.S_drewN | apply Kd.S_drew)); exact (Kd.S_mono (Kd.S_far (p := ⟨gb386, 1, none⟩) (Kd.S_far (p := ⟨gb386, 0, none⟩) (Kd.S_types HO385.out BK386.out (by decide)) (fun _ hk => hk.2) (.int .i64 t382)) (fun _ hk => hk.2) (.slice Ao9 t383.length co9)) (fun _ h_ => h_.1)))); (case side2 => exact (Kd.S_reads' HO385.out).2.1); rintro e w10 ⟨v388, rfl, ho0, hb⟩; refine ⟨_, rfl, ?_⟩; have n0_ := Aside0.mk (Kd.S_elder' (by (with_reducible repeat (first | apply Kd.S_alloc | apply Kd.S_drewN | apply Kd.S_drew)); exact (Kd.S_mono (Kd.S_far (p := ⟨gb386, 1, none⟩) (Kd.S_far (p := ⟨gb386, 0, none⟩) (Kd.S_types HO385.out BK386.out (by decide)) (fun _ hk => hk.2) (.int .i64 t382)) (fun _ hk => hk.2) (.slice Ao9 t383.length co9)) (fun _ h_ => h_.1))) (Kd.R_base ho0) hb); have n1_ := Aside0.mk (Kd.R_lower ho0 (below_size (by repeat (first | (with_reducible first | exact HB.out | apply bwA | apply bwN | apply bwD | refine below_set ?_ GE386.out) | exact HB.out)))); have n2_ := Aside0.mk (blk_below (g := gb386) (o := .cells #[.int .i64 t382, .slice Ao9 t383.length co9] 29 (0, 0)) (by (with_reducible repeat (first | refine blk_drewN ?_ _ | refine blk_drew ?_ | refine blk_alloc ?_ _)); refine blk_put (cs := #[.int .i64 t382, .slice none 0 0]) ?_ 1 _ rfl; (with_reducible repeat (first | refine blk_drewN ?_ _ | refine blk_drew ?_ | refine blk_alloc ?_ _)); refine blk_put (cs := #[.int .i64 0, .slice none 0 0]) ?_ 0 _ rfl; (with_reducible repeat (first | refine blk_drewN ?_ _ | refine blk_drew ?_ | refine blk_alloc ?_ _)); exact BK386.out) hb); have n3_ := Aside0.mk (below_step (by repeat (first | (with_reducible first | exact HB.out | apply bwA | apply bwN | apply bwD | refine below_set ?_ GE386.out) | exact HB.out)) hb); clear HO385; clear BK386; clear HB; have HO385 := n0_; have HO389 := n1_; have BK386 := n2_; have HB := n3_; clear n0_ n1_ n2_ n3_; (try clear hb); (try clear hb2); (try clear hk); (try clear hi); (try clear ho0)))
  (try simp only [Act.put, List.setIfInBounds_toArray, List.set_cons_zero, List.set_cons_succ])
  go_cut [24] (fun v24 wc => ∃ (kq : Nat) (x24_4 : Bool), v24 = .bool x24_4 ∧ Aside0 (laws_FnFixedLits.j0 kq t387 x24_4 t382 t383 = some r) ∧ Aside0 (kq ≤ k) ∧ Aside0 (Kd.R (Kd.int .i64) 3 wc w.heap.size (fun _ => True) v388 t387) ∧ Aside0 (Kd.S (Kd.slice 3 (Kd.int .i64)) 25 wc w.heap.size (fun k_ => some k_ ≠ (v388 : Value).ownBlock) (.slice Ao9 t383.length co9) t383) ∧ Aside0 (wc.heap[gb386]? = some (.cells #[.int .i64 t382, (.slice Ao9 t383.length co9)] 29 (0, 0))) ∧ Aside0 (Below w.heap.size w wc))
  case first =>
   have H := HC5.out
   clear HC5
   replace H := Option.bind_eq_some_iff.mp H
   obtain ⟨t390, A110, H⟩ := H
   replace H : ((laws_wcInts.f k t387 t390).bind fun t393 => (if t393 = true then ((impl_CountModels.f k t382 t383).bind fun t394 => ((spec_CountModels.f k t382 t383).bind fun t395 => (laws_FnFixedLits.j0 k t387 (t394 != t395) t382 t383))) else (laws_FnFixedLits.j0 k t387 true t382 t383))) = some r := H
   have A11 := Aside0.mk A110
   clear A110
   replace H := Option.bind_eq_some_iff.mp H
   obtain ⟨t393, A120, H⟩ := H
   replace H : (if t393 = true then ((impl_CountModels.f k t382 t383).bind fun t394 => ((spec_CountModels.f k t382 t383).bind fun t395 => (laws_FnFixedLits.j0 k t387 (t394 != t395) t382 t383))) else (laws_FnFixedLits.j0 k t387 true t382 t383)) = some r := H
   have A12 := Aside0.mk A120
   clear A120
   by_cases c13 : t393 = true
   ·subst c13
    have H1 : ((impl_CountModels.f k t382 t383).bind fun t394 => ((spec_CountModels.f k t382 t383).bind fun t395 => (laws_FnFixedLits.j0 k t387 (t394 != t395) t382 t383))) = some r := by rw [if_pos rfl] at H; exact H
    clear H
    have H := H1
    clear H1
    replace H := Option.bind_eq_some_iff.mp H
    obtain ⟨t394, A140, H⟩ := H
    replace H : ((spec_CountModels.f k t382 t383).bind fun t395 => (laws_FnFixedLits.j0 k t387 (t394 != t395) t382 t383)) = some r := H
    have A14 := Aside0.mk A140
    clear A140
    replace H := Option.bind_eq_some_iff.mp H
    obtain ⟨t395, A150, H⟩ := H
    replace H : (laws_FnFixedLits.j0 k t387 (t394 != t395) t382 t383) = some r := H
    have A15 := Aside0.mk A150
    clear A150
    have H' := Aside0.mk H
    clear H
    try go_wp2
    have n0_ := Aside0.mk (Kd.S_drew HO385.out)
    have n1_ := Aside0.mk (Kd.R_drew HO389.out)
    have n2_ := Aside0.mk (blk_drew BK386.out)
    have n3_ := Aside0.mk (below_drew1 HB.out)
    clear HO385
    clear HO389
    clear BK386
    clear HB
    have HO385 := n0_
    have HO389 := n1_
    have BK386 := n2_
    have HB := n3_
    clear n0_ n1_ n2_ n3_
    refine start_ (n := 12) (S := fun w' => w'.cell? ⟨gb386, 0, none⟩ = some (.int .i64 t382) ∧ w'.cell? ⟨gb386, 1, none⟩ = some (.slice Ao9 t383.length co9)) (ds := []) #[false, false, false, false, false, false, false, false, false, false, false, false] (by kernel_rfl) rfl rfl ⟨(blk_cell BK386.out 0).trans rfl, (blk_cell BK386.out 1).trans rfl⟩ (fun hHeld => ?_); refine with_tabW laws_FnFixedLits.tab5 laws_FnFixedLits.bits5 (fun HT_ HW_ => ?_)
    generalize w10.drew = w16 at HO385 HO389 BK386 HB hHeld ⊢
    refine pure_ (i := 0) (N := some 13) (v := ?_) (a' := ?_) #[true, false, false, false, false, false, false, false, false, false, false, false] rfl rfl (any_of HT_.out (by kernel_rfl)) (fun _ _ _ h => h) (Or.inl ⟨by rfl, ?_⟩) ?_ ?_
    rotate_left
    ·intro w'
     go_simp
     with_reducible rfl
    rotate_left
    ·simp only [Act.put, List.setIfInBounds_toArray, List.set_cons_zero, List.set_cons_succ, i64_w, i32_w]
     rfl
    refine take_ (i := 1) (N := some 14) (v := ?_) (a' := ?_) #[true, true, false, false, false, false, false, false, false, false, false, false] rfl rfl (take_ofW HT_.out HW_.out (by kernel_rfl)) (fun _ _ _ h => h) (Or.inl ⟨by rfl, ?_⟩) hHeld ?_ ?_
    rotate_left
    ·rintro w' ⟨s0, s1⟩
     go_simp
     with_reducible rfl
    rotate_left
    ·simp only [Act.put, List.setIfInBounds_toArray, List.set_cons_zero, List.set_cons_succ, i64_w, i32_w]
     rfl
    refine one_ (i := 2) (N := some 15) #[true, true, true, false, false, false, false, false, false, false, false, false] rfl rfl (one_of HT_.out (by kernel_rfl)) (by decide) (fun K hK => ?_)
    refine goes_ Try.func35 (by kernel_rfl) rfl #[.agg #[.int .i64 t382, .slice Ao9 t383.length co9]] (by rfl) rfl rfl (by (try simp only [List.map_toArray, List.map_cons, List.map_nil]); first | done | rfl | (simp only [List.length_drop, List.length_take]; rfl)) ?_
    with_reducible refine (spec_FixedLits.calls k t382 _ _ t383 t390 _ ?side1 ?side2 A11.out).mono ?_
    (case side1 => repeat (first | exact (Kd.S_reads' HO385.out).2.2 | (with_reducible refine Kd.C_alloc ?_ _) | (with_reducible refine Kd.C_drewN ?_ _) | (with_reducible refine Kd.C_drew ?_)))
    (case side2 => exact (Kd.S_reads' HO385.out).2.1)
    rintro e w17 ⟨v391, rfl, ho0, hb⟩
    refine ⟨_, rfl, ?_⟩
    have n0_ := Aside0.mk (Kd.S_elder' (by (with_reducible repeat (first | apply Kd.S_alloc | apply Kd.S_drewN | apply Kd.S_drew)); exact HO385.out) (Kd.R_base ho0) hb)
    have n1_ := Aside0.mk (Kd.R_elder' (by (with_reducible repeat (first | apply Kd.R_alloc | apply Kd.R_drewN | apply Kd.R_drew)); exact HO389.out) (Kd.R_base ho0) hb)
    have n2_ := Aside0.mk (Kd.R_lower (Kd.R_new' ho0 (Kd.R_lt (by (with_reducible repeat (first | apply Kd.R_alloc | apply Kd.R_drewN | apply Kd.R_drew)); exact HO389.out))) (below_size (by repeat (first | (with_reducible first | exact HB.out | apply bwA | apply bwN | apply bwD | refine below_set ?_ GE386.out) | exact HB.out))))
    have n3_ := Aside0.mk (blk_below (g := gb386) (o := .cells #[.int .i64 t382, .slice Ao9 t383.length co9] 29 (0, 0)) (by (with_reducible repeat (first | refine blk_drewN ?_ _ | refine blk_drew ?_ | refine blk_alloc ?_ _)); exact BK386.out) hb)
    have n4_ := Aside0.mk (below_step (by repeat (first | (with_reducible first | exact HB.out | apply bwA | apply bwN | apply bwD | refine below_set ?_ GE386.out) | exact HB.out)) hb)
    clear HO385
    clear HO389
    clear BK386
    clear HB
    have HO385 := n0_
    have HO389 := n1_
    have HO392 := n2_
    have BK386 := n3_
    have HB := n4_
    clear n0_ n1_ n2_ n3_ n4_
    (try clear hb)
    (try clear hb2)
    (try clear hk)
    (try clear hi)
    (try clear ho0)
    obtain ⟨Ao18, co18, eo18⟩ := Kd.R_slice HO389.out
    (first | subst eo18 | (injection eo18 with f1_ f2_ f3_; have f4_ := f1_.symm; have f5_ := f3_.symm; clear f1_ f2_ f3_; subst f4_; subst f5_))
    obtain ⟨Ao19, co19, eo19⟩ := Kd.R_slice HO392.out
    (first | subst eo19 | (injection eo19 with f1_ f2_ f3_; have f4_ := f1_.symm; have f5_ := f3_.symm; clear f1_ f2_ f3_; subst f4_; subst f5_))
    refine hK.out _ _ ⟨(blk_cell BK386.out 0).trans rfl, (blk_cell BK386.out 1).trans rfl⟩ (fun hHeld => ?_)
    clear hK K
    refine norm_ (a' := ?_) ?_ ?_
    rotate_left
    ·show Act.put _ (some 15) _ = _
     simp only [Act.put, List.setIfInBounds_toArray, List.set_cons_zero, List.set_cons_succ, i64_w, i32_w]
     rfl
    refine one_ (i := 3) (N := some 16) #[true, true, true, true, false, false, false, false, false, false, false, false] rfl rfl (one_of HT_.out (by kernel_rfl)) (by decide) (fun K hK => ?_)
    refine goes_ Try.func23 (by kernel_rfl) rfl #[.slice Ao18 t387.length co18, .slice Ao19 t390.length co19] (by rfl) rfl rfl (by (try simp only [List.map_toArray, List.map_cons, List.map_nil]); first | done | rfl | (simp only [List.length_drop, List.length_take]; rfl)) ?_
    with_reducible refine (laws_wcInts.calls k _ _ t387 _ _ t390 true _ ?side1 ?side2 ?side3 ?side4 A12.out).mono ?_
    (case side1 => repeat (first | exact (Kd.R_reads' HO389.out).2.2 | (with_reducible refine Kd.C_alloc ?_ _) | (with_reducible refine Kd.C_drewN ?_ _) | (with_reducible refine Kd.C_drew ?_)))
    (case side2 => exact (Kd.R_reads' HO389.out).2.1)
    (case side3 => repeat (first | exact (Kd.R_reads' HO392.out).2.2 | (with_reducible refine Kd.C_alloc ?_ _) | (with_reducible refine Kd.C_drewN ?_ _) | (with_reducible refine Kd.C_drew ?_)))
    (case side4 => exact (Kd.R_reads' HO392.out).2.1)
    rintro e w' ⟨rfl, ⟨nd, rfl⟩⟩
    refine ⟨_, rfl, ?_⟩
    refine hK.out _ _ ⟨(blk_cell BK386.out 0).trans rfl, (blk_cell BK386.out 1).trans rfl⟩ (fun hHeld => ?_)
    clear hK K
    refine norm_ (a' := ?_) ?_ ?_
    rotate_left
    ·show Act.put _ (some 16) _ = _
     simp only [Act.put, List.setIfInBounds_toArray, List.set_cons_zero, List.set_cons_succ, i64_w, i32_w]
     rfl
    refine pure_ (i := 4) (N := some 17) (v := ?_) (a' := ?_) #[true, true, true, true, true, false, false, false, false, false, false, false] rfl rfl (any_of HT_.out (by kernel_rfl)) (fun _ _ _ h => h) (Or.inl ⟨by rfl, ?_⟩) ?_ ?_
    rotate_left
    ·intro w'
     go_simp
     with_reducible rfl
    rotate_left
    ·simp only [Act.put, List.setIfInBounds_toArray, List.set_cons_zero, List.set_cons_succ, i64_w, i32_w]
     rfl
    refine pure_ (i := 5) (N := some 18) (v := ?_) (a' := ?_) #[true, true, true, true, true, true, false, false, false, false, false, false] rfl rfl (any_of HT_.out (by kernel_rfl)) (fun _ _ _ h => h) (Or.inl ⟨by rfl, ?_⟩) ?_ ?_
    rotate_left
    ·intro w'
     go_simp
     with_reducible rfl
    rotate_left
    ·simp only [Act.put, List.setIfInBounds_toArray, List.set_cons_zero, List.set_cons_succ, i64_w, i32_w]
     rfl
    refine take_ (i := 6) (N := some 19) (v := ?_) (a' := ?_) #[true, true, true, true, true, true, true, false, false, false, false, false] rfl rfl (take_ofW HT_.out HW_.out (by kernel_rfl)) (fun _ _ _ h => h) (Or.inl ⟨by rfl, ?_⟩) hHeld ?_ ?_
    rotate_left
    ·rintro w' ⟨s0, s1⟩
     go_simp
     with_reducible rfl
    rotate_left
    ·simp only [Act.put, List.setIfInBounds_toArray, List.set_cons_zero, List.set_cons_succ, i64_w, i32_w]
     rfl
    refine take_ (i := 8) (N := some 21) (v := ?_) (a' := ?_) #[true, true, true, true, true, true, true, false, true, false, false, false] rfl rfl (take_ofW HT_.out HW_.out (by kernel_rfl)) (fun _ _ _ h => h) (Or.inl ⟨by rfl, ?_⟩) hHeld ?_ ?_
    rotate_left
    ·rintro w' ⟨s0, s1⟩
     go_simp
     with_reducible rfl
    rotate_left
    ·simp only [Act.put, List.setIfInBounds_toArray, List.set_cons_zero, List.set_cons_succ, i64_w, i32_w]
     rfl
    refine one_ (i := 7) (N := some 20) #[true, true, true, true, true, true, true, true, true, false, false, false] rfl rfl (one_of HT_.out (by kernel_rfl)) (by decide) (fun K hK => ?_)
    refine goes_ Try.func38 (by kernel_rfl) rfl #[.agg #[.int .i64 t382, .slice Ao9 t383.length co9]] (by rfl) rfl rfl (by (try simp only [List.map_toArray, List.map_cons, List.map_nil]); first | done | rfl | (simp only [List.length_drop, List.length_take]; rfl)) ?_
    with_reducible refine (impl_CountModels.calls k t382 _ _ t383 t394 _ ?side1 ?side2 A14.out).mono ?_
    (case side1 => repeat (first | exact (Kd.S_reads' HO385.out).2.2 | (with_reducible refine Kd.C_alloc ?_ _) | (with_reducible refine Kd.C_drewN ?_ _) | (with_reducible refine Kd.C_drew ?_)))
    (case side2 => exact (Kd.S_reads' HO385.out).2.1)
    rintro e w20 ⟨rfl, hb⟩
    refine ⟨_, rfl, ?_⟩
    have n0_ := Aside0.mk (Kd.S_below (by (with_reducible repeat (first | apply Kd.S_alloc | apply Kd.S_drewN | apply Kd.S_drew)); exact HO385.out) hb)
    have n1_ := Aside0.mk (Kd.R_below (by (with_reducible repeat (first | apply Kd.R_alloc | apply Kd.R_drewN | apply Kd.R_drew)); exact HO389.out) hb)
    have n2_ := Aside0.mk (Kd.R_below (by (with_reducible repeat (first | apply Kd.R_alloc | apply Kd.R_drewN | apply Kd.R_drew)); exact HO392.out) hb)
    have n3_ := Aside0.mk (blk_below (g := gb386) (o := .cells #[.int .i64 t382, .slice Ao9 t383.length co9] 29 (0, 0)) (by (with_reducible repeat (first | refine blk_drewN ?_ _ | refine blk_drew ?_ | refine blk_alloc ?_ _)); exact BK386.out) hb)
    have n4_ := Aside0.mk (below_step (by repeat (first | (with_reducible first | exact HB.out | apply bwA | apply bwN | apply bwD | refine below_set ?_ GE386.out) | exact HB.out)) hb)
    clear HO385
    clear HO389
    clear HO392
    clear BK386
    clear HB
    have HO385 := n0_
    have HO389 := n1_
    have HO392 := n2_
    have BK386 := n3_
    have HB := n4_
    clear n0_ n1_ n2_ n3_ n4_
    (try clear hb)
    (try clear hb2)
    (try clear hk)
    (try clear hi)
    refine hK.out _ _ ⟨(blk_cell BK386.out 0).trans rfl, (blk_cell BK386.out 1).trans rfl⟩ (fun hHeld => ?_)
    clear hK K
    refine norm_ (a' := ?_) ?_ ?_
    rotate_left
    ·show Act.put _ (some 20) _ = _
     simp only [Act.put, List.setIfInBounds_toArray, List.set_cons_zero, List.set_cons_succ, i64_w, i32_w]
     rfl
    refine one_ (i := 9) (N := some 22) #[true, true, true, true, true, true, true, true, true, true, false, false] rfl rfl (one_of HT_.out (by kernel_rfl)) (by decide) (fun K hK => ?_)
    refine goes_ Try.func39 (by kernel_rfl) rfl #[.agg #[.int .i64 t382, .slice Ao9 t383.length co9]] (by rfl) rfl rfl (by (try simp only [List.map_toArray, List.map_cons, List.map_nil]); first | done | rfl | (simp only [List.length_drop, List.length_take]; rfl)) ?_
    with_reducible refine (spec_CountModels.calls k t382 _ _ t383 t395 _ ?side1 ?side2 A15.out).mono ?_
    (case side1 => repeat (first | exact (Kd.S_reads' HO385.out).2.2 | (with_reducible refine Kd.C_alloc ?_ _) | (with_reducible refine Kd.C_drewN ?_ _) | (with_reducible refine Kd.C_drew ?_)))
    (case side2 => exact (Kd.S_reads' HO385.out).2.1)
    rintro e w21 ⟨rfl, hb⟩
    refine ⟨_, rfl, ?_⟩
    have n0_ := Aside0.mk (Kd.S_below (by (with_reducible repeat (first | apply Kd.S_alloc | apply Kd.S_drewN | apply Kd.S_drew)); exact HO385.out) hb)
    have n1_ := Aside0.mk (Kd.R_below (by (with_reducible repeat (first | apply Kd.R_alloc | apply Kd.R_drewN | apply Kd.R_drew)); exact HO389.out) hb)
    have n2_ := Aside0.mk (Kd.R_below (by (with_reducible repeat (first | apply Kd.R_alloc | apply Kd.R_drewN | apply Kd.R_drew)); exact HO392.out) hb)
    have n3_ := Aside0.mk (blk_below (g := gb386) (o := .cells #[.int .i64 t382, .slice Ao9 t383.length co9] 29 (0, 0)) (by (with_reducible repeat (first | refine blk_drewN ?_ _ | refine blk_drew ?_ | refine blk_alloc ?_ _)); exact BK386.out) hb)
    have n4_ := Aside0.mk (below_step (by repeat (first | (with_reducible first | exact HB.out | apply bwA | apply bwN | apply bwD | refine below_set ?_ GE386.out) | exact HB.out)) hb)
    clear HO385
    clear HO389
    clear HO392
    clear BK386
    clear HB
    have HO385 := n0_
    have HO389 := n1_
    have HO392 := n2_
    have BK386 := n3_
    have HB := n4_
    clear n0_ n1_ n2_ n3_ n4_
    (try clear hb)
    (try clear hb2)
    (try clear hk)
    (try clear hi)
    refine hK.out _ _ ⟨(blk_cell BK386.out 0).trans rfl, (blk_cell BK386.out 1).trans rfl⟩ (fun hHeld => ?_)
    clear hK K
    refine norm_ (a' := ?_) ?_ ?_
    rotate_left
    ·show Act.put _ (some 22) _ = _
     simp only [Act.put, List.setIfInBounds_toArray, List.set_cons_zero, List.set_cons_succ, i64_w, i32_w]
     rfl
    refine pure_ (i := 10) (N := some 23) (v := ?_) (a' := ?_) #[true, true, true, true, true, true, true, true, true, true, true, false] rfl rfl (any_of HT_.out (by kernel_rfl)) (fun _ _ _ h => h) (Or.inl ⟨by rfl, ?_⟩) ?_ ?_
    rotate_left
    ·intro w'
     go_simp
     with_reducible rfl
    rotate_left
    ·simp only [Act.put, List.setIfInBounds_toArray, List.set_cons_zero, List.set_cons_succ, i64_w, i32_w]
     rfl
    refine pure_ (i := 11) (N := some 24) (v := ?_) (a' := ?_) #[true, true, true, true, true, true, true, true, true, true, true, true] rfl rfl (any_of HT_.out (by kernel_rfl)) (fun _ _ _ h => h) (Or.inl ⟨by rfl, ?_⟩) ?_ ?_
    rotate_left
    ·intro w'
     go_simp
     with_reducible rfl
    rotate_left
    ·simp only [Act.put, List.setIfInBounds_toArray, List.set_cons_zero, List.set_cons_succ, i64_w, i32_w]
     rfl
    refine done_ (done_of HT_.out (by kernel_rfl)) ?_
    try go_wp2
    go_meet
    case rel => exact ⟨_, ((t394 != t395)), (by first | rfl | (simp; done) | (simp [*]; done)), H', ⟨by first | omega | exact Nat.le_refl _⟩, ⟨by (with_reducible repeat (first | apply Kd.R_alloc | apply Kd.R_drewN | apply Kd.R_drew)); exact Kd.R_mono HO389.out (fun _ hk => trivial)⟩, ⟨by (with_reducible repeat (first | apply Kd.S_alloc | apply Kd.S_drewN | apply Kd.S_drew)); exact Kd.S_mono HO385.out (fun _ hk => hk.1.2)⟩, ⟨by (with_reducible repeat (first | refine blk_drewN ?_ _ | refine blk_drew ?_ | refine blk_alloc ?_ _)); exact BK386.out⟩, ⟨by repeat (first | (with_reducible first | exact HB.out | apply bwA | apply bwN | apply bwD | refine below_set ?_ GE386.out) | exact HB.out)⟩⟩
   ·replace c13 := Bool.eq_false_iff.mpr c13
    subst c13
    have H1 : (laws_FnFixedLits.j0 k t387 true t382 t383) = some r := by rw [if_neg (show ¬ (false = true) by decide)] at H; exact H
    clear H
    have H := H1
    clear H1
    have H' := Aside0.mk H
    clear H
    try go_wp2
    have n0_ := Aside0.mk (Kd.S_drew HO385.out)
    have n1_ := Aside0.mk (Kd.R_drew HO389.out)
    have n2_ := Aside0.mk (blk_drew BK386.out)
    have n3_ := Aside0.mk (below_drew1 HB.out)
    clear HO385
    clear HO389
    clear BK386
    clear HB
    have HO385 := n0_
    have HO389 := n1_
    have BK386 := n2_
    have HB := n3_
    clear n0_ n1_ n2_ n3_
    refine start_ (n := 12) (S := fun w' => w'.cell? ⟨gb386, 0, none⟩ = some (.int .i64 t382) ∧ w'.cell? ⟨gb386, 1, none⟩ = some (.slice Ao9 t383.length co9)) (ds := []) #[false, false, false, false, false, false, false, false, false, false, false, false] (by kernel_rfl) rfl rfl ⟨(blk_cell BK386.out 0).trans rfl, (blk_cell BK386.out 1).trans rfl⟩ (fun hHeld => ?_); refine with_tabW laws_FnFixedLits.tab5 laws_FnFixedLits.bits5 (fun HT_ HW_ => ?_)
    generalize w10.drew = w22 at HO385 HO389 BK386 HB hHeld ⊢
    refine pure_ (i := 0) (N := some 13) (v := ?_) (a' := ?_) #[true, false, false, false, false, false, false, false, false, false, false, false] rfl rfl (any_of HT_.out (by kernel_rfl)) (fun _ _ _ h => h) (Or.inl ⟨by rfl, ?_⟩) ?_ ?_
    rotate_left
    ·intro w'
     go_simp
     with_reducible rfl
    rotate_left
    ·simp only [Act.put, List.setIfInBounds_toArray, List.set_cons_zero, List.set_cons_succ, i64_w, i32_w]
     rfl
    refine take_ (i := 1) (N := some 14) (v := ?_) (a' := ?_) #[true, true, false, false, false, false, false, false, false, false, false, false] rfl rfl (take_ofW HT_.out HW_.out (by kernel_rfl)) (fun _ _ _ h => h) (Or.inl ⟨by rfl, ?_⟩) hHeld ?_ ?_
    rotate_left
    ·rintro w' ⟨s0, s1⟩
     go_simp
     with_reducible rfl
    rotate_left
    ·simp only [Act.put, List.setIfInBounds_toArray, List.set_cons_zero, List.set_cons_succ, i64_w, i32_w]
     rfl
    refine one_ (i := 2) (N := some 15) #[true, true, true, false, false, false, false, false, false, false, false, false] rfl rfl (one_of HT_.out (by kernel_rfl)) (by decide) (fun K hK => ?_)
    refine goes_ Try.func35 (by kernel_rfl) rfl #[.agg #[.int .i64 t382, .slice Ao9 t383.length co9]] (by rfl) rfl rfl (by (try simp only [List.map_toArray, List.map_cons, List.map_nil]); first | done | rfl | (simp only [List.length_drop, List.length_take]; rfl)) ?_
    with_reducible refine (spec_FixedLits.calls k t382 _ _ t383 t390 _ ?side1 ?side2 A11.out).mono ?_
    (case side1 => repeat (first | exact (Kd.S_reads' HO385.out).2.2 | (with_reducible refine Kd.C_alloc ?_ _) | (with_reducible refine Kd.C_drewN ?_ _) | (with_reducible refine Kd.C_drew ?_)))
    (case side2 => exact (Kd.S_reads' HO385.out).2.1)
    rintro e w23 ⟨v391, rfl, ho0, hb⟩
    refine ⟨_, rfl, ?_⟩
    have n0_ := Aside0.mk (Kd.S_elder' (by (with_reducible repeat (first | apply Kd.S_alloc | apply Kd.S_drewN | apply Kd.S_drew)); exact HO385.out) (Kd.R_base ho0) hb)
    have n1_ := Aside0.mk (Kd.R_elder' (by (with_reducible repeat (first | apply Kd.R_alloc | apply Kd.R_drewN | apply Kd.R_drew)); exact HO389.out) (Kd.R_base ho0) hb)
    have n2_ := Aside0.mk (Kd.R_lower (Kd.R_new' ho0 (Kd.R_lt (by (with_reducible repeat (first | apply Kd.R_alloc | apply Kd.R_drewN | apply Kd.R_drew)); exact HO389.out))) (below_size (by repeat (first | (with_reducible first | exact HB.out | apply bwA | apply bwN | apply bwD | refine below_set ?_ GE386.out) | exact HB.out))))
    have n3_ := Aside0.mk (blk_below (g := gb386) (o := .cells #[.int .i64 t382, .slice Ao9 t383.length co9] 29 (0, 0)) (by (with_reducible repeat (first | refine blk_drewN ?_ _ | refine blk_drew ?_ | refine blk_alloc ?_ _)); exact BK386.out) hb)
    have n4_ := Aside0.mk (below_step (by repeat (first | (with_reducible first | exact HB.out | apply bwA | apply bwN | apply bwD | refine below_set ?_ GE386.out) | exact HB.out)) hb)
    clear HO385
    clear HO389
    clear BK386
    clear HB
    have HO385 := n0_
    have HO389 := n1_
    have HO392 := n2_
    have BK386 := n3_
    have HB := n4_
    clear n0_ n1_ n2_ n3_ n4_
    (try clear hb)
    (try clear hb2)
    (try clear hk)
    (try clear hi)
    (try clear ho0)
    obtain ⟨Ao24, co24, eo24⟩ := Kd.R_slice HO389.out
    (first | subst eo24 | (injection eo24 with f1_ f2_ f3_; have f4_ := f1_.symm; have f5_ := f3_.symm; clear f1_ f2_ f3_; subst f4_; subst f5_))
    obtain ⟨Ao25, co25, eo25⟩ := Kd.R_slice HO392.out
    (first | subst eo25 | (injection eo25 with f1_ f2_ f3_; have f4_ := f1_.symm; have f5_ := f3_.symm; clear f1_ f2_ f3_; subst f4_; subst f5_))
    refine hK.out _ _ ⟨(blk_cell BK386.out 0).trans rfl, (blk_cell BK386.out 1).trans rfl⟩ (fun hHeld => ?_)
    clear hK K
    refine norm_ (a' := ?_) ?_ ?_
    rotate_left
    ·show Act.put _ (some 15) _ = _
     simp only [Act.put, List.setIfInBounds_toArray, List.set_cons_zero, List.set_cons_succ, i64_w, i32_w]
     rfl
    refine one_ (i := 3) (N := some 16) #[true, true, true, true, false, false, false, false, false, false, false, false] rfl rfl (one_of HT_.out (by kernel_rfl)) (by decide) (fun K hK => ?_)
    refine goes_ Try.func23 (by kernel_rfl) rfl #[.slice Ao24 t387.length co24, .slice Ao25 t390.length co25] (by rfl) rfl rfl (by (try simp only [List.map_toArray, List.map_cons, List.map_nil]); first | done | rfl | (simp only [List.length_drop, List.length_take]; rfl)) ?_
    with_reducible refine (laws_wcInts.calls k _ _ t387 _ _ t390 false _ ?side1 ?side2 ?side3 ?side4 A12.out).mono ?_
    (case side1 => repeat (first | exact (Kd.R_reads' HO389.out).2.2 | (with_reducible refine Kd.C_alloc ?_ _) | (with_reducible refine Kd.C_drewN ?_ _) | (with_reducible refine Kd.C_drew ?_)))
    (case side2 => exact (Kd.R_reads' HO389.out).2.1)
    (case side3 => repeat (first | exact (Kd.R_reads' HO392.out).2.2 | (with_reducible refine Kd.C_alloc ?_ _) | (with_reducible refine Kd.C_drewN ?_ _) | (with_reducible refine Kd.C_drew ?_)))
    (case side4 => exact (Kd.R_reads' HO392.out).2.1)
    rintro e w' ⟨rfl, ⟨nd, rfl⟩⟩
    refine ⟨_, rfl, ?_⟩
    refine hK.out _ _ ⟨(blk_cell BK386.out 0).trans rfl, (blk_cell BK386.out 1).trans rfl⟩ (fun hHeld => ?_)
    clear hK K
    refine norm_ (a' := ?_) ?_ ?_
    rotate_left
    ·show Act.put _ (some 16) _ = _
     simp only [Act.put, List.setIfInBounds_toArray, List.set_cons_zero, List.set_cons_succ, i64_w, i32_w]
     rfl
    refine pure_ (i := 4) (N := some 17) (v := ?_) (a' := ?_) #[true, true, true, true, true, false, false, false, false, false, false, false] rfl rfl (any_of HT_.out (by kernel_rfl)) (fun _ _ _ h => h) (Or.inl ⟨by rfl, ?_⟩) ?_ ?_
    rotate_left
    ·intro w'
     go_simp
     with_reducible rfl
    rotate_left
    ·simp only [Act.put, List.setIfInBounds_toArray, List.set_cons_zero, List.set_cons_succ, i64_w, i32_w]
     rfl
    refine pure_ (i := 5) (N := some 18) (v := ?_) (a' := ?_) #[true, true, true, true, true, true, false, false, false, false, false, false] rfl rfl (any_of HT_.out (by kernel_rfl)) (fun _ _ _ h => h) (Or.inl ⟨by rfl, ?_⟩) ?_ ?_
    rotate_left
    ·intro w'
     go_simp
     with_reducible rfl
    rotate_left
    ·simp only [Act.put, List.setIfInBounds_toArray, List.set_cons_zero, List.set_cons_succ, i64_w, i32_w]
     rfl
    refine pure_ (i := 6) (N := some 19) (v := undef) (a' := ?_) #[true, true, true, true, true, true, true, false, false, false, false, false] rfl rfl (any_of HT_.out (by kernel_rfl)) (fun _ _ _ h => h) (Or.inr ⟨by rfl, rfl⟩) ?_ ?_
    rotate_left
    ·simp only [Act.put, List.setIfInBounds_toArray, List.set_cons_zero, List.set_cons_succ, i64_w, i32_w]
     rfl
    refine pure_ (i := 7) (N := some 20) (v := undef) (a' := ?_) #[true, true, true, true, true, true, true, true, false, false, false, false] rfl rfl (any_of HT_.out (by kernel_rfl)) (fun _ _ _ h => h) (Or.inr ⟨by rfl, rfl⟩) ?_ ?_
    rotate_left
    ·simp only [Act.put, List.setIfInBounds_toArray, List.set_cons_zero, List.set_cons_succ, i64_w, i32_w]
     rfl
    refine pure_ (i := 8) (N := some 21) (v := undef) (a' := ?_) #[true, true, true, true, true, true, true, true, true, false, false, false] rfl rfl (any_of HT_.out (by kernel_rfl)) (fun _ _ _ h => h) (Or.inr ⟨by rfl, rfl⟩) ?_ ?_
    rotate_left
    ·simp only [Act.put, List.setIfInBounds_toArray, List.set_cons_zero, List.set_cons_succ, i64_w, i32_w]
     rfl
    refine pure_ (i := 9) (N := some 22) (v := undef) (a' := ?_) #[true, true, true, true, true, true, true, true, true, true, false, false] rfl rfl (any_of HT_.out (by kernel_rfl)) (fun _ _ _ h => h) (Or.inr ⟨by rfl, rfl⟩) ?_ ?_
    rotate_left
    ·simp only [Act.put, List.setIfInBounds_toArray, List.set_cons_zero, List.set_cons_succ, i64_w, i32_w]
     rfl
    refine pure_ (i := 10) (N := some 23) (v := undef) (a' := ?_) #[true, true, true, true, true, true, true, true, true, true, true, false] rfl rfl (any_of HT_.out (by kernel_rfl)) (fun _ _ _ h => h) (Or.inr ⟨by rfl, rfl⟩) ?_ ?_
    rotate_left
    ·simp only [Act.put, List.setIfInBounds_toArray, List.set_cons_zero, List.set_cons_succ, i64_w, i32_w]
     rfl
    refine pure_ (i := 11) (N := some 24) (v := ?_) (a' := ?_) #[true, true, true, true, true, true, true, true, true, true, true, true] rfl rfl (any_of HT_.out (by kernel_rfl)) (fun _ _ _ h => h) (Or.inl ⟨by rfl, ?_⟩) ?_ ?_
    rotate_left
    ·intro w'
     go_simp
     with_reducible rfl
    rotate_left
    ·simp only [Act.put, List.setIfInBounds_toArray, List.set_cons_zero, List.set_cons_succ, i64_w, i32_w]
     rfl
    refine done_ (done_of HT_.out (by kernel_rfl)) ?_
    try go_wp2
    go_meet
    case rel => exact ⟨_, (true), (by first | rfl | (simp; done) | (simp [*]; done)), H', ⟨by first | omega | exact Nat.le_refl _⟩, ⟨by (with_reducible repeat (first | apply Kd.R_alloc | apply Kd.R_drewN | apply Kd.R_drew)); exact Kd.R_mono HO389.out (fun _ hk => trivial)⟩, ⟨by (with_reducible repeat (first | apply Kd.S_alloc | apply Kd.S_drewN | apply Kd.S_drew)); exact Kd.S_mono HO385.out (fun _ hk => hk.1.2)⟩, ⟨by (with_reducible repeat (first | refine blk_drewN ?_ _ | refine blk_drew ?_ | refine blk_alloc ?_ _)); exact BK386.out⟩, ⟨by repeat (first | (with_reducible first | exact HB.out | apply bwA | apply bwN | apply bwD | refine below_set ?_ GE386.out) | exact HB.out)⟩⟩
  case rest =>
   clear HC5
   try clear c1
   try clear c2
   try clear c2b0
   try clear c2b1
   try clear p2
   try clear c3
   try clear c8
   try clear c13
   try clear c23
   try clear hcz8_0
   try clear hcz8_1
   try clear hfz8_0
   try clear hfz8_1
   obtain ⟨kq, x24_4, rfl, HA, HJ4, HO_4, HO_387001, BK386, HB⟩ := hcut
   cases kq with
   | zero => exact absurd HA.out (by simp [laws_FnFixedLits.j0])
   | succ kj4 =>
    have H := HA.out
    clear HA
    simp only [laws_FnFixedLits.j0] at H
    by_cases c26 : x24_4 = true
    ·subst c26
     have H1 : (some false) = some r := by rw [if_pos rfl] at H; exact H
     clear H
     have H := H1
     clear H1
     obtain rfl := Option.some.inj H
     go_wp2
     go_ret
     exact ⟨by first | rfl | (simp [errW_none, errW_some] <;> rfl) | (simp [*, errW_none, errW_some] <;> rfl), by repeat (first | (with_reducible first | exact HB.out | apply bwA | apply bwN | apply bwD | refine below_set ?_ GE386.out) | exact HB.out)⟩
    ·replace c26 := Bool.eq_false_iff.mpr c26
     subst c26
     have H1 : (laws_FnFixedLits.l0 kj4 t387 1 t382 t383) = some r := by rw [if_neg (show ¬ (false = true) by decide)] at H; exact H
     clear H
     have H := H1
     clear H1
     have H' := Aside0.mk H
     clear H
     go_wp2
     go_loopg [5] kj4 (fun kq v5 w' => ∃ (x5_2 : Int), v5 = .int .i64 x5_2 ∧ Aside0 (laws_FnFixedLits.l0 kq t387 x5_2 t382 t383 = some r) ∧ Aside0 (kq ≤ kj4) ∧ Aside0 (Kd.R (Kd.int .i64) 3 w' w.heap.size (fun _ => True) v388 t387) ∧ Aside0 (Kd.S (Kd.slice 3 (Kd.int .i64)) 25 w' w.heap.size (fun k_ => some k_ ≠ (v388 : Value).ownBlock) (.slice Ao9 t383.length co9) t383) ∧ Aside0 (w'.heap[gb386]? = some (.cells #[.int .i64 t382, (.slice Ao9 t383.length co9)] 29 (0, 0))) ∧ Aside0 (Below w.heap.size w w'))
     case atStart => exact ⟨(1), (by first | rfl | (simp; done) | (simp [*]; done)), H', ⟨Nat.le_refl _⟩, ⟨by (with_reducible repeat (first | apply Kd.R_alloc | apply Kd.R_drewN | apply Kd.R_drew)); exact HO_4.out⟩, ⟨by (with_reducible repeat (first | apply Kd.S_alloc | apply Kd.S_drewN | apply Kd.S_drew)); exact HO_387001.out⟩, ⟨by (with_reducible repeat (first | refine blk_drewN ?_ _ | refine blk_drew ?_ | refine blk_alloc ?_ _)); exact BK386.out⟩, ⟨by repeat (first | (with_reducible first | exact HB.out | apply bwA | apply bwN | apply bwD | refine below_set ?_ GE386.out) | exact HB.out)⟩⟩
     case round =>
      clear H'
      try clear c1
      try clear c2
      try clear c2b0
      try clear c2b1
      try clear p2
      try clear c3
      try clear c8
      try clear c13
      try clear c23
      try clear c26
      try clear hcz8_0
      try clear hcz8_1
      try clear hfz8_0
      try clear hfz8_1
      try clear p2
      obtain ⟨x5_2, rfl, HA, HK2, HO_4, HO_387001, BK386, HB⟩ := hrel
      cases gk with
      | zero => exact absurd HA.out (by simp [laws_FnFixedLits.l0])
      | succ k2 =>
       have H := HA.out
       clear HA
       simp only [laws_FnFixedLits.l0] at H
       have HC27 := Aside0.mk H
       clear H
       go_upto_region 8 with (fail)
       go_cut [33] (fun v33 wc => ∃ (kq : Nat) (x33_26 : Bool), v33 = .bool x33_26 ∧ Aside0 (laws_FnFixedLits.j2 kq t387 x5_2 x33_26 t382 t383 = some r) ∧ Aside0 (kq ≤ k2) ∧ Aside0 (Kd.R (Kd.int .i64) 3 wc w.heap.size (fun _ => True) v388 t387) ∧ Aside0 (Kd.S (Kd.slice 3 (Kd.int .i64)) 25 wc w.heap.size (fun k_ => some k_ ≠ (v388 : Value).ownBlock) (.slice Ao9 t383.length co9) t383) ∧ Aside0 (wc.heap[gb386]? = some (.cells #[.int .i64 t382, (.slice Ao9 t383.length co9)] 29 (0, 0))) ∧ Aside0 (Below w.heap.size w wc))
       case first =>
        have H := HC27.out
        clear HC27
        by_cases c28 : x5_2 ≤ t382
        ·rw [if_pos c28] at H
         have c28b0 : decide (x5_2 ≤ t382) = true := decide_eq_true c28
         clear c28
         (first | rw [c28b0] | (simp only [i64_w, i32_w]; rw [c28b0]) | skip)
         replace H := Option.bind_eq_some_iff.mp H
         obtain ⟨t396, A290, H⟩ := H
         replace H : (laws_FnFixedLits.j2 k2 t387 x5_2 (decide (t396 > 0)) t382 t383) = some r := H
         have A29 := Aside0.mk A290
         clear A290
         have H' := Aside0.mk H
         clear H
         have hcz30_0 : wr.cell? ⟨gb386, 0, none⟩ = some (.int .i64 t382) := (blk_cell BK386.out 0).trans rfl
         have hcz30_1 : wr.cell? ⟨gb386, 1, none⟩ = some (.slice Ao9 t383.length co9) := (blk_cell BK386.out 1).trans rfl
         have hfz30_0 := blk_frozen BK386.out 0
         have hfz30_1 := blk_frozen BK386.out 1
         go_wp2_with (first | (go_at_call 38; (with_reducible refine (impl_CountModels.calls k2 t382 _ _ t383 t396 _ ?side1 ?side2 A29.out).mono ?_); (case side1 => repeat (first | exact (Kd.S_reads' HO_387001.out).2.2 | (with_reducible refine Kd.C_alloc ?_ _) | (with_reducible refine Kd.C_drewN ?_ _) | (with_reducible refine Kd.C_drew ?_))); (case side2 => exact (Kd.S_reads' HO_387001.out).2.1); rintro e w31 ⟨rfl, hb⟩; have n0_ := Aside0.mk (Kd.R_below (by (with_reducible repeat (first | apply Kd.R_alloc | apply Kd.R_drewN | apply Kd.R_drew)); exact HO_4.out) hb); have n1_ := Aside0.mk (Kd.S_below (by (with_reducible repeat (first | apply Kd.S_alloc | apply Kd.S_drewN | apply Kd.S_drew)); exact HO_387001.out) hb); have n2_ := Aside0.mk (blk_below (g := gb386) (o := .cells #[.int .i64 t382, .slice Ao9 t383.length co9] 29 (0, 0)) (by (with_reducible repeat (first | refine blk_drewN ?_ _ | refine blk_drew ?_ | refine blk_alloc ?_ _)); exact BK386.out) hb); have n3_ := Aside0.mk (below_step (by repeat (first | (with_reducible first | exact HB.out | apply bwA | apply bwN | apply bwD | refine below_set ?_ GE386.out) | exact HB.out)) hb); clear HO_4; clear HO_387001; clear BK386; clear HB; have HO_4 := n0_; have HO_387001 := n1_; have BK386 := n2_; have HB := n3_; clear n0_ n1_ n2_ n3_; (try clear hb); (try clear hb2); (try clear hk); (try clear hi)))
         go_meet
         case rel => exact ⟨_, (decide (t396 > 0)), (by first | rfl | (simp; done) | (simp [*]; done)), H', ⟨by have := HJ4.out; have := HK2.out; first | omega | exact Nat.le_refl _⟩, ⟨by (with_reducible repeat (first | apply Kd.R_alloc | apply Kd.R_drewN | apply Kd.R_drew)); exact HO_4.out⟩, ⟨by (with_reducible repeat (first | apply Kd.S_alloc | apply Kd.S_drewN | apply Kd.S_drew)); exact HO_387001.out⟩, ⟨by (with_reducible repeat (first | refine blk_drewN ?_ _ | refine blk_drew ?_ | refine blk_alloc ?_ _)); exact BK386.out⟩, ⟨by repeat (first | (with_reducible first | exact HB.out | apply bwA | apply bwN | apply bwD | refine below_set ?_ GE386.out) | exact HB.out)⟩⟩
        ·rw [if_neg c28] at H
         have c28b0 : decide (x5_2 ≤ t382) = false := decide_eq_false c28
         clear c28
         (first | rw [c28b0] | (simp only [i64_w, i32_w]; rw [c28b0]) | skip)
         have H' := Aside0.mk H
         clear H
         have hcz32_0 : wr.cell? ⟨gb386, 0, none⟩ = some (.int .i64 t382) := (blk_cell BK386.out 0).trans rfl
         have hcz32_1 : wr.cell? ⟨gb386, 1, none⟩ = some (.slice Ao9 t383.length co9) := (blk_cell BK386.out 1).trans rfl
         have hfz32_0 := blk_frozen BK386.out 0
         have hfz32_1 := blk_frozen BK386.out 1
         go_wp2
         go_meet
         case rel => exact ⟨_, (false), (by first | rfl | (simp; done) | (simp [*]; done)), H', ⟨by have := HJ4.out; have := HK2.out; first | omega | exact Nat.le_refl _⟩, ⟨by (with_reducible repeat (first | apply Kd.R_alloc | apply Kd.R_drewN | apply Kd.R_drew)); exact HO_4.out⟩, ⟨by (with_reducible repeat (first | apply Kd.S_alloc | apply Kd.S_drewN | apply Kd.S_drew)); exact HO_387001.out⟩, ⟨by (with_reducible repeat (first | refine blk_drewN ?_ _ | refine blk_drew ?_ | refine blk_alloc ?_ _)); exact BK386.out⟩, ⟨by repeat (first | (with_reducible first | exact HB.out | apply bwA | apply bwN | apply bwD | refine below_set ?_ GE386.out) | exact HB.out)⟩⟩
       case rest =>
        clear HC27
        try clear c1
        try clear c2
        try clear c2b0
        try clear c2b1
        try clear p2
        try clear c3
        try clear c8
        try clear c13
        try clear c23
        try clear c26
        try clear c28
        try clear c28b0
        try clear hcz30_0
        try clear hcz30_1
        try clear hcz32_0
        try clear hcz32_1
        try clear hcz8_0
        try clear hcz8_1
        try clear hfz30_0
        try clear hfz30_1
        try clear hfz32_0
        try clear hfz32_1
        try clear hfz8_0
        try clear hfz8_1
        try clear p2
        obtain ⟨kq, x33_26, rfl, HA, HJ26, HO_4, HO_387001, BK386, HB⟩ := hcut
        cases kq with
        | zero => exact absurd HA.out (by simp [laws_FnFixedLits.j2])
        | succ kj26 =>
         have H := HA.out
         clear HA
         simp only [laws_FnFixedLits.j2] at H
         by_cases c33 : x33_26 = true
         ·subst c33
          have H1 : ((impl_FollowsFrom.f kj26 t382 t383 (([x5_2] : List Int))).bind fun t401 => ((laws_wcHas.f kj26 t387 x5_2).bind fun t402 => (if (t401 != t402) = true then (some false) else ((impl_FollowsFrom.f kj26 t382 t383 (([wrap64 (-x5_2)] : List Int))).bind fun t406 => ((laws_wcHas.f kj26 t387 (wrap64 (-x5_2))).bind fun t407 => (if (t406 != t407) = true then (some false) else (laws_FnFixedLits.l0 kj26 t387 (wrap64 (x5_2 + 1)) t382 t383))))))) = some r := by rw [if_pos rfl] at H; exact H
          clear H
          have H := H1
          clear H1
          obtain ⟨y398, hy398⟩ : ∃ y_ : List Int, y_ = (([x5_2] : List Int)) := ⟨_, rfl⟩
          replace H : ((impl_FollowsFrom.f kj26 t382 t383 y398).bind fun t401 => ((laws_wcHas.f kj26 t387 x5_2).bind fun t402 => (if (t401 != t402) = true then (some false) else ((impl_FollowsFrom.f kj26 t382 t383 (([wrap64 (-x5_2)] : List Int))).bind fun t406 => ((laws_wcHas.f kj26 t387 (wrap64 (-x5_2))).bind fun t407 => (if (t406 != t407) = true then (some false) else (laws_FnFixedLits.l0 kj26 t387 (wrap64 (x5_2 + 1)) t382 t383))))))) = some r := by first | (rw [hy398]; with_reducible exact H) | (have H2_ := (Option.bind_some _ _).symm.trans H; rw [hy398]; with_reducible exact H2_) | (have H2_ := (Option.bind_some _ _).symm.trans H; with_reducible exact H2_) | with_reducible exact H | (rw [hy398]; exact H) | exact H
          have Ny398 := Aside0.mk hy398
          clear hy398
          replace H := Option.bind_eq_some_iff.mp H
          obtain ⟨t401, A340, H⟩ := H
          replace H : ((laws_wcHas.f kj26 t387 x5_2).bind fun t402 => (if (t401 != t402) = true then (some false) else ((impl_FollowsFrom.f kj26 t382 t383 (([wrap64 (-x5_2)] : List Int))).bind fun t406 => ((laws_wcHas.f kj26 t387 (wrap64 (-x5_2))).bind fun t407 => (if (t406 != t407) = true then (some false) else (laws_FnFixedLits.l0 kj26 t387 (wrap64 (x5_2 + 1)) t382 t383)))))) = some r := H
          have A34 := Aside0.mk A340
          clear A340
          replace H := Option.bind_eq_some_iff.mp H
          obtain ⟨t402, A350, H⟩ := H
          replace H : (if (t401 != t402) = true then (some false) else ((impl_FollowsFrom.f kj26 t382 t383 (([wrap64 (-x5_2)] : List Int))).bind fun t406 => ((laws_wcHas.f kj26 t387 (wrap64 (-x5_2))).bind fun t407 => (if (t406 != t407) = true then (some false) else (laws_FnFixedLits.l0 kj26 t387 (wrap64 (x5_2 + 1)) t382 t383))))) = some r := H
          have A35 := Aside0.mk A350
          clear A350
          by_cases c36 : (t401 != t402) = true
          ·rw [if_pos c36] at H
           have c36b0 : (t401 != t402) = true := c36
           (try (have c36b1 : decide (t401 = t402) = false := by simpa using c36))
           (try (have c36b2 : (t401 == t402) = false := by simpa using c36))
           (try (have c36b3 : ¬ (t401 = t402) := by simpa using c36))
           clear c36
           obtain rfl := Option.some.inj H
           have hcz37_0 : wc.cell? ⟨gb386, 0, none⟩ = some (.int .i64 t382) := (blk_cell BK386.out 0).trans rfl
           have hcz37_1 : wc.cell? ⟨gb386, 1, none⟩ = some (.slice Ao9 t383.length co9) := (blk_cell BK386.out 1).trans rfl
           have hfz37_0 := blk_frozen BK386.out 0
           have hfz37_1 := blk_frozen BK386.out 1
           go_wp2_with (first | ((with_reducible refine gate_dst (N := 38) rfl ?_); (try (refine gate_guard (by rfl) ?_; dsimp only)); refine Kd.R_lit (Kd.int .i64) _ 3 ?hg (N := 38) ?hd (xs := ([x5_2] : List Int)) (inner := [.int .i64 x5_2]) (ok := fun _ => True) (okp := fun _ => True) ?hr ?hp (fun _ hk => hk) trivial (Below.refl _ _) (Nat.le_refl _) (by simp) ?_; (case hd => rfl); (case hg => rfl); (case hr => first | (go_simp; done) | (go_simp; rfl)); (case hp => exact (Reps.one (show Kd.M (Kd.int .i64) _ _ _ x5_2 [.int .i64 x5_2] from rfl) (Reps.none _ _))); intro v399 w38 ho39 hb hg_ hnew_; clear hg_ hnew_; (first | rw [← Ny398.out] at ho39 | (simp only [Int.reduceToNat] at ho39; rw [← Ny398.out] at ho39)); have n0_ := Aside0.mk (Kd.R_elder' (by (with_reducible repeat (first | apply Kd.R_alloc | apply Kd.R_drewN | apply Kd.R_drew)); exact HO_4.out) (Kd.R_base ho39) hb); have n1_ := Aside0.mk (Kd.S_elder' (by (with_reducible repeat (first | apply Kd.S_alloc | apply Kd.S_drewN | apply Kd.S_drew)); exact HO_387001.out) (Kd.R_base ho39) hb); have n2_ := Aside0.mk (Kd.R_lower (Kd.R_new' ho39 (Kd.R_lt (by (with_reducible repeat (first | apply Kd.R_alloc | apply Kd.R_drewN | apply Kd.R_drew)); exact HO_4.out))) (below_size (by repeat (first | (with_reducible first | exact HB.out | apply bwA | apply bwN | apply bwD | refine below_set ?_ GE386.out) | exact HB.out)))); have n3_ := Aside0.mk (blk_below (g := gb386) (o := .cells #[.int .i64 t382, .slice Ao9 t383.length co9] 29 (0, 0)) (by (with_reducible repeat (first | refine blk_drewN ?_ _ | refine blk_drew ?_ | refine blk_alloc ?_ _)); exact BK386.out) hb); have n4_ := Aside0.mk (below_step (by repeat (first | (with_reducible first | exact HB.out | apply bwA | apply bwN | apply bwD | refine below_set ?_ GE386.out) | exact HB.out)) hb); clear HO_4; clear HO_387001; clear BK386; clear HB; have HO_4 := n0_; have HO_387001 := n1_; have HO400 := n2_; have BK386 := n3_; have HB := n4_; clear n0_ n1_ n2_ n3_ n4_; clear hb ho39; obtain ⟨Ao40, co40, eo40⟩ := Kd.R_slice HO400.out; subst eo40) | ((with_reducible refine gate_callee (f := 29) rfl ?_); refine goesL_ (some 39) rfl rfl Try.func29 (by kernel_rfl) rfl #[.agg #[.int .i64 t382, .slice Ao9 t383.length co9], .slice Ao40 y398.length co40] rfl (by (try simp only [List.map_toArray, List.map_cons, List.map_nil]); first | done | rfl | (simp only [List.length_drop, List.length_take]; rfl)) ?_; (with_reducible refine (impl_FollowsFrom.calls kj26 t382 _ _ t383 _ _ y398 t401 _ ?side1 ?side2 ?side3 ?side4 A34.out).mono ?_); (case side1 => repeat (first | exact (Kd.S_reads' HO_387001.out).2.2 | (with_reducible refine Kd.C_alloc ?_ _) | (with_reducible refine Kd.C_drewN ?_ _) | (with_reducible refine Kd.C_drew ?_))); (case side2 => exact (Kd.S_reads' HO_387001.out).2.1); (case side3 => repeat (first | exact (Kd.R_reads' HO400.out).2.2 | (with_reducible refine Kd.C_alloc ?_ _) | (with_reducible refine Kd.C_drewN ?_ _) | (with_reducible refine Kd.C_drew ?_))); (case side4 => exact (Kd.R_reads' HO400.out).2.1); rintro e w41 ⟨rfl, hb⟩; refine ⟨_, rfl, ?_⟩; have n0_ := Aside0.mk (Kd.R_below (by (with_reducible repeat (first | apply Kd.R_alloc | apply Kd.R_drewN | apply Kd.R_drew)); exact HO_4.out) hb); have n1_ := Aside0.mk (Kd.S_below (by (with_reducible repeat (first | apply Kd.S_alloc | apply Kd.S_drewN | apply Kd.S_drew)); exact HO_387001.out) hb); have n2_ := Aside0.mk (Kd.R_below (by (with_reducible repeat (first | apply Kd.R_alloc | apply Kd.R_drewN | apply Kd.R_drew)); exact HO400.out) hb); have n3_ := Aside0.mk (blk_below (g := gb386) (o := .cells #[.int .i64 t382, .slice Ao9 t383.length co9] 29 (0, 0)) (by (with_reducible repeat (first | refine blk_drewN ?_ _ | refine blk_drew ?_ | refine blk_alloc ?_ _)); exact BK386.out) hb); have n4_ := Aside0.mk (below_step (by repeat (first | (with_reducible first | exact HB.out | apply bwA | apply bwN | apply bwD | refine below_set ?_ GE386.out) | exact HB.out)) hb); clear HO_4; clear HO_387001; clear HO400; clear BK386; clear HB; have HO_4 := n0_; have HO_387001 := n1_; have HO400 := n2_; have BK386 := n3_; have HB := n4_; clear n0_ n1_ n2_ n3_ n4_; (try clear hb); (try clear hb2); (try clear hk); (try clear hi); obtain ⟨Ao42, co42, eo42⟩ := Kd.R_slice HO_4.out; subst eo42) | ((with_reducible refine gate_callee (f := 40) rfl ?_); refine goesL_ (some 42) rfl rfl Try.func40 (by kernel_rfl) rfl #[.slice Ao42 t387.length co42, .int .i64 x5_2] rfl (by (try simp only [List.map_toArray, List.map_cons, List.map_nil]); first | done | rfl | (simp only [List.length_drop, List.length_take]; rfl)) ?_; (with_reducible refine (laws_wcHas.calls kj26 _ _ t387 x5_2 t402 _ ?side1 ?side2 A35.out).mono ?_); (case side1 => repeat (first | exact (Kd.R_reads' HO_4.out).2.2 | (with_reducible refine Kd.C_alloc ?_ _) | (with_reducible refine Kd.C_drewN ?_ _) | (with_reducible refine Kd.C_drew ?_))); (case side2 => exact (Kd.R_reads' HO_4.out).2.1); rintro e w' ⟨rfl, ⟨nd, rfl⟩⟩; refine ⟨_, rfl, ?_⟩))
           go_ret
           exact ⟨by first | rfl | (simp [errW_none, errW_some] <;> rfl) | (simp [*, errW_none, errW_some] <;> rfl), by repeat (first | (with_reducible first | exact HB.out | apply bwA | apply bwN | apply bwD | refine below_set ?_ GE386.out) | exact HB.out)⟩
          ·rw [if_neg c36] at H
           have c36b0 : (t401 != t402) = false := by simpa using c36
           (try (have c36b1 : decide (t401 = t402) = true := by simpa using c36))
           (try (have c36b2 : (t401 == t402) = true := by simpa using c36))
           clear c36
           obtain ⟨y403, hy403⟩ : ∃ y_ : List Int, y_ = (([wrap64 (-x5_2)] : List Int)) := ⟨_, rfl⟩
           replace H : ((impl_FollowsFrom.f kj26 t382 t383 y403).bind fun t406 => ((laws_wcHas.f kj26 t387 (wrap64 (-x5_2))).bind fun t407 => (if (t406 != t407) = true then (some false) else (laws_FnFixedLits.l0 kj26 t387 (wrap64 (x5_2 + 1)) t382 t383)))) = some r := by first | (rw [hy403]; with_reducible exact H) | (have H2_ := (Option.bind_some _ _).symm.trans H; rw [hy403]; with_reducible exact H2_) | (have H2_ := (Option.bind_some _ _).symm.trans H; with_reducible exact H2_) | with_reducible exact H | (rw [hy403]; exact H) | exact H
           have Ny403 := Aside0.mk hy403
           clear hy403
           replace H := Option.bind_eq_some_iff.mp H
           obtain ⟨t406, A430, H⟩ := H
           replace H : ((laws_wcHas.f kj26 t387 (wrap64 (-x5_2))).bind fun t407 => (if (t406 != t407) = true then (some false) else (laws_FnFixedLits.l0 kj26 t387 (wrap64 (x5_2 + 1)) t382 t383))) = some r := H
           have A43 := Aside0.mk A430
           clear A430
           replace H := Option.bind_eq_some_iff.mp H
           obtain ⟨t407, A440, H⟩ := H
           replace H : (if (t406 != t407) = true then (some false) else (laws_FnFixedLits.l0 kj26 t387 (wrap64 (x5_2 + 1)) t382 t383)) = some r := H
           have A44 := Aside0.mk A440
           clear A440
           by_cases c45 : (t406 != t407) = true
           ·rw [if_pos c45] at H
            have c45b0 : (t406 != t407) = true := c45
            (try (have c45b1 : decide (t406 = t407) = false := by simpa using c45))
            (try (have c45b2 : (t406 == t407) = false := by simpa using c45))
            (try (have c45b3 : ¬ (t406 = t407) := by simpa using c45))
            clear c45
            obtain rfl := Option.some.inj H
            have hcz46_0 : wc.cell? ⟨gb386, 0, none⟩ = some (.int .i64 t382) := (blk_cell BK386.out 0).trans rfl
            have hcz46_1 : wc.cell? ⟨gb386, 1, none⟩ = some (.slice Ao9 t383.length co9) := (blk_cell BK386.out 1).trans rfl
            have hfz46_0 := blk_frozen BK386.out 0
            have hfz46_1 := blk_frozen BK386.out 1
            go_wp2_with (first | ((with_reducible refine gate_dst (N := 38) rfl ?_); (try (refine gate_guard (by rfl) ?_; dsimp only)); refine Kd.R_lit (Kd.int .i64) _ 3 ?hg (N := 38) ?hd (xs := ([x5_2] : List Int)) (inner := [.int .i64 x5_2]) (ok := fun _ => True) (okp := fun _ => True) ?hr ?hp (fun _ hk => hk) trivial (Below.refl _ _) (Nat.le_refl _) (by simp) ?_; (case hd => rfl); (case hg => rfl); (case hr => first | (go_simp; done) | (go_simp; rfl)); (case hp => exact (Reps.one (show Kd.M (Kd.int .i64) _ _ _ x5_2 [.int .i64 x5_2] from rfl) (Reps.none _ _))); intro v399 w47 ho48 hb hg_ hnew_; clear hg_ hnew_; (first | rw [← Ny398.out] at ho48 | (simp only [Int.reduceToNat] at ho48; rw [← Ny398.out] at ho48)); have n0_ := Aside0.mk (Kd.R_elder' (by (with_reducible repeat (first | apply Kd.R_alloc | apply Kd.R_drewN | apply Kd.R_drew)); exact HO_4.out) (Kd.R_base ho48) hb); have n1_ := Aside0.mk (Kd.S_elder' (by (with_reducible repeat (first | apply Kd.S_alloc | apply Kd.S_drewN | apply Kd.S_drew)); exact HO_387001.out) (Kd.R_base ho48) hb); have n2_ := Aside0.mk (Kd.R_lower (Kd.R_new' ho48 (Kd.R_lt (by (with_reducible repeat (first | apply Kd.R_alloc | apply Kd.R_drewN | apply Kd.R_drew)); exact HO_4.out))) (below_size (by repeat (first | (with_reducible first | exact HB.out | apply bwA | apply bwN | apply bwD | refine below_set ?_ GE386.out) | exact HB.out)))); have n3_ := Aside0.mk (blk_below (g := gb386) (o := .cells #[.int .i64 t382, .slice Ao9 t383.length co9] 29 (0, 0)) (by (with_reducible repeat (first | refine blk_drewN ?_ _ | refine blk_drew ?_ | refine blk_alloc ?_ _)); exact BK386.out) hb); have n4_ := Aside0.mk (below_step (by repeat (first | (with_reducible first | exact HB.out | apply bwA | apply bwN | apply bwD | refine below_set ?_ GE386.out) | exact HB.out)) hb); clear HO_4; clear HO_387001; clear BK386; clear HB; have HO_4 := n0_; have HO_387001 := n1_; have HO400 := n2_; have BK386 := n3_; have HB := n4_; clear n0_ n1_ n2_ n3_ n4_; clear hb ho48; obtain ⟨Ao49, co49, eo49⟩ := Kd.R_slice HO400.out; subst eo49) | ((with_reducible refine gate_callee (f := 29) rfl ?_); refine goesL_ (some 39) rfl rfl Try.func29 (by kernel_rfl) rfl #[.agg #[.int .i64 t382, .slice Ao9 t383.length co9], .slice Ao49 y398.length co49] rfl (by (try simp only [List.map_toArray, List.map_cons, List.map_nil]); first | done | rfl | (simp only [List.length_drop, List.length_take]; rfl)) ?_; (with_reducible refine (impl_FollowsFrom.calls kj26 t382 _ _ t383 _ _ y398 t401 _ ?side1 ?side2 ?side3 ?side4 A34.out).mono ?_); (case side1 => repeat (first | exact (Kd.S_reads' HO_387001.out).2.2 | (with_reducible refine Kd.C_alloc ?_ _) | (with_reducible refine Kd.C_drewN ?_ _) | (with_reducible refine Kd.C_drew ?_))); (case side2 => exact (Kd.S_reads' HO_387001.out).2.1); (case side3 => repeat (first | exact (Kd.R_reads' HO400.out).2.2 | (with_reducible refine Kd.C_alloc ?_ _) | (with_reducible refine Kd.C_drewN ?_ _) | (with_reducible refine Kd.C_drew ?_))); (case side4 => exact (Kd.R_reads' HO400.out).2.1); rintro e w50 ⟨rfl, hb⟩; refine ⟨_, rfl, ?_⟩; have n0_ := Aside0.mk (Kd.R_below (by (with_reducible repeat (first | apply Kd.R_alloc | apply Kd.R_drewN | apply Kd.R_drew)); exact HO_4.out) hb); have n1_ := Aside0.mk (Kd.S_below (by (with_reducible repeat (first | apply Kd.S_alloc | apply Kd.S_drewN | apply Kd.S_drew)); exact HO_387001.out) hb); have n2_ := Aside0.mk (Kd.R_below (by (with_reducible repeat (first | apply Kd.R_alloc | apply Kd.R_drewN | apply Kd.R_drew)); exact HO400.out) hb); have n3_ := Aside0.mk (blk_below (g := gb386) (o := .cells #[.int .i64 t382, .slice Ao9 t383.length co9] 29 (0, 0)) (by (with_reducible repeat (first | refine blk_drewN ?_ _ | refine blk_drew ?_ | refine blk_alloc ?_ _)); exact BK386.out) hb); have n4_ := Aside0.mk (below_step (by repeat (first | (with_reducible first | exact HB.out | apply bwA | apply bwN | apply bwD | refine below_set ?_ GE386.out) | exact HB.out)) hb); clear HO_4; clear HO_387001; clear HO400; clear BK386; clear HB; have HO_4 := n0_; have HO_387001 := n1_; have HO400 := n2_; have BK386 := n3_; have HB := n4_; clear n0_ n1_ n2_ n3_ n4_; (try clear hb); (try clear hb2); (try clear hk); (try clear hi); obtain ⟨Ao51, co51, eo51⟩ := Kd.R_slice HO_4.out; subst eo51) | ((with_reducible refine gate_callee (f := 40) rfl ?_); refine goesL_ (some 42) rfl rfl Try.func40 (by kernel_rfl) rfl #[.slice Ao51 t387.length co51, .int .i64 x5_2] rfl (by (try simp only [List.map_toArray, List.map_cons, List.map_nil]); first | done | rfl | (simp only [List.length_drop, List.length_take]; rfl)) ?_; (with_reducible refine (laws_wcHas.calls kj26 _ _ t387 x5_2 t402 _ ?side1 ?side2 A35.out).mono ?_); (case side1 => repeat (first | exact (Kd.R_reads' HO_4.out).2.2 | (with_reducible refine Kd.C_alloc ?_ _) | (with_reducible refine Kd.C_drewN ?_ _) | (with_reducible refine Kd.C_drew ?_))); (case side2 => exact (Kd.R_reads' HO_4.out).2.1); rintro e w' ⟨rfl, ⟨nd, rfl⟩⟩; refine ⟨_, rfl, ?_⟩; have hcz52_0 : w50.cell? ⟨gb386, 0, none⟩ = some (.int .i64 t382) := (blk_cell BK386.out 0).trans rfl; have hcz52_1 : w50.cell? ⟨gb386, 1, none⟩ = some (.slice Ao9 t383.length co9) := (blk_cell BK386.out 1).trans rfl; have hfz52_0 := blk_frozen BK386.out 0; have hfz52_1 := blk_frozen BK386.out 1) | ((with_reducible refine gate_dst (N := 48) rfl ?_); (try (refine gate_guard (by rfl) ?_; dsimp only)); refine Kd.R_lit (Kd.int .i64) _ 3 ?hg (N := 48) ?hd (xs := ([wrap64 (-x5_2)] : List Int)) (inner := [.int .i64 (wrap64 (-x5_2))]) (ok := fun _ => True) (okp := fun _ => True) ?hr ?hp (fun _ hk => hk) trivial (Below.refl _ _) (Nat.le_refl _) (by simp) ?_; (case hd => rfl); (case hg => rfl); (case hr => first | (go_simp; done) | (go_simp; rfl)); (case hp => exact (Reps.one (show Kd.M (Kd.int .i64) _ _ _ (wrap64 (-x5_2)) [.int .i64 (wrap64 (-x5_2))] from rfl) (Reps.none _ _))); intro v404 w53 ho54 hb hg_ hnew_; clear hg_ hnew_; (first | rw [← Ny403.out] at ho54 | (simp only [Int.reduceToNat] at ho54; rw [← Ny403.out] at ho54)); have n0_ := Aside0.mk (Kd.R_elder' (by (with_reducible repeat (first | apply Kd.R_alloc | apply Kd.R_drewN | apply Kd.R_drew)); exact HO_4.out) (Kd.R_base ho54) hb); have n1_ := Aside0.mk (Kd.S_elder' (by (with_reducible repeat (first | apply Kd.S_alloc | apply Kd.S_drewN | apply Kd.S_drew)); exact HO_387001.out) (Kd.R_base ho54) hb); have n2_ := Aside0.mk (Kd.R_elder' (by (with_reducible repeat (first | apply Kd.R_alloc | apply Kd.R_drewN | apply Kd.R_drew)); exact HO400.out) (Kd.R_base ho54) hb); have n3_ := Aside0.mk (Kd.R_lower (Kd.R_new' (Kd.R_new' ho54 (Kd.R_lt (by (with_reducible repeat (first | apply Kd.R_alloc | apply Kd.R_drewN | apply Kd.R_drew)); exact HO_4.out))) (Kd.R_lt (by (with_reducible repeat (first | apply Kd.R_alloc | apply Kd.R_drewN | apply Kd.R_drew)); exact HO400.out))) (below_size (by repeat (first | (with_reducible first | exact HB.out | apply bwA | apply bwN | apply bwD | refine below_set ?_ GE386.out) | exact HB.out)))); have n4_ := Aside0.mk (blk_below (g := gb386) (o := .cells #[.int .i64 t382, .slice Ao9 t383.length co9] 29 (0, 0)) (by (with_reducible repeat (first | refine blk_drewN ?_ _ | refine blk_drew ?_ | refine blk_alloc ?_ _)); exact BK386.out) hb); have n5_ := Aside0.mk (below_step (by repeat (first | (with_reducible first | exact HB.out | apply bwA | apply bwN | apply bwD | refine below_set ?_ GE386.out) | exact HB.out)) hb); clear HO_4; clear HO_387001; clear HO400; clear BK386; clear HB; have HO_4 := n0_; have HO_387001 := n1_; have HO400 := n2_; have HO405 := n3_; have BK386 := n4_; have HB := n5_; clear n0_ n1_ n2_ n3_ n4_ n5_; clear hb ho54; obtain ⟨Ao55, co55, eo55⟩ := Kd.R_slice HO405.out; subst eo55) | (go_at_call 29; (with_reducible refine (impl_FollowsFrom.calls kj26 t382 _ _ t383 _ _ y403 t406 _ ?side1 ?side2 ?side3 ?side4 A43.out).mono ?_); (case side1 => repeat (first | exact (Kd.S_reads' HO_387001.out).2.2 | (with_reducible refine Kd.C_alloc ?_ _) | (with_reducible refine Kd.C_drewN ?_ _) | (with_reducible refine Kd.C_drew ?_))); (case side2 => exact (Kd.S_reads' HO_387001.out).2.1); (case side3 => repeat (first | exact (Kd.R_reads' HO405.out).2.2 | (with_reducible refine Kd.C_alloc ?_ _) | (with_reducible refine Kd.C_drewN ?_ _) | (with_reducible refine Kd.C_drew ?_))); (case side4 => exact (Kd.R_reads' HO405.out).2.1); rintro e w56 ⟨rfl, hb⟩; have n0_ := Aside0.mk (Kd.R_below (by (with_reducible repeat (first | apply Kd.R_alloc | apply Kd.R_drewN | apply Kd.R_drew)); exact HO_4.out) hb); have n1_ := Aside0.mk (Kd.S_below (by (with_reducible repeat (first | apply Kd.S_alloc | apply Kd.S_drewN | apply Kd.S_drew)); exact HO_387001.out) hb); have n2_ := Aside0.mk (Kd.R_below (by (with_reducible repeat (first | apply Kd.R_alloc | apply Kd.R_drewN | apply Kd.R_drew)); exact HO400.out) hb); have n3_ := Aside0.mk (Kd.R_below (by (with_reducible repeat (first | apply Kd.R_alloc | apply Kd.R_drewN | apply Kd.R_drew)); exact HO405.out) hb); have n4_ := Aside0.mk (blk_below (g := gb386) (o := .cells #[.int .i64 t382, .slice Ao9 t383.length co9] 29 (0, 0)) (by (with_reducible repeat (first | refine blk_drewN ?_ _ | refine blk_drew ?_ | refine blk_alloc ?_ _)); exact BK386.out) hb); have n5_ := Aside0.mk (below_step (by repeat (first | (with_reducible first | exact HB.out | apply bwA | apply bwN | apply bwD | refine below_set ?_ GE386.out) | exact HB.out)) hb); clear HO_4; clear HO_387001; clear HO400; clear HO405; clear BK386; clear HB; have HO_4 := n0_; have HO_387001 := n1_; have HO400 := n2_; have HO405 := n3_; have BK386 := n4_; have HB := n5_; clear n0_ n1_ n2_ n3_ n4_ n5_; (try clear hb); (try clear hb2); (try clear hk); (try clear hi)) | (go_at_call 40; (with_reducible refine (laws_wcHas.calls kj26 _ _ t387 (wrap64 (-x5_2)) t407 _ ?side1 ?side2 A44.out).mono ?_); (case side1 => repeat (first | exact (Kd.R_reads' HO_4.out).2.2 | (with_reducible refine Kd.C_alloc ?_ _) | (with_reducible refine Kd.C_drewN ?_ _) | (with_reducible refine Kd.C_drew ?_))); (case side2 => exact (Kd.R_reads' HO_4.out).2.1); rintro e w' ⟨rfl, ⟨nd, rfl⟩⟩))
            go_ret
            exact ⟨by first | rfl | (simp [errW_none, errW_some] <;> rfl) | (simp [*, errW_none, errW_some] <;> rfl), by repeat (first | (with_reducible first | exact HB.out | apply bwA | apply bwN | apply bwD | refine below_set ?_ GE386.out) | exact HB.out)⟩
           ·rw [if_neg c45] at H
            have c45b0 : (t406 != t407) = false := by simpa using c45
            (try (have c45b1 : decide (t406 = t407) = true := by simpa using c45))
            (try (have c45b2 : (t406 == t407) = true := by simpa using c45))
            clear c45
            have H' := Aside0.mk H
            clear H
            have hcz57_0 : wc.cell? ⟨gb386, 0, none⟩ = some (.int .i64 t382) := (blk_cell BK386.out 0).trans rfl
            have hcz57_1 : wc.cell? ⟨gb386, 1, none⟩ = some (.slice Ao9 t383.length co9) := (blk_cell BK386.out 1).trans rfl
            have hfz57_0 := blk_frozen BK386.out 0
            have hfz57_1 := blk_frozen BK386.out 1
            go_wp2_with (first | ((with_reducible refine gate_dst (N := 38) rfl ?_); (try (refine gate_guard (by rfl) ?_; dsimp only)); refine Kd.R_lit (Kd.int .i64) _ 3 ?hg (N := 38) ?hd (xs := ([x5_2] : List Int)) (inner := [.int .i64 x5_2]) (ok := fun _ => True) (okp := fun _ => True) ?hr ?hp (fun _ hk => hk) trivial (Below.refl _ _) (Nat.le_refl _) (by simp) ?_; (case hd => rfl); (case hg => rfl); (case hr => first | (go_simp; done) | (go_simp; rfl)); (case hp => exact (Reps.one (show Kd.M (Kd.int .i64) _ _ _ x5_2 [.int .i64 x5_2] from rfl) (Reps.none _ _))); intro v399 w58 ho59 hb hg_ hnew_; clear hg_ hnew_; (first | rw [← Ny398.out] at ho59 | (simp only [Int.reduceToNat] at ho59; rw [← Ny398.out] at ho59)); have n0_ := Aside0.mk (Kd.R_elder' (by (with_reducible repeat (first | apply Kd.R_alloc | apply Kd.R_drewN | apply Kd.R_drew)); exact HO_4.out) (Kd.R_base ho59) hb); have n1_ := Aside0.mk (Kd.S_elder' (by (with_reducible repeat (first | apply Kd.S_alloc | apply Kd.S_drewN | apply Kd.S_drew)); exact HO_387001.out) (Kd.R_base ho59) hb); have n2_ := Aside0.mk (Kd.R_lower (Kd.R_new' ho59 (Kd.R_lt (by (with_reducible repeat (first | apply Kd.R_alloc | apply Kd.R_drewN | apply Kd.R_drew)); exact HO_4.out))) (below_size (by repeat (first | (with_reducible first | exact HB.out | apply bwA | apply bwN | apply bwD | refine below_set ?_ GE386.out) | exact HB.out)))); have n3_ := Aside0.mk (blk_below (g := gb386) (o := .cells #[.int .i64 t382, .slice Ao9 t383.length co9] 29 (0, 0)) (by (with_reducible repeat (first | refine blk_drewN ?_ _ | refine blk_drew ?_ | refine blk_alloc ?_ _)); exact BK386.out) hb); have n4_ := Aside0.mk (below_step (by repeat (first | (with_reducible first | exact HB.out | apply bwA | apply bwN | apply bwD | refine below_set ?_ GE386.out) | exact HB.out)) hb); clear HO_4; clear HO_387001; clear BK386; clear HB; have HO_4 := n0_; have HO_387001 := n1_; have HO400 := n2_; have BK386 := n3_; have HB := n4_; clear n0_ n1_ n2_ n3_ n4_; clear hb ho59; obtain ⟨Ao60, co60, eo60⟩ := Kd.R_slice HO400.out; subst eo60) | ((with_reducible refine gate_callee (f := 29) rfl ?_); refine goesL_ (some 39) rfl rfl Try.func29 (by kernel_rfl) rfl #[.agg #[.int .i64 t382, .slice Ao9 t383.length co9], .slice Ao60 y398.length co60] rfl (by (try simp only [List.map_toArray, List.map_cons, List.map_nil]); first | done | rfl | (simp only [List.length_drop, List.length_take]; rfl)) ?_; (with_reducible refine (impl_FollowsFrom.calls kj26 t382 _ _ t383 _ _ y398 t401 _ ?side1 ?side2 ?side3 ?side4 A34.out).mono ?_); (case side1 => repeat (first | exact (Kd.S_reads' HO_387001.out).2.2 | (with_reducible refine Kd.C_alloc ?_ _) | (with_reducible refine Kd.C_drewN ?_ _) | (with_reducible refine Kd.C_drew ?_))); (case side2 => exact (Kd.S_reads' HO_387001.out).2.1); (case side3 => repeat (first | exact (Kd.R_reads' HO400.out).2.2 | (with_reducible refine Kd.C_alloc ?_ _) | (with_reducible refine Kd.C_drewN ?_ _) | (with_reducible refine Kd.C_drew ?_))); (case side4 => exact (Kd.R_reads' HO400.out).2.1); rintro e w61 ⟨rfl, hb⟩; refine ⟨_, rfl, ?_⟩; have n0_ := Aside0.mk (Kd.R_below (by (with_reducible repeat (first | apply Kd.R_alloc | apply Kd.R_drewN | apply Kd.R_drew)); exact HO_4.out) hb); have n1_ := Aside0.mk (Kd.S_below (by (with_reducible repeat (first | apply Kd.S_alloc | apply Kd.S_drewN | apply Kd.S_drew)); exact HO_387001.out) hb); have n2_ := Aside0.mk (Kd.R_below (by (with_reducible repeat (first | apply Kd.R_alloc | apply Kd.R_drewN | apply Kd.R_drew)); exact HO400.out) hb); have n3_ := Aside0.mk (blk_below (g := gb386) (o := .cells #[.int .i64 t382, .slice Ao9 t383.length co9] 29 (0, 0)) (by (with_reducible repeat (first | refine blk_drewN ?_ _ | refine blk_drew ?_ | refine blk_alloc ?_ _)); exact BK386.out) hb); have n4_ := Aside0.mk (below_step (by repeat (first | (with_reducible first | exact HB.out | apply bwA | apply bwN | apply bwD | refine below_set ?_ GE386.out) | exact HB.out)) hb); clear HO_4; clear HO_387001; clear HO400; clear BK386; clear HB; have HO_4 := n0_; have HO_387001 := n1_; have HO400 := n2_; have BK386 := n3_; have HB := n4_; clear n0_ n1_ n2_ n3_ n4_; (try clear hb); (try clear hb2); (try clear hk); (try clear hi); obtain ⟨Ao62, co62, eo62⟩ := Kd.R_slice HO_4.out; subst eo62) | ((with_reducible refine gate_callee (f := 40) rfl ?_); refine goesL_ (some 42) rfl rfl Try.func40 (by kernel_rfl) rfl #[.slice Ao62 t387.length co62, .int .i64 x5_2] rfl (by (try simp only [List.map_toArray, List.map_cons, List.map_nil]); first | done | rfl | (simp only [List.length_drop, List.length_take]; rfl)) ?_; (with_reducible refine (laws_wcHas.calls kj26 _ _ t387 x5_2 t402 _ ?side1 ?side2 A35.out).mono ?_); (case side1 => repeat (first | exact (Kd.R_reads' HO_4.out).2.2 | (with_reducible refine Kd.C_alloc ?_ _) | (with_reducible refine Kd.C_drewN ?_ _) | (with_reducible refine Kd.C_drew ?_))); (case side2 => exact (Kd.R_reads' HO_4.out).2.1); rintro e w' ⟨rfl, ⟨nd, rfl⟩⟩; refine ⟨_, rfl, ?_⟩; have hcz63_0 : w61.cell? ⟨gb386, 0, none⟩ = some (.int .i64 t382) := (blk_cell BK386.out 0).trans rfl; have hcz63_1 : w61.cell? ⟨gb386, 1, none⟩ = some (.slice Ao9 t383.length co9) := (blk_cell BK386.out 1).trans rfl; have hfz63_0 := blk_frozen BK386.out 0; have hfz63_1 := blk_frozen BK386.out 1) | ((with_reducible refine gate_dst (N := 48) rfl ?_); (try (refine gate_guard (by rfl) ?_; dsimp only)); refine Kd.R_lit (Kd.int .i64) _ 3 ?hg (N := 48) ?hd (xs := ([wrap64 (-x5_2)] : List Int)) (inner := [.int .i64 (wrap64 (-x5_2))]) (ok := fun _ => True) (okp := fun _ => True) ?hr ?hp (fun _ hk => hk) trivial (Below.refl _ _) (Nat.le_refl _) (by simp) ?_; (case hd => rfl); (case hg => rfl); (case hr => first | (go_simp; done) | (go_simp; rfl)); (case hp => exact (Reps.one (show Kd.M (Kd.int .i64) _ _ _ (wrap64 (-x5_2)) [.int .i64 (wrap64 (-x5_2))] from rfl) (Reps.none _ _))); intro v404 w64 ho65 hb hg_ hnew_; clear hg_ hnew_; (first | rw [← Ny403.out] at ho65 | (simp only [Int.reduceToNat] at ho65; rw [← Ny403.out] at ho65)); have n0_ := Aside0.mk (Kd.R_elder' (by (with_reducible repeat (first | apply Kd.R_alloc | apply Kd.R_drewN | apply Kd.R_drew)); exact HO_4.out) (Kd.R_base ho65) hb); have n1_ := Aside0.mk (Kd.S_elder' (by (with_reducible repeat (first | apply Kd.S_alloc | apply Kd.S_drewN | apply Kd.S_drew)); exact HO_387001.out) (Kd.R_base ho65) hb); have n2_ := Aside0.mk (Kd.R_elder' (by (with_reducible repeat (first | apply Kd.R_alloc | apply Kd.R_drewN | apply Kd.R_drew)); exact HO400.out) (Kd.R_base ho65) hb); have n3_ := Aside0.mk (Kd.R_lower (Kd.R_new' (Kd.R_new' ho65 (Kd.R_lt (by (with_reducible repeat (first | apply Kd.R_alloc | apply Kd.R_drewN | apply Kd.R_drew)); exact HO_4.out))) (Kd.R_lt (by (with_reducible repeat (first | apply Kd.R_alloc | apply Kd.R_drewN | apply Kd.R_drew)); exact HO400.out))) (below_size (by repeat (first | (with_reducible first | exact HB.out | apply bwA | apply bwN | apply bwD | refine below_set ?_ GE386.out) | exact HB.out)))); have n4_ := Aside0.mk (blk_below (g := gb386) (o := .cells #[.int .i64 t382, .slice Ao9 t383.length co9] 29 (0, 0)) (by (with_reducible repeat (first | refine blk_drewN ?_ _ | refine blk_drew ?_ | refine blk_alloc ?_ _)); exact BK386.out) hb); have n5_ := Aside0.mk (below_step (by repeat (first | (with_reducible first | exact HB.out | apply bwA | apply bwN | apply bwD | refine below_set ?_ GE386.out) | exact HB.out)) hb); clear HO_4; clear HO_387001; clear HO400; clear BK386; clear HB; have HO_4 := n0_; have HO_387001 := n1_; have HO400 := n2_; have HO405 := n3_; have BK386 := n4_; have HB := n5_; clear n0_ n1_ n2_ n3_ n4_ n5_; clear hb ho65; obtain ⟨Ao66, co66, eo66⟩ := Kd.R_slice HO405.out; subst eo66) | (go_at_call 29; (with_reducible refine (impl_FollowsFrom.calls kj26 t382 _ _ t383 _ _ y403 t406 _ ?side1 ?side2 ?side3 ?side4 A43.out).mono ?_); (case side1 => repeat (first | exact (Kd.S_reads' HO_387001.out).2.2 | (with_reducible refine Kd.C_alloc ?_ _) | (with_reducible refine Kd.C_drewN ?_ _) | (with_reducible refine Kd.C_drew ?_))); (case side2 => exact (Kd.S_reads' HO_387001.out).2.1); (case side3 => repeat (first | exact (Kd.R_reads' HO405.out).2.2 | (with_reducible refine Kd.C_alloc ?_ _) | (with_reducible refine Kd.C_drewN ?_ _) | (with_reducible refine Kd.C_drew ?_))); (case side4 => exact (Kd.R_reads' HO405.out).2.1); rintro e w67 ⟨rfl, hb⟩; have n0_ := Aside0.mk (Kd.R_below (by (with_reducible repeat (first | apply Kd.R_alloc | apply Kd.R_drewN | apply Kd.R_drew)); exact HO_4.out) hb); have n1_ := Aside0.mk (Kd.S_below (by (with_reducible repeat (first | apply Kd.S_alloc | apply Kd.S_drewN | apply Kd.S_drew)); exact HO_387001.out) hb); have n2_ := Aside0.mk (Kd.R_below (by (with_reducible repeat (first | apply Kd.R_alloc | apply Kd.R_drewN | apply Kd.R_drew)); exact HO400.out) hb); have n3_ := Aside0.mk (Kd.R_below (by (with_reducible repeat (first | apply Kd.R_alloc | apply Kd.R_drewN | apply Kd.R_drew)); exact HO405.out) hb); have n4_ := Aside0.mk (blk_below (g := gb386) (o := .cells #[.int .i64 t382, .slice Ao9 t383.length co9] 29 (0, 0)) (by (with_reducible repeat (first | refine blk_drewN ?_ _ | refine blk_drew ?_ | refine blk_alloc ?_ _)); exact BK386.out) hb); have n5_ := Aside0.mk (below_step (by repeat (first | (with_reducible first | exact HB.out | apply bwA | apply bwN | apply bwD | refine below_set ?_ GE386.out) | exact HB.out)) hb); clear HO_4; clear HO_387001; clear HO400; clear HO405; clear BK386; clear HB; have HO_4 := n0_; have HO_387001 := n1_; have HO400 := n2_; have HO405 := n3_; have BK386 := n4_; have HB := n5_; clear n0_ n1_ n2_ n3_ n4_ n5_; (try clear hb); (try clear hb2); (try clear hk); (try clear hi)) | (go_at_call 40; (with_reducible refine (laws_wcHas.calls kj26 _ _ t387 (wrap64 (-x5_2)) t407 _ ?side1 ?side2 A44.out).mono ?_); (case side1 => repeat (first | exact (Kd.R_reads' HO_4.out).2.2 | (with_reducible refine Kd.C_alloc ?_ _) | (with_reducible refine Kd.C_drewN ?_ _) | (with_reducible refine Kd.C_drew ?_))); (case side2 => exact (Kd.R_reads' HO_4.out).2.1); rintro e w' ⟨rfl, ⟨nd, rfl⟩⟩))
            go_roundg kj26
            case measure => have := HJ4.out; have := HK2.out; have := HJ26.out; omega
            case rel => exact ⟨(wrap64 (x5_2 + 1)), (by first | rfl | (simp; done) | (simp [*]; done)), H', ⟨by have := HJ4.out; have := HK2.out; have := HJ26.out; omega⟩, ⟨by (with_reducible repeat (first | apply Kd.R_alloc | apply Kd.R_drewN | apply Kd.R_drew)); exact Kd.R_mono HO_4.out (fun _ hk => trivial)⟩, ⟨by (with_reducible repeat (first | apply Kd.S_alloc | apply Kd.S_drewN | apply Kd.S_drew)); exact Kd.S_mono HO_387001.out (fun _ hk => hk.1.1)⟩, ⟨by (with_reducible repeat (first | refine blk_drewN ?_ _ | refine blk_drew ?_ | refine blk_alloc ?_ _)); exact BK386.out⟩, ⟨by repeat (first | (with_reducible first | exact HB.out | apply bwA | apply bwN | apply bwD | refine below_set ?_ GE386.out) | exact HB.out)⟩⟩
         ·replace c33 := Bool.eq_false_iff.mpr c33
          subst c33
          have H1 : ((impl_CountModels.f kj26 t382 t383).bind fun t397 => (if t397 > 0 then (some true) else (some ((t387.length : Int) == 0)))) = some r := by rw [if_neg (show ¬ (false = true) by decide)] at H; exact H
          clear H
          have H := H1
          clear H1
          replace H := Option.bind_eq_some_iff.mp H
          obtain ⟨t397, A680, H⟩ := H
          replace H : (if t397 > 0 then (some true) else (some ((t387.length : Int) == 0))) = some r := H
          have A68 := Aside0.mk A680
          clear A680
          by_cases c69 : t397 > 0
          ·rw [if_pos c69] at H
           have c69b0 : decide (0 < t397) = true := decide_eq_true c69
           clear c69
           obtain rfl := Option.some.inj H
           have hcz70_0 : wc.cell? ⟨gb386, 0, none⟩ = some (.int .i64 t382) := (blk_cell BK386.out 0).trans rfl
           have hcz70_1 : wc.cell? ⟨gb386, 1, none⟩ = some (.slice Ao9 t383.length co9) := (blk_cell BK386.out 1).trans rfl
           have hfz70_0 := blk_frozen BK386.out 0
           have hfz70_1 := blk_frozen BK386.out 1
           go_wp2_with (first | ((with_reducible refine gate_callee (f := 38) rfl ?_); refine goesL_ (some 57) rfl rfl Try.func38 (by kernel_rfl) rfl #[.agg #[.int .i64 t382, .slice Ao9 t383.length co9]] rfl (by (try simp only [List.map_toArray, List.map_cons, List.map_nil]); first | done | rfl | (simp only [List.length_drop, List.length_take]; rfl)) ?_; (with_reducible refine (impl_CountModels.calls kj26 t382 _ _ t383 t397 _ ?side1 ?side2 A68.out).mono ?_); (case side1 => repeat (first | exact (Kd.S_reads' HO_387001.out).2.2 | (with_reducible refine Kd.C_alloc ?_ _) | (with_reducible refine Kd.C_drewN ?_ _) | (with_reducible refine Kd.C_drew ?_))); (case side2 => exact (Kd.S_reads' HO_387001.out).2.1); rintro e w71 ⟨rfl, hb⟩; refine ⟨_, rfl, ?_⟩; have n0_ := Aside0.mk (Kd.R_below (by (with_reducible repeat (first | apply Kd.R_alloc | apply Kd.R_drewN | apply Kd.R_drew)); exact HO_4.out) hb); have n1_ := Aside0.mk (Kd.S_below (by (with_reducible repeat (first | apply Kd.S_alloc | apply Kd.S_drewN | apply Kd.S_drew)); exact HO_387001.out) hb); have n2_ := Aside0.mk (blk_below (g := gb386) (o := .cells #[.int .i64 t382, .slice Ao9 t383.length co9] 29 (0, 0)) (by (with_reducible repeat (first | refine blk_drewN ?_ _ | refine blk_drew ?_ | refine blk_alloc ?_ _)); exact BK386.out) hb); have n3_ := Aside0.mk (below_step (by repeat (first | (with_reducible first | exact HB.out | apply bwA | apply bwN | apply bwD | refine below_set ?_ GE386.out) | exact HB.out)) hb); clear HO_4; clear HO_387001; clear BK386; clear HB; have HO_4 := n0_; have HO_387001 := n1_; have BK386 := n2_; have HB := n3_; clear n0_ n1_ n2_ n3_; (try clear hb); (try clear hb2); (try clear hk); (try clear hi)))
           go_ret
           exact ⟨by first | rfl | (simp [errW_none, errW_some] <;> rfl) | (simp [*, errW_none, errW_some] <;> rfl), by repeat (first | (with_reducible first | exact HB.out | apply bwA | apply bwN | apply bwD | refine below_set ?_ GE386.out) | exact HB.out)⟩
          ·rw [if_neg c69] at H
           have c69b0 : decide (0 < t397) = false := decide_eq_false c69
           clear c69
           obtain rfl := Option.some.inj H
           have hcz72_0 : wc.cell? ⟨gb386, 0, none⟩ = some (.int .i64 t382) := (blk_cell BK386.out 0).trans rfl
           have hcz72_1 : wc.cell? ⟨gb386, 1, none⟩ = some (.slice Ao9 t383.length co9) := (blk_cell BK386.out 1).trans rfl
           have hfz72_0 := blk_frozen BK386.out 0
           have hfz72_1 := blk_frozen BK386.out 1
           go_wp2_with (first | ((with_reducible refine gate_callee (f := 38) rfl ?_); refine goesL_ (some 57) rfl rfl Try.func38 (by kernel_rfl) rfl #[.agg #[.int .i64 t382, .slice Ao9 t383.length co9]] rfl (by (try simp only [List.map_toArray, List.map_cons, List.map_nil]); first | done | rfl | (simp only [List.length_drop, List.length_take]; rfl)) ?_; (with_reducible refine (impl_CountModels.calls kj26 t382 _ _ t383 t397 _ ?side1 ?side2 A68.out).mono ?_); (case side1 => repeat (first | exact (Kd.S_reads' HO_387001.out).2.2 | (with_reducible refine Kd.C_alloc ?_ _) | (with_reducible refine Kd.C_drewN ?_ _) | (with_reducible refine Kd.C_drew ?_))); (case side2 => exact (Kd.S_reads' HO_387001.out).2.1); rintro e w73 ⟨rfl, hb⟩; refine ⟨_, rfl, ?_⟩; have n0_ := Aside0.mk (Kd.R_below (by (with_reducible repeat (first | apply Kd.R_alloc | apply Kd.R_drewN | apply Kd.R_drew)); exact HO_4.out) hb); have n1_ := Aside0.mk (Kd.S_below (by (with_reducible repeat (first | apply Kd.S_alloc | apply Kd.S_drewN | apply Kd.S_drew)); exact HO_387001.out) hb); have n2_ := Aside0.mk (blk_below (g := gb386) (o := .cells #[.int .i64 t382, .slice Ao9 t383.length co9] 29 (0, 0)) (by (with_reducible repeat (first | refine blk_drewN ?_ _ | refine blk_drew ?_ | refine blk_alloc ?_ _)); exact BK386.out) hb); have n3_ := Aside0.mk (below_step (by repeat (first | (with_reducible first | exact HB.out | apply bwA | apply bwN | apply bwD | refine below_set ?_ GE386.out) | exact HB.out)) hb); clear HO_4; clear HO_387001; clear BK386; clear HB; have HO_4 := n0_; have HO_387001 := n1_; have BK386 := n2_; have HB := n3_; clear n0_ n1_ n2_ n3_; (try clear hb); (try clear hb2); (try clear hk); (try clear hi); obtain ⟨Ao74, co74, eo74⟩ := Kd.R_slice HO_4.out; subst eo74))
           go_ret
           exact ⟨by first | rfl | (simp [errW_none, errW_some] <;> rfl) | (simp [*, errW_none, errW_some] <;> rfl), by repeat (first | (with_reducible first | exact HB.out | apply bwA | apply bwN | apply bwD | refine below_set ?_ GE386.out) | exact HB.out)⟩

/-- THE ONE PURE STATEMENT of laws_FnFixedLits: yours. -/
def laws_FnFixedLits.Pure : Prop := ∀ (l0 : List Int), l0.length ≤ maxLen → l0.length * 1 ≤ 140737488351232 → (∀ x ∈ l0, (Lit.int .u8 x).wf = true) → ∃ k, laws_FnFixedLits.f k l0 = some true
theorem laws_FnFixedLits.walk (P : laws_FnFixedLits.Pure) (a0 : Option Addr) (len0 cap0 : Nat) (z0 : List Int) (w : World) (w0 : (a0 = none ∧ len0 = 0 ∧ cap0 = 0 ∧ z0 = []) ∨ ∃ x, a0 = some x ∧ len0 ≤ cap0 ∧ cap0 ≤ maxLen ∧ z0.length = cap0 ∧ (∀ i, i < z0.length → w.cell? (x.add i) = some (.int .u8 (z0.getD i 0))) ∧ ∀ n ∈ z0, (Lit.int .u8 n).wf = true) (y0 : len0 * 1 ≤ 140737488351232) :
  Calls Try.prog 8 #[.slice a0 len0 cap0] w fun e w' => e = .returned (.bool true) ∧ Below w.heap.size w w' := by
 obtain ⟨l0, rfl, hr0, hm0, hw0, hc0⟩ := ReadsInt.ofRowC w0
 obtain ⟨k, h⟩ := P l0 hm0 y0 hw0
 refine (laws_FnFixedLits.calls k _ _ l0 true w (Kd.C_of_reads (d := (0 : Int)) (h1 := fun _ => rfl) hr0) hc0 h).mono ?_
 rintro e w' ⟨rfl, hd⟩
 exact ⟨rfl, hd⟩

end Go.Proofs.Ytkfmgfdbdgjfiaa.QFnFixedLits
