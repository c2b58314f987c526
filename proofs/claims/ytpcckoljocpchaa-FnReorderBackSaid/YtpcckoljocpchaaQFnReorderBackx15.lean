-- Written by a program of this session (mk.py). Lean checks it.
import Derived.Test.YtpcckoljocpchaaQFnReorderBackx0
import Derived.Test.YtpcckoljocpchaaQFnReorderBackx1
import Derived.Test.YtpcckoljocpchaaQFnReorderBackx2
import Derived.Test.YtpcckoljocpchaaQFnReorderBackx5
import Derived.Test.YtpcckoljocpchaaQFnReorderBackx6
import Derived.Test.YtpcckoljocpchaaQFnReorderBackx9
import Derived.Test.YtpcckoljocpchaaQFnReorderBackx10
import Derived.Test.YtpcckoljocpchaaQFnReorderBackx13
import Derived.Test.YtpcckoljocpchaaQFnReorderBackx14
namespace Go.Proofs.Ytpcckoljocpchaa.QFnReorderBack
open Go.RowKit Go.Proofs.YtpcckoljocpchaaW.PrintWords Go.Proofs.YtpcckoljocpchaaW.PrintLast Go.Proofs.YtpcckoljocpchaaW.PrintMore
attribute [local go_sem] max2_int min2_int max_two min_two max_three min_three max_four min_four   -- for this text's walks alone
set_option linter.unusedVariables false
set_option linter.unusedSimpArgs false

attribute [local go_sem high] eqA56
/-! ### laws_FnReorderBack: function 7 -/
mutual
def laws_FnReorderBack.j0 : Nat → Int → List Int → Int → List Int → Bool → Int → List (S56) → Int → List (S56) → Option (Bool)
 | 0, _, _, _, _, _, _, _, _, _ => none
 | k + 1, x4, x5, x7, x8, x42, x378000, x378001, x384000, x384001 => if x42 = true then ((spec_Reordered.f k x378000 x378001 x4 x5).bind fun bt391 => ((spec_OrderBack.f k x5).bind fun t397 => ((laws_wcInts.f k x8 t397).bind fun t400 => (if t400 = true then (some (bt391.2.2 == x7)) else (some false))))) else ((impl_Reordered.f k x384000 x384001 x7 x8).bind fun bt401 => ((impl_Compacted.f k x378000 x378001 x4).bind fun bt407 => (if bt401.2.2 = bt407.2.2 then (laws_FnReorderBack.j1 k x8 ((bt401.2.1.length : Int) != (bt407.2.1.length : Int)) x378000 x378001 bt401.1 bt401.2.1 bt407.1 bt407.2.1) else (laws_FnReorderBack.j1 k x8 true x378000 x378001 bt401.1 bt401.2.1 bt407.1 bt407.2.1))))
def laws_FnReorderBack.j1 : Nat → List Int → Bool → Int → List (S56) → Int → List (S56) → Int → List (S56) → Option (Bool)
 | 0, _, _, _, _, _, _, _, _ => none
 | k + 1, x8, x83, x378000, x378001, x407000, x407001, x413000, x413001 => if x83 = true then (some false) else (laws_FnReorderBack.l0 k x8 (x407001.length : Int) 0 x378000 x378001 x407000 x407001 x413000 x413001)
def laws_FnReorderBack.l0 : Nat → List Int → Int → Int → Int → List (S56) → Int → List (S56) → Int → List (S56) → Option (Bool)
 | 0, _, _, _, _, _, _, _, _, _ => none
 | k + 1, x8, x86, x87, x378000, x378001, x407000, x407001, x413000, x413001 => if x87 < x86 then (if 0 ≤ x87 then (if x87 < (x407001.length : Int) then (if x87 < (x413001.length : Int) then (if (!(((rd_T56 x407001 x87).f0) == ((rd_T56 x413001 x87).f0)) || (!(((rd_T56 x407001 x87).f1) == ((rd_T56 x413001 x87).f1)) || (!(((rd_T56 x407001 x87).f2) == ((rd_T56 x413001 x87).f2))))) = true then (some false) else (laws_FnReorderBack.l0 k x8 x86 (wrap64 (x87 + 1)) x378000 x378001 x407000 x407001 x413000 x413001)) else (none)) else (none)) else (none)) else ((impl_OrderValid.f k x8 x378000).bind fun t415 => (some t415))
end
def laws_FnReorderBack.f (k : Nat) (l0 : List Int) : Option (Bool) := if (l0.length : Int) > 1048576 then (some true) else ((spec_DrawReordered.f k l0).bind fun bt369 => ((impl_Reordered.f k bt369.1 bt369.2.1 bt369.2.2.1 bt369.2.2.2).bind fun bt378 => ((impl_OrderBack.f k bt369.2.2.2).bind fun t384 => ((spec_OrderBack.f k bt369.2.2.2).bind fun t387 => ((laws_wcInts.f k t384 t387).bind fun t390 => (if t390 = true then (laws_FnReorderBack.j0 k bt369.2.2.1 bt369.2.2.2 bt378.2.2 t384 (decide (bt378.2.2 < 0)) bt369.1 bt369.2.1 bt378.1 bt378.2.1) else (laws_FnReorderBack.j0 k bt369.2.2.1 bt369.2.2.2 bt378.2.2 t384 true bt369.1 bt369.2.1 bt378.1 bt378.2.1)))))))
theorem laws_FnReorderBack.mono_l : ∀ k, (∀ y0 y1 y2 y3 y4 y5 y6 y7 y8, LeO (laws_FnReorderBack.j0 k y0 y1 y2 y3 y4 y5 y6 y7 y8) (laws_FnReorderBack.j0 (k + 1) y0 y1 y2 y3 y4 y5 y6 y7 y8)) ∧ (∀ y0 y1 y2 y3 y4 y5 y6 y7, LeO (laws_FnReorderBack.j1 k y0 y1 y2 y3 y4 y5 y6 y7) (laws_FnReorderBack.j1 (k + 1) y0 y1 y2 y3 y4 y5 y6 y7)) ∧ (∀ y0 y1 y2 y3 y4 y5 y6 y7 y8, LeO (laws_FnReorderBack.l0 k y0 y1 y2 y3 y4 y5 y6 y7 y8) (laws_FnReorderBack.l0 (k + 1) y0 y1 y2 y3 y4 y5 y6 y7 y8))
 | 0 => ⟨fun _ _ _ _ _ _ _ _ _ r h => by simp [laws_FnReorderBack.j0] at h, fun _ _ _ _ _ _ _ _ r h => by simp [laws_FnReorderBack.j1] at h, fun _ _ _ _ _ _ _ _ _ r h => by simp [laws_FnReorderBack.l0] at h⟩
 | k + 1 => by
  obtain ⟨ih0, ih1, ih2⟩ := laws_FnReorderBack.mono_l k
  refine ⟨?_, ?_, ?_⟩
  ·intro y0 y1 y2 y3 y4 y5 y6 y7 y8
   unfold laws_FnReorderBack.j0
   repeat' first
   | (with_reducible exact ih0 _ _ _ _ _ _ _ _ _)
   | (with_reducible exact ih1 _ _ _ _ _ _ _ _)
   | (with_reducible exact ih2 _ _ _ _ _ _ _ _ _)
   | (with_reducible exact impl_Compacted.mono _ _ _ _)
   | (with_reducible exact impl_OrderBack.mono _ _)
   | (with_reducible exact impl_OrderValid.mono _ _ _)
   | (with_reducible exact impl_Reordered.mono _ _ _ _ _)
   | (with_reducible exact laws_wcInts.mono _ _ _)
   | (with_reducible exact spec_DrawReordered.mono _ _)
   | (with_reducible exact spec_OrderBack.mono _ _)
   | (with_reducible exact spec_Reordered.mono _ _ _ _ _)
   | (with_reducible exact LeO.refl _)
   | (with_reducible exact LeO.none _)
   | (with_reducible refine LeO.ite ?_ ?_)
   | (with_reducible refine LeO.bind ?_ (fun _ => ?_))
  ·intro y0 y1 y2 y3 y4 y5 y6 y7
   unfold laws_FnReorderBack.j1
   repeat' first
   | (with_reducible exact ih0 _ _ _ _ _ _ _ _ _)
   | (with_reducible exact ih1 _ _ _ _ _ _ _ _)
   | (with_reducible exact ih2 _ _ _ _ _ _ _ _ _)
   | (with_reducible exact impl_Compacted.mono _ _ _ _)
   | (with_reducible exact impl_OrderBack.mono _ _)
   | (with_reducible exact impl_OrderValid.mono _ _ _)
   | (with_reducible exact impl_Reordered.mono _ _ _ _ _)
   | (with_reducible exact laws_wcInts.mono _ _ _)
   | (with_reducible exact spec_DrawReordered.mono _ _)
   | (with_reducible exact spec_OrderBack.mono _ _)
   | (with_reducible exact spec_Reordered.mono _ _ _ _ _)
   | (with_reducible exact LeO.refl _)
   | (with_reducible exact LeO.none _)
   | (with_reducible refine LeO.ite ?_ ?_)
   | (with_reducible refine LeO.bind ?_ (fun _ => ?_))
  ·intro y0 y1 y2 y3 y4 y5 y6 y7 y8
   unfold laws_FnReorderBack.l0
   repeat' first
   | (with_reducible exact ih0 _ _ _ _ _ _ _ _ _)
   | (with_reducible exact ih1 _ _ _ _ _ _ _ _)
   | (with_reducible exact ih2 _ _ _ _ _ _ _ _ _)
   | (with_reducible exact impl_Compacted.mono _ _ _ _)
   | (with_reducible exact impl_OrderBack.mono _ _)
   | (with_reducible exact impl_OrderValid.mono _ _ _)
   | (with_reducible exact impl_Reordered.mono _ _ _ _ _)
   | (with_reducible exact laws_wcInts.mono _ _ _)
   | (with_reducible exact spec_DrawReordered.mono _ _)
   | (with_reducible exact spec_OrderBack.mono _ _)
   | (with_reducible exact spec_Reordered.mono _ _ _ _ _)
   | (with_reducible exact LeO.refl _)
   | (with_reducible exact LeO.none _)
   | (with_reducible refine LeO.ite ?_ ?_)
   | (with_reducible refine LeO.bind ?_ (fun _ => ?_))
theorem laws_FnReorderBack.mono : ∀ a0 k, LeO (laws_FnReorderBack.f k a0) (laws_FnReorderBack.f (k + 1) a0) := by
 intro a0 k
 obtain ⟨ih0, ih1, ih2⟩ := laws_FnReorderBack.mono_l k
 unfold laws_FnReorderBack.f
 repeat' first
   | (with_reducible exact ih0 _ _ _ _ _ _ _ _ _)
   | (with_reducible exact ih1 _ _ _ _ _ _ _ _)
   | (with_reducible exact ih2 _ _ _ _ _ _ _ _ _)
   | (with_reducible exact impl_Compacted.mono _ _ _ _)
   | (with_reducible exact impl_OrderBack.mono _ _)
   | (with_reducible exact impl_OrderValid.mono _ _ _)
   | (with_reducible exact impl_Reordered.mono _ _ _ _ _)
   | (with_reducible exact laws_wcInts.mono _ _ _)
   | (with_reducible exact spec_DrawReordered.mono _ _)
   | (with_reducible exact spec_OrderBack.mono _ _)
   | (with_reducible exact spec_Reordered.mono _ _ _ _ _)
   | (with_reducible exact LeO.refl _)
   | (with_reducible exact LeO.none _)
   | (with_reducible refine LeO.ite ?_ ?_)
   | (with_reducible refine LeO.bind ?_ (fun _ => ?_))
set_option maxHeartbeats 8000000 in
set_option maxRecDepth 100000 in
theorem laws_FnReorderBack.calls (k : Nat) (A0 : Option Addr) (c0 : Nat) (l0 : List Int) (r : Bool) (w : World) (hr0 : Kd.C (Kd.int .u8) w A0 l0.length l0) (hc0 : l0.length ≤ c0) (h : laws_FnReorderBack.f k l0 = some r) :
  Calls Try.prog 7 #[.slice A0 l0.length c0] w fun e w' => e = .returned (.bool r) ∧ Below w.heap.size w w' := by
 have hu48 := Try.underlying48
 have hu56 := Try.underlying56
 have HR0 := Aside0.mk hr0
 have HC0 := Aside0.mk hc0
 clear hr0 hc0
 have HB := Aside0.mk (Below.refl w.heap.size w)
 have H : (if (l0.length : Int) > 1048576 then (some true) else ((spec_DrawReordered.f k l0).bind fun bt369 => ((impl_Reordered.f k bt369.1 bt369.2.1 bt369.2.2.1 bt369.2.2.2).bind fun bt378 => ((impl_OrderBack.f k bt369.2.2.2).bind fun t384 => ((spec_OrderBack.f k bt369.2.2.2).bind fun t387 => ((laws_wcInts.f k t384 t387).bind fun t390 => (if t390 = true then (laws_FnReorderBack.j0 k bt369.2.2.1 bt369.2.2.2 bt378.2.2 t384 (decide (bt378.2.2 < 0)) bt369.1 bt369.2.1 bt378.1 bt378.2.1) else (laws_FnReorderBack.j0 k bt369.2.2.1 bt369.2.2.2 bt378.2.2 t384 true bt369.1 bt369.2.1 bt378.1 bt378.2.1)))))))) = some r := h
 clear h
 by_cases c2 : (l0.length : Int) > 1048576
 ·rw [if_pos c2] at H
  have c2b0 : decide (1048576 < (l0.length : Int)) = true := decide_eq_true c2
  have c2b1 : decide (1048576 < l0.length) = true := decide_eq_true (by omega)
  clear c2
  obtain rfl := Option.some.inj H
  go_enter Try.func7, Try.ntmps7
  go_wp2
  repeat (go_quiet (fail); try go_wp2)
  go_ret
  exact ⟨ers, hbB⟩
 ·rw [if_neg c2] at H
  have c2b0 : decide (1048576 < (l0.length : Int)) = false := decide_eq_false c2
  have c2b1 : decide (1048576 < l0.length) = false := decide_eq_false (by omega)
  clear c2
  replace H := Option.bind_eq_some_iff.mp H
  obtain ⟨⟨t369, t370, t373, t374⟩, A30, H⟩ := H
  replace H : ((impl_Reordered.f k t369 t370 t373 t374).bind fun bt378 => ((impl_OrderBack.f k t374).bind fun t384 => ((spec_OrderBack.f k t374).bind fun t387 => ((laws_wcInts.f k t384 t387).bind fun t390 => (if t390 = true then (laws_FnReorderBack.j0 k t373 t374 bt378.2.2 t384 (decide (bt378.2.2 < 0)) t369 t370 bt378.1 bt378.2.1) else (laws_FnReorderBack.j0 k t373 t374 bt378.2.2 t384 true t369 t370 bt378.1 bt378.2.1)))))) = some r := H
  have A3 := Aside0.mk A30
  clear A30
  replace H := Option.bind_eq_some_iff.mp H
  obtain ⟨⟨t378, t379, t382⟩, A40, H⟩ := H
  replace H : ((impl_OrderBack.f k t374).bind fun t384 => ((spec_OrderBack.f k t374).bind fun t387 => ((laws_wcInts.f k t384 t387).bind fun t390 => (if t390 = true then (laws_FnReorderBack.j0 k t373 t374 t382 t384 (decide (t382 < 0)) t369 t370 t378 t379) else (laws_FnReorderBack.j0 k t373 t374 t382 t384 true t369 t370 t378 t379))))) = some r := H
  have A4 := Aside0.mk A40
  clear A40
  replace H := Option.bind_eq_some_iff.mp H
  obtain ⟨t384, A50, H⟩ := H
  replace H : ((spec_OrderBack.f k t374).bind fun t387 => ((laws_wcInts.f k t384 t387).bind fun t390 => (if t390 = true then (laws_FnReorderBack.j0 k t373 t374 t382 t384 (decide (t382 < 0)) t369 t370 t378 t379) else (laws_FnReorderBack.j0 k t373 t374 t382 t384 true t369 t370 t378 t379)))) = some r := H
  have A5 := Aside0.mk A50
  clear A50
  have HC6 := Aside0.mk H
  clear H
  go_enter Try.func7, Try.ntmps7
  iterate 5 (go_upto_region 6 with (first | (go_at_call 29; (with_reducible refine (spec_DrawReordered.calls k _ _ l0 t369 t370 t373 t374 _ ?side1 ?side2 A3.out).mono ?_); (case side1 => exact kcR HR0.out); (case side2 => exact HC0.out); rintro e w7 ⟨v371, v375, rfl, ho0, ho1, hb⟩; have n0_ := Aside0.mk (Kd.R_lower ho0 (below_size hbB)); have n1_ := Aside0.mk (Kd.R_lower ho1 (below_size hbB)); have n2_ := Aside0.mk (below_step hbB hb); clear HB; have HO372 := n0_; have HO376 := n1_; have HB := n2_; clear n0_ n1_ n2_; (try clear hb); (try clear hb2); (try clear hk); (try clear hi); (try clear ho0); (try clear ho1)) | ((with_reducible refine gate_dst (N := 3) rfl ?_); (try (refine gate_guard (by rfl) ?_; dsimp only)); refine box_event ?hg (N := 3) ?hd (cs := #[.int .i64 0, .slice none 0 0]) (t := 48) ?hr ?_; (case hd => rfl); (case hg => rfl); (case hr => first | (go_simp; done) | (go_simp; rfl)); intro gb377 hg w8 hbox hb; have n0_ := Aside0.mk (Kd.R_below (rvR HO372.out) hb); have n1_ := Aside0.mk (Kd.R_below (rvR HO376.out) hb); have n2_ := Aside0.mk (below_step hbB hb); have n3_ := Aside0.mk (hbox); have n4_ := Aside0.mk ((gwb hg (below_size hbB) : w.heap.size ≤ gb377)); have n5_ := n4_; clear HO372; clear HO376; clear HB; have HO372 := n0_; have HO376 := n1_; have HB := n2_; have BK377 := n3_; have GW377 := n4_; have GE377 := n5_; clear n0_ n1_ n2_ n3_ n4_ n5_; clear hb hbox hg; have hcz9_0 : w8.cell? ⟨gb377, 0, none⟩ = some (.int .i64 0) := (blk_cell BK377.out 0).trans rfl; have hcz9_1 : w8.cell? ⟨gb377, 1, none⟩ = some (.slice none 0 0) := (blk_cell BK377.out 1).trans rfl; have hfz9_0 := blk_frozen BK377.out 0; have hfz9_1 := blk_frozen BK377.out 1; obtain ⟨Ao10, co10, eo10⟩ := Kd.R_slice HO372.out; subst eo10; obtain ⟨Ao11, co11, eo11⟩ := Kd.R_slice HO376.out; subst eo11) | (go_at_call 30; (with_reducible refine (impl_Reordered.calls k t369 _ _ t370 t373 _ _ t374 t378 t379 t382 _ ?side1 ?side2 ?side3 ?side4 A4.out).mono ?_); (case side1 => refine (Kd.R_reads' (e := 56) (base := w.heap.size) (ok := fun k_ => True) (n := t370.length) (c := co10) ?_).2.2; exact (by (with_reducible repeat first | apply rvA | apply rvN | apply rvD); exact (Kd.R_mono (Kd.R_far (p := ⟨gb377, 1, none⟩) (Kd.R_far (p := ⟨gb377, 0, none⟩) (Kd.R_types HO372.out BK377.out (by decide)) (fun _ hk => hk.2) (.int .i64 t369)) (fun _ hk => hk.2) (.slice Ao10 t370.length co10)) (fun _ h_ => h_.1)))); (case side2 => exact (Kd.R_reads' HO372.out).2.1); (case side3 => refine (Kd.R_reads' (e := 3) (base := w.heap.size) (ok := fun k_ => True) (n := t374.length) (c := co11) ?_).2.2; exact (by (with_reducible repeat first | apply rvA | apply rvN | apply rvD); exact (Kd.R_mono (Kd.R_far (p := ⟨gb377, 1, none⟩) (Kd.R_far (p := ⟨gb377, 0, none⟩) (Kd.R_types HO376.out BK377.out (by decide)) (fun _ hk => hk.2) (.int .i64 t369)) (fun _ hk => hk.2) (.slice Ao10 t370.length co10)) (fun _ h_ => h_.1)))); (case side4 => exact (Kd.R_reads' HO376.out).2.1); rintro e w12 ⟨v380, rfl, ho0, hb⟩; have n0_ := Aside0.mk (Kd.R_elder' (by (with_reducible repeat first | apply rvA | apply rvN | apply rvD); exact (Kd.R_mono (Kd.R_far (p := ⟨gb377, 1, none⟩) (Kd.R_far (p := ⟨gb377, 0, none⟩) (Kd.R_types HO372.out BK377.out (by decide)) (fun _ hk => hk.2) (.int .i64 t369)) (fun _ hk => hk.2) (.slice Ao10 t370.length co10)) (fun _ h_ => h_.1))) (Kd.R_base ho0) hb); have n1_ := Aside0.mk (Kd.R_below (by (with_reducible repeat first | apply rvA | apply rvN | apply rvD); exact (Kd.R_mono (Kd.R_far (p := ⟨gb377, 1, none⟩) (Kd.R_far (p := ⟨gb377, 0, none⟩) (Kd.R_types HO376.out BK377.out (by decide)) (fun _ hk => hk.2) (.int .i64 t369)) (fun _ hk => hk.2) (.slice Ao10 t370.length co10)) (fun _ h_ => h_.1))) hb); have n2_ := Aside0.mk (Kd.R_lower (Kd.R_new' ho0 (Kd.R_lt (by (with_reducible repeat first | apply rvA | apply rvN | apply rvD); exact (Kd.R_mono (Kd.R_far (p := ⟨gb377, 1, none⟩) (Kd.R_far (p := ⟨gb377, 0, none⟩) (Kd.R_types HO372.out BK377.out (by decide)) (fun _ hk => hk.2) (.int .i64 t369)) (fun _ hk => hk.2) (.slice Ao10 t370.length co10)) (fun _ h_ => h_.1))))) (below_size hbC)); have n3_ := Aside0.mk (blk_below (g := gb377) (o := .cells #[.int .i64 t369, .slice Ao10 t370.length co10] 48 (0, 0)) (by (with_reducible repeat first | apply bkN | apply bkD | apply bkA); refine blk_put (cs := #[.int .i64 t369, .slice none 0 0]) ?_ 1 _ rfl; (with_reducible repeat first | apply bkN | apply bkD | apply bkA); refine blk_put (cs := #[.int .i64 0, .slice none 0 0]) ?_ 0 _ rfl; (with_reducible repeat first | apply bkN | apply bkD | apply bkA); exact BK377.out) hb); have n4_ := Aside0.mk (below_step hbC hb); clear HO372; clear HO376; clear BK377; clear HB; have HO372 := n0_; have HO376 := n1_; have HO381 := n2_; have BK377 := n3_; have HB := n4_; clear n0_ n1_ n2_ n3_ n4_; (try clear hb); (try clear hb2); (try clear hk); (try clear hi); (try clear ho0)) | ((with_reducible refine gate_dst (N := 6) rfl ?_); (try (refine gate_guard (by rfl) ?_; dsimp only)); refine box_event ?hg (N := 6) ?hd (cs := #[.int .i64 0, .slice none 0 0]) (t := 48) ?hr ?_; (case hd => rfl); (case hg => rfl); (case hr => first | (go_simp; done) | (go_simp; rfl)); intro gb383 hg w13 hbox hb; have n0_ := Aside0.mk (Kd.R_below (rvR HO372.out) hb); have n1_ := Aside0.mk (Kd.R_below (rvR HO376.out) hb); have n2_ := Aside0.mk (Kd.R_below (rvR HO381.out) hb); have n3_ := Aside0.mk (blk_below (g := gb377) (o := .cells #[.int .i64 t369, .slice Ao10 t370.length co10] 48 (0, 0)) (bvK BK377.out) hb); have n4_ := Aside0.mk (below_step hbC hb); have n5_ := Aside0.mk (hbox); have n6_ := Aside0.mk ((gwb hg (below_size hbC) : w.heap.size ≤ gb383)); have n7_ := n6_; have n8_ := Aside0.mk ((by rw [hg]; exact Nat.ne_of_lt (blk_lt (g := gb377) (o := .cells #[.int .i64 t369, .slice Ao10 t370.length co10] 48 (0, 0)) (bvK BK377.out)) : gb377 ≠ gb383)); have n9_ := Aside0.mk ((by rw [hg]; exact Nat.ne_of_gt (blk_lt (g := gb377) (o := .cells #[.int .i64 t369, .slice Ao10 t370.length co10] 48 (0, 0)) (bvK BK377.out)) : gb383 ≠ gb377)); clear HO372; clear HO376; clear HO381; clear BK377; clear HB; have HO372 := n0_; have HO376 := n1_; have HO381 := n2_; have BK377 := n3_; have HB := n4_; have BK383 := n5_; have GW383 := n6_; have GE383 := n7_; have NB377_383 := n8_; have NB383_377 := n9_; clear n0_ n1_ n2_ n3_ n4_ n5_ n6_ n7_ n8_ n9_; clear hb hbox hg; have hnb14 := NB383_377.out; have hnc14 := NB377_383.out; have hcz15_0 : w13.cell? ⟨gb383, 0, none⟩ = some (.int .i64 0) := (blk_cell BK383.out 0).trans rfl; have hcz15_1 : w13.cell? ⟨gb383, 1, none⟩ = some (.slice none 0 0) := (blk_cell BK383.out 1).trans rfl; have hfz15_0 := blk_frozen BK383.out 0; have hfz15_1 := blk_frozen BK383.out 1; obtain ⟨Ao16, co16, eo16⟩ := Kd.R_slice HO381.out; subst eo16) | (go_at_call 31; (with_reducible refine (impl_OrderBack.calls k _ _ t374 t384 _ ?side1 ?side2 A5.out).mono ?_); (case side1 => refine (Kd.R_reads' (e := 3) (base := w.heap.size) (ok := fun k_ => True) (n := t374.length) (c := co11) ?_).2.2; exact (by (with_reducible repeat first | apply rvA | apply rvN | apply rvD); exact (Kd.R_mono (Kd.R_far (p := ⟨gb383, 1, none⟩) (Kd.R_far (p := ⟨gb383, 0, none⟩) (Kd.R_types HO376.out BK383.out (by decide)) (fun _ hk => hk.2) (.int .i64 t378)) (fun _ hk => hk.2) (.slice Ao16 t379.length co16)) (fun _ h_ => h_.1)))); (case side2 => exact (Kd.R_reads' HO376.out).2.1); rintro e w17 ⟨v385, rfl, ho0, hb⟩; have n0_ := Aside0.mk (Kd.R_below (by (with_reducible repeat first | apply rvA | apply rvN | apply rvD); exact (Kd.R_mono (Kd.R_far (p := ⟨gb383, 1, none⟩) (Kd.R_far (p := ⟨gb383, 0, none⟩) (Kd.R_types HO372.out BK383.out (by decide)) (fun _ hk => hk.2) (.int .i64 t378)) (fun _ hk => hk.2) (.slice Ao16 t379.length co16)) (fun _ h_ => h_.1))) hb); have n1_ := Aside0.mk (Kd.R_elder' (by (with_reducible repeat first | apply rvA | apply rvN | apply rvD); exact (Kd.R_mono (Kd.R_far (p := ⟨gb383, 1, none⟩) (Kd.R_far (p := ⟨gb383, 0, none⟩) (Kd.R_types HO376.out BK383.out (by decide)) (fun _ hk => hk.2) (.int .i64 t378)) (fun _ hk => hk.2) (.slice Ao16 t379.length co16)) (fun _ h_ => h_.1))) (Kd.R_base ho0) hb); have n2_ := Aside0.mk (Kd.R_below (by (with_reducible repeat first | apply rvA | apply rvN | apply rvD); exact (Kd.R_mono (Kd.R_far (p := ⟨gb383, 1, none⟩) (Kd.R_far (p := ⟨gb383, 0, none⟩) (Kd.R_types HO381.out BK383.out (by decide)) (fun _ hk => hk.2) (.int .i64 t378)) (fun _ hk => hk.2) (.slice Ao16 t379.length co16)) (fun _ h_ => h_.1))) hb); have n3_ := Aside0.mk (Kd.R_lower (Kd.R_new' ho0 (Kd.R_lt (by (with_reducible repeat first | apply rvA | apply rvN | apply rvD); exact (Kd.R_mono (Kd.R_far (p := ⟨gb383, 1, none⟩) (Kd.R_far (p := ⟨gb383, 0, none⟩) (Kd.R_types HO376.out BK383.out (by decide)) (fun _ hk => hk.2) (.int .i64 t378)) (fun _ hk => hk.2) (.slice Ao16 t379.length co16)) (fun _ h_ => h_.1))))) (below_size hbC)); have n4_ := Aside0.mk (blk_below (g := gb377) (o := .cells #[.int .i64 t369, .slice Ao10 t370.length co10] 48 (0, 0)) (by (with_reducible repeat first | apply bkN | apply bkD | apply bkA); refine blk_far ?_ NB377_383.out _; (with_reducible repeat first | apply bkN | apply bkD | apply bkA); refine blk_far ?_ NB377_383.out _; (with_reducible repeat first | apply bkN | apply bkD | apply bkA); exact BK377.out) hb); have n5_ := Aside0.mk (blk_below (g := gb383) (o := .cells #[.int .i64 t378, .slice Ao16 t379.length co16] 48 (0, 0)) (by (with_reducible repeat first | apply bkN | apply bkD | apply bkA); refine blk_put (cs := #[.int .i64 t378, .slice none 0 0]) ?_ 1 _ rfl; (with_reducible repeat first | apply bkN | apply bkD | apply bkA); refine blk_put (cs := #[.int .i64 0, .slice none 0 0]) ?_ 0 _ rfl; (with_reducible repeat first | apply bkN | apply bkD | apply bkA); exact BK383.out) hb); have n6_ := Aside0.mk (below_step hbC hb); clear HO372; clear HO376; clear HO381; clear BK377; clear BK383; clear HB; have HO372 := n0_; have HO376 := n1_; have HO381 := n2_; have HO386 := n3_; have BK377 := n4_; have BK383 := n5_; have HB := n6_; clear n0_ n1_ n2_ n3_ n4_ n5_ n6_; (try clear hb); (try clear hb2); (try clear hk); (try clear hi); (try clear ho0))); try go_quiet (fail))
  (try simp only [Act.put, List.setIfInBounds_toArray, List.set_cons_zero, List.set_cons_succ])
  go_cut [42] (fun v42 wc => ∃ (kq : Nat) (x42_5 : Bool), v42 = .bool x42_5 ∧ Aside0 (laws_FnReorderBack.j0 kq t373 t374 t382 t384 x42_5 t369 t370 t378 t379 = some r) ∧ Aside0 (kq ≤ k) ∧ Aside0 (Kd.R (Kd.int .i64) 3 wc w.heap.size (fun k_ => some k_ ≠ (v385 : Value).ownBlock) (.slice Ao11 t374.length co11) t374) ∧ Aside0 (Kd.R (Kd.int .i64) 3 wc w.heap.size (fun k_ => some k_ ≠ ((.slice Ao11 t374.length co11) : Value).ownBlock) v385 t384) ∧ Aside0 (Kd.R k56 56 wc w.heap.size (fun k_ => some k_ ≠ ((.slice Ao16 t379.length co16) : Value).ownBlock) (.slice Ao10 t370.length co10) t370) ∧ Aside0 (Kd.R k56 56 wc w.heap.size (fun k_ => some k_ ≠ ((.slice Ao10 t370.length co10) : Value).ownBlock) (.slice Ao16 t379.length co16) t379) ∧ Aside0 (wc.heap[gb377]? = some (.cells #[.int .i64 t369, (.slice Ao10 t370.length co10)] 48 (0, 0))) ∧ Aside0 (wc.heap[gb383]? = some (.cells #[.int .i64 t378, (.slice Ao16 t379.length co16)] 48 (0, 0))) ∧ Aside0 (Below w.heap.size w wc))
  case first =>
   have H := HC6.out
   clear HC6
   replace H := Option.bind_eq_some_iff.mp H
   obtain ⟨t387, A180, H⟩ := H
   replace H : ((laws_wcInts.f k t384 t387).bind fun t390 => (if t390 = true then (laws_FnReorderBack.j0 k t373 t374 t382 t384 (decide (t382 < 0)) t369 t370 t378 t379) else (laws_FnReorderBack.j0 k t373 t374 t382 t384 true t369 t370 t378 t379))) = some r := H
   have A18 := Aside0.mk A180
   clear A180
   replace H := Option.bind_eq_some_iff.mp H
   obtain ⟨t390, A190, H⟩ := H
   replace H : (if t390 = true then (laws_FnReorderBack.j0 k t373 t374 t382 t384 (decide (t382 < 0)) t369 t370 t378 t379) else (laws_FnReorderBack.j0 k t373 t374 t382 t384 true t369 t370 t378 t379)) = some r := H
   have A19 := Aside0.mk A190
   clear A190
   by_cases c20 : t390 = true
   ·subst c20
    have H1 : (laws_FnReorderBack.j0 k t373 t374 t382 t384 (decide (t382 < 0)) t369 t370 t378 t379) = some r := by rw [if_pos rfl] at H; exact H
    clear H
    have H := H1
    clear H1
    have H' := Aside0.mk H
    clear H
    iterate 5 (go_wp2_with (first | (go_at_call 32; (with_reducible refine (spec_OrderBack.calls k _ _ t374 t387 _ ?side1 ?side2 A18.out).mono ?_); (case side1 => exact kcR (Kd.R_reads' HO376.out).2.2); (case side2 => exact (Kd.R_reads' HO376.out).2.1); rintro e w21 ⟨v388, rfl, ho0, hb⟩; have n0_ := Aside0.mk (Kd.R_below (rvR HO372.out) hb); have n1_ := Aside0.mk (Kd.R_elder' (rvR HO376.out) (Kd.R_base ho0) hb); have n2_ := Aside0.mk (Kd.R_below (rvR HO381.out) hb); have n3_ := Aside0.mk (Kd.R_elder' (rvR HO386.out) (Kd.R_base ho0) hb); have n4_ := Aside0.mk (Kd.R_lower (Kd.R_new' (Kd.R_new' ho0 (Kd.R_lt (rvR HO376.out))) (Kd.R_lt (rvR HO386.out))) (below_size hbC)); have n5_ := Aside0.mk (blk_below (g := gb377) (o := .cells #[.int .i64 t369, .slice Ao10 t370.length co10] 48 (0, 0)) (bvK BK377.out) hb); have n6_ := Aside0.mk (blk_below (g := gb383) (o := .cells #[.int .i64 t378, .slice Ao16 t379.length co16] 48 (0, 0)) (bvK BK383.out) hb); have n7_ := Aside0.mk (below_step hbC hb); clear HO372; clear HO376; clear HO381; clear HO386; clear BK377; clear BK383; clear HB; have HO372 := n0_; have HO376 := n1_; have HO381 := n2_; have HO386 := n3_; have HO389 := n4_; have BK377 := n5_; have BK383 := n6_; have HB := n7_; clear n0_ n1_ n2_ n3_ n4_ n5_ n6_ n7_; (try clear hb); (try clear hb2); (try clear hk); (try clear hi); (try clear ho0); obtain ⟨Ao22, co22, eo22⟩ := Kd.R_slice HO386.out; subst eo22; obtain ⟨Ao23, co23, eo23⟩ := Kd.R_slice HO389.out; subst eo23) | (go_at_call 21; (with_reducible refine (laws_wcInts.calls k _ _ t384 _ _ t387 true _ ?side1 ?side2 ?side3 ?side4 A19.out).mono ?_); (case side1 => exact kcR (Kd.R_reads' HO386.out).2.2); (case side2 => exact (Kd.R_reads' HO386.out).2.1); (case side3 => exact kcR (Kd.R_reads' HO389.out).2.2); (case side4 => exact (Kd.R_reads' HO389.out).2.1); rintro e w' ⟨rfl, ⟨nd, rfl⟩⟩; (try first | exact ⟨rfl, _, World.drewN_drewN _ _ _⟩ | exact ⟨rfl, _, Eq.trans (World.drewN_drewN _ _ _) (congrArg (World.drewN _) (Nat.add_assoc _ _ _))⟩))); try go_quiet (fail))
    go_meet
    case rel => exact ⟨_, (decide (t382 < 0)), rsd, H', ⟨by first | omega | exact Nat.le_refl _⟩, ⟨by (with_reducible repeat first | apply rvA | apply rvN | apply rvD); exact Kd.R_mono HO376.out (fun _ hk => hk.1.2)⟩, ⟨by (with_reducible repeat first | apply rvA | apply rvN | apply rvD); exact Kd.R_mono HO386.out (fun _ hk => hk.1.2)⟩, ⟨by (with_reducible repeat first | apply rvA | apply rvN | apply rvD); exact Kd.R_mono HO372.out (fun _ hk => by first | exact hk.2 | exact trivial | exact hk)⟩, ⟨by (with_reducible repeat first | apply rvA | apply rvN | apply rvD); exact Kd.R_mono HO381.out (fun _ hk => by first | exact hk.2 | exact trivial | exact hk)⟩, ⟨bvK BK377.out⟩, ⟨bvK BK383.out⟩, ⟨hbC⟩⟩
   ·replace c20 := Bool.eq_false_iff.mpr c20
    subst c20
    have H1 : (laws_FnReorderBack.j0 k t373 t374 t382 t384 true t369 t370 t378 t379) = some r := by rw [if_neg (show ¬ (false = true) by decide)] at H; exact H
    clear H
    have H := H1
    clear H1
    have H' := Aside0.mk H
    clear H
    iterate 5 (go_wp2_with (first | (go_at_call 32; (with_reducible refine (spec_OrderBack.calls k _ _ t374 t387 _ ?side1 ?side2 A18.out).mono ?_); (case side1 => exact kcR (Kd.R_reads' HO376.out).2.2); (case side2 => exact (Kd.R_reads' HO376.out).2.1); rintro e w24 ⟨v388, rfl, ho0, hb⟩; have n0_ := Aside0.mk (Kd.R_below (rvR HO372.out) hb); have n1_ := Aside0.mk (Kd.R_elder' (rvR HO376.out) (Kd.R_base ho0) hb); have n2_ := Aside0.mk (Kd.R_below (rvR HO381.out) hb); have n3_ := Aside0.mk (Kd.R_elder' (rvR HO386.out) (Kd.R_base ho0) hb); have n4_ := Aside0.mk (Kd.R_lower (Kd.R_new' (Kd.R_new' ho0 (Kd.R_lt (rvR HO376.out))) (Kd.R_lt (rvR HO386.out))) (below_size hbC)); have n5_ := Aside0.mk (blk_below (g := gb377) (o := .cells #[.int .i64 t369, .slice Ao10 t370.length co10] 48 (0, 0)) (bvK BK377.out) hb); have n6_ := Aside0.mk (blk_below (g := gb383) (o := .cells #[.int .i64 t378, .slice Ao16 t379.length co16] 48 (0, 0)) (bvK BK383.out) hb); have n7_ := Aside0.mk (below_step hbC hb); clear HO372; clear HO376; clear HO381; clear HO386; clear BK377; clear BK383; clear HB; have HO372 := n0_; have HO376 := n1_; have HO381 := n2_; have HO386 := n3_; have HO389 := n4_; have BK377 := n5_; have BK383 := n6_; have HB := n7_; clear n0_ n1_ n2_ n3_ n4_ n5_ n6_ n7_; (try clear hb); (try clear hb2); (try clear hk); (try clear hi); (try clear ho0); obtain ⟨Ao25, co25, eo25⟩ := Kd.R_slice HO386.out; subst eo25; obtain ⟨Ao26, co26, eo26⟩ := Kd.R_slice HO389.out; subst eo26) | (go_at_call 21; (with_reducible refine (laws_wcInts.calls k _ _ t384 _ _ t387 false _ ?side1 ?side2 ?side3 ?side4 A19.out).mono ?_); (case side1 => exact kcR (Kd.R_reads' HO386.out).2.2); (case side2 => exact (Kd.R_reads' HO386.out).2.1); (case side3 => exact kcR (Kd.R_reads' HO389.out).2.2); (case side4 => exact (Kd.R_reads' HO389.out).2.1); rintro e w' ⟨rfl, ⟨nd, rfl⟩⟩; (try first | exact ⟨rfl, _, World.drewN_drewN _ _ _⟩ | exact ⟨rfl, _, Eq.trans (World.drewN_drewN _ _ _) (congrArg (World.drewN _) (Nat.add_assoc _ _ _))⟩))); try go_quiet (fail))
    go_meet
    case rel => exact ⟨_, (true), rsd, H', ⟨by first | omega | exact Nat.le_refl _⟩, ⟨by (with_reducible repeat first | apply rvA | apply rvN | apply rvD); exact Kd.R_mono HO376.out (fun _ hk => hk.1.2)⟩, ⟨by (with_reducible repeat first | apply rvA | apply rvN | apply rvD); exact Kd.R_mono HO386.out (fun _ hk => hk.1.2)⟩, ⟨by (with_reducible repeat first | apply rvA | apply rvN | apply rvD); exact Kd.R_mono HO372.out (fun _ hk => by first | exact hk.2 | exact trivial | exact hk)⟩, ⟨by (with_reducible repeat first | apply rvA | apply rvN | apply rvD); exact Kd.R_mono HO381.out (fun _ hk => by first | exact hk.2 | exact trivial | exact hk)⟩, ⟨bvK BK377.out⟩, ⟨bvK BK383.out⟩, ⟨hbC⟩⟩
  case rest =>
   clear HC6
   try clear c1
   try clear c2
   try clear c2b0
   try clear c2b1
   try clear p2
   try clear c7
   try clear c14
   try clear c20
   try clear hcz15_0
   try clear hcz15_1
   try clear hcz9_0
   try clear hcz9_1
   try clear hfz15_0
   try clear hfz15_1
   try clear hfz9_0
   try clear hfz9_1
   obtain ⟨kq, x42_5, rfl, HA, HJ5, HO_5, HO_8, HO_378001, HO_384001, BK377, BK383, HB⟩ := hcut
   cases kq with
   | zero => exact absurd HA.out (by simp [laws_FnReorderBack.j0])
   | succ kj5 =>
    have H := HA.out
    clear HA
    simp only [laws_FnReorderBack.j0] at H
    by_cases c27 : x42_5 = true
    ·subst c27
     have H1 : ((spec_Reordered.f kj5 t369 t370 t373 t374).bind fun bt391 => ((spec_OrderBack.f kj5 t374).bind fun t397 => ((laws_wcInts.f kj5 t384 t397).bind fun t400 => (if t400 = true then (some (bt391.2.2 == t382)) else (some false))))) = some r := by rw [if_pos rfl] at H; exact H
     clear H
     have H := H1
     clear H1
     replace H := Option.bind_eq_some_iff.mp H
     obtain ⟨⟨t391, t392, t395⟩, A280, H⟩ := H
     replace H : ((spec_OrderBack.f kj5 t374).bind fun t397 => ((laws_wcInts.f kj5 t384 t397).bind fun t400 => (if t400 = true then (some (t395 == t382)) else (some false)))) = some r := H
     have A28 := Aside0.mk A280
     clear A280
     replace H := Option.bind_eq_some_iff.mp H
     obtain ⟨t397, A290, H⟩ := H
     replace H : ((laws_wcInts.f kj5 t384 t397).bind fun t400 => (if t400 = true then (some (t395 == t382)) else (some false))) = some r := H
     have A29 := Aside0.mk A290
     clear A290
     replace H := Option.bind_eq_some_iff.mp H
     obtain ⟨t400, A300, H⟩ := H
     replace H : (if t400 = true then (some (t395 == t382)) else (some false)) = some r := H
     have A30 := Aside0.mk A300
     clear A300
     by_cases c31 : t400 = true
     ·subst c31
      have H1 : (some (t395 == t382)) = some r := by rw [if_pos rfl] at H; exact H
      clear H
      have H := H1
      clear H1
      obtain rfl := Option.some.inj H
      have hnb32 := NB377_383.out
      have hnc32 := NB383_377.out
      have hcz33_0 : wc.cell? ⟨gb377, 0, none⟩ = some (.int .i64 t369) := (blk_cell BK377.out 0).trans rfl
      have hcz33_1 : wc.cell? ⟨gb377, 1, none⟩ = some (.slice Ao10 t370.length co10) := (blk_cell BK377.out 1).trans rfl
      have hfz33_0 := blk_frozen BK377.out 0
      have hfz33_1 := blk_frozen BK377.out 1
      iterate 5 (go_wp2_with (first | (go_at_call 33; (with_reducible refine (spec_Reordered.calls kj5 t369 _ _ t370 t373 _ _ t374 t391 t392 t395 _ ?side1 ?side2 ?side3 ?side4 A28.out).mono ?_); (case side1 => exact kcR (Kd.R_reads' HO_378001.out).2.2); (case side2 => exact (Kd.R_reads' HO_378001.out).2.1); (case side3 => exact kcR (Kd.R_reads' HO_5.out).2.2); (case side4 => exact (Kd.R_reads' HO_5.out).2.1); rintro e w34 ⟨v393, rfl, ho0, hb⟩; have n0_ := Aside0.mk (Kd.R_below (rvR HO_5.out) hb); have n1_ := Aside0.mk (Kd.R_below (rvR HO_8.out) hb); have n2_ := Aside0.mk (Kd.R_elder' (rvR HO_378001.out) (Kd.R_base ho0) hb); have n3_ := Aside0.mk (Kd.R_elder' (rvR HO_384001.out) (Kd.R_base ho0) hb); have n4_ := Aside0.mk (Kd.R_lower (Kd.R_new' (Kd.R_new' ho0 (Kd.R_lt (rvR HO_378001.out))) (Kd.R_lt (rvR HO_384001.out))) (below_size hbC)); have n5_ := Aside0.mk (blk_below (g := gb377) (o := .cells #[.int .i64 t369, .slice Ao10 t370.length co10] 48 (0, 0)) (bvK BK377.out) hb); have n6_ := Aside0.mk (blk_below (g := gb383) (o := .cells #[.int .i64 t378, .slice Ao16 t379.length co16] 48 (0, 0)) (bvK BK383.out) hb); have n7_ := Aside0.mk (below_step hbC hb); clear HO_5; clear HO_8; clear HO_378001; clear HO_384001; clear BK377; clear BK383; clear HB; have HO_5 := n0_; have HO_8 := n1_; have HO_378001 := n2_; have HO_384001 := n3_; have HO394 := n4_; have BK377 := n5_; have BK383 := n6_; have HB := n7_; clear n0_ n1_ n2_ n3_ n4_ n5_ n6_ n7_; (try clear hb); (try clear hb2); (try clear hk); (try clear hi); (try clear ho0)) | ((with_reducible refine gate_dst (N := 9) rfl ?_); (try (refine gate_guard (by rfl) ?_; dsimp only)); refine box_event ?hg (N := 9) ?hd (cs := #[.int .i64 0, .slice none 0 0]) (t := 48) ?hr ?_; (case hd => rfl); (case hg => rfl); (case hr => first | (go_simp; done) | (go_simp; rfl)); intro gb396 hg w35 hbox hb; have n0_ := Aside0.mk (Kd.R_below (rvR HO_5.out) hb); have n1_ := Aside0.mk (Kd.R_below (rvR HO_8.out) hb); have n2_ := Aside0.mk (Kd.R_below (rvR HO_378001.out) hb); have n3_ := Aside0.mk (Kd.R_below (rvR HO_384001.out) hb); have n4_ := Aside0.mk (Kd.R_below (rvR HO394.out) hb); have n5_ := Aside0.mk (blk_below (g := gb377) (o := .cells #[.int .i64 t369, .slice Ao10 t370.length co10] 48 (0, 0)) (bvK BK377.out) hb); have n6_ := Aside0.mk (blk_below (g := gb383) (o := .cells #[.int .i64 t378, .slice Ao16 t379.length co16] 48 (0, 0)) (bvK BK383.out) hb); have n7_ := Aside0.mk (below_step hbC hb); have n8_ := Aside0.mk (hbox); have n9_ := Aside0.mk ((gwb hg (below_size hbC) : w.heap.size ≤ gb396)); have n10_ := n9_; have n11_ := Aside0.mk ((by rw [hg]; exact Nat.ne_of_lt (blk_lt (g := gb377) (o := .cells #[.int .i64 t369, .slice Ao10 t370.length co10] 48 (0, 0)) (bvK BK377.out)) : gb377 ≠ gb396)); have n12_ := Aside0.mk ((by rw [hg]; exact Nat.ne_of_gt (blk_lt (g := gb377) (o := .cells #[.int .i64 t369, .slice Ao10 t370.length co10] 48 (0, 0)) (bvK BK377.out)) : gb396 ≠ gb377)); have n13_ := Aside0.mk ((by rw [hg]; exact Nat.ne_of_lt (blk_lt (g := gb383) (o := .cells #[.int .i64 t378, .slice Ao16 t379.length co16] 48 (0, 0)) (bvK BK383.out)) : gb383 ≠ gb396)); have n14_ := Aside0.mk ((by rw [hg]; exact Nat.ne_of_gt (blk_lt (g := gb383) (o := .cells #[.int .i64 t378, .slice Ao16 t379.length co16] 48 (0, 0)) (bvK BK383.out)) : gb396 ≠ gb383)); clear HO_5; clear HO_8; clear HO_378001; clear HO_384001; clear HO394; clear BK377; clear BK383; clear HB; have HO_5 := n0_; have HO_8 := n1_; have HO_378001 := n2_; have HO_384001 := n3_; have HO394 := n4_; have BK377 := n5_; have BK383 := n6_; have HB := n7_; have BK396 := n8_; have GW396 := n9_; have GE396 := n10_; have NB377_396 := n11_; have NB396_377 := n12_; have NB383_396 := n13_; have NB396_383 := n14_; clear n0_ n1_ n2_ n3_ n4_ n5_ n6_ n7_ n8_ n9_ n10_ n11_ n12_ n13_ n14_; clear hb hbox hg; have hnb36 := NB396_377.out; have hnc36 := NB377_396.out; have hnb37 := NB396_383.out; have hnc37 := NB383_396.out; have hcz38_0 : w35.cell? ⟨gb396, 0, none⟩ = some (.int .i64 0) := (blk_cell BK396.out 0).trans rfl; have hcz38_1 : w35.cell? ⟨gb396, 1, none⟩ = some (.slice none 0 0) := (blk_cell BK396.out 1).trans rfl; have hfz38_0 := blk_frozen BK396.out 0; have hfz38_1 := blk_frozen BK396.out 1; obtain ⟨Ao39, co39, eo39⟩ := Kd.R_slice HO394.out; subst eo39) | (go_at_call 32; (with_reducible refine (spec_OrderBack.calls kj5 _ _ t374 t397 _ ?side1 ?side2 A29.out).mono ?_); (case side1 => refine (Kd.R_reads' (e := 3) (base := w.heap.size) (ok := fun k_ => some k_ ≠ (v385 : Value).ownBlock) (n := t374.length) (c := co11) ?_).2.2; exact (by (with_reducible repeat first | apply rvA | apply rvN | apply rvD); exact (Kd.R_mono (Kd.R_far (p := ⟨gb396, 1, none⟩) (Kd.R_far (p := ⟨gb396, 0, none⟩) (Kd.R_types HO_5.out BK396.out (by decide)) (fun _ hk => hk.2) (.int .i64 t391)) (fun _ hk => hk.2) (.slice Ao39 t392.length co39)) (fun _ h_ => h_.1)))); (case side2 => exact (Kd.R_reads' HO_5.out).2.1); rintro e w40 ⟨v398, rfl, ho0, hb⟩; have n0_ := Aside0.mk (Kd.R_elder' (by (with_reducible repeat first | apply rvA | apply rvN | apply rvD); exact (Kd.R_mono (Kd.R_far (p := ⟨gb396, 1, none⟩) (Kd.R_far (p := ⟨gb396, 0, none⟩) (Kd.R_types HO_5.out BK396.out (by decide)) (fun _ hk => hk.2) (.int .i64 t391)) (fun _ hk => hk.2) (.slice Ao39 t392.length co39)) (fun _ h_ => h_.1))) (Kd.R_base ho0) hb); have n1_ := Aside0.mk (Kd.R_elder' (by (with_reducible repeat first | apply rvA | apply rvN | apply rvD); exact (Kd.R_mono (Kd.R_far (p := ⟨gb396, 1, none⟩) (Kd.R_far (p := ⟨gb396, 0, none⟩) (Kd.R_types HO_8.out BK396.out (by decide)) (fun _ hk => hk.2) (.int .i64 t391)) (fun _ hk => hk.2) (.slice Ao39 t392.length co39)) (fun _ h_ => h_.1))) (Kd.R_base ho0) hb); have n2_ := Aside0.mk (Kd.R_below (by (with_reducible repeat first | apply rvA | apply rvN | apply rvD); exact (Kd.R_mono (Kd.R_far (p := ⟨gb396, 1, none⟩) (Kd.R_far (p := ⟨gb396, 0, none⟩) (Kd.R_types HO_378001.out BK396.out (by decide)) (fun _ hk => hk.2) (.int .i64 t391)) (fun _ hk => hk.2) (.slice Ao39 t392.length co39)) (fun _ h_ => h_.1))) hb); have n3_ := Aside0.mk (Kd.R_below (by (with_reducible repeat first | apply rvA | apply rvN | apply rvD); exact (Kd.R_mono (Kd.R_far (p := ⟨gb396, 1, none⟩) (Kd.R_far (p := ⟨gb396, 0, none⟩) (Kd.R_types HO_384001.out BK396.out (by decide)) (fun _ hk => hk.2) (.int .i64 t391)) (fun _ hk => hk.2) (.slice Ao39 t392.length co39)) (fun _ h_ => h_.1))) hb); have n4_ := Aside0.mk (Kd.R_below (by (with_reducible repeat first | apply rvA | apply rvN | apply rvD); exact (Kd.R_mono (Kd.R_far (p := ⟨gb396, 1, none⟩) (Kd.R_far (p := ⟨gb396, 0, none⟩) (Kd.R_types HO394.out BK396.out (by decide)) (fun _ hk => hk.2) (.int .i64 t391)) (fun _ hk => hk.2) (.slice Ao39 t392.length co39)) (fun _ h_ => h_.1))) hb); have n5_ := Aside0.mk (Kd.R_lower (Kd.R_new' (Kd.R_new' ho0 (Kd.R_lt (by (with_reducible repeat first | apply rvA | apply rvN | apply rvD); exact (Kd.R_mono (Kd.R_far (p := ⟨gb396, 1, none⟩) (Kd.R_far (p := ⟨gb396, 0, none⟩) (Kd.R_types HO_5.out BK396.out (by decide)) (fun _ hk => hk.2) (.int .i64 t391)) (fun _ hk => hk.2) (.slice Ao39 t392.length co39)) (fun _ h_ => h_.1))))) (Kd.R_lt (by (with_reducible repeat first | apply rvA | apply rvN | apply rvD); exact (Kd.R_mono (Kd.R_far (p := ⟨gb396, 1, none⟩) (Kd.R_far (p := ⟨gb396, 0, none⟩) (Kd.R_types HO_8.out BK396.out (by decide)) (fun _ hk => hk.2) (.int .i64 t391)) (fun _ hk => hk.2) (.slice Ao39 t392.length co39)) (fun _ h_ => h_.1))))) (below_size hbC)); have n6_ := Aside0.mk (blk_below (g := gb377) (o := .cells #[.int .i64 t369, .slice Ao10 t370.length co10] 48 (0, 0)) (by (with_reducible repeat first | apply bkN | apply bkD | apply bkA); refine blk_far ?_ NB377_396.out _; (with_reducible repeat first | apply bkN | apply bkD | apply bkA); refine blk_far ?_ NB377_396.out _; (with_reducible repeat first | apply bkN | apply bkD | apply bkA); exact BK377.out) hb); have n7_ := Aside0.mk (blk_below (g := gb383) (o := .cells #[.int .i64 t378, .slice Ao16 t379.length co16] 48 (0, 0)) (by (with_reducible repeat first | apply bkN | apply bkD | apply bkA); refine blk_far ?_ NB383_396.out _; (with_reducible repeat first | apply bkN | apply bkD | apply bkA); refine blk_far ?_ NB383_396.out _; (with_reducible repeat first | apply bkN | apply bkD | apply bkA); exact BK383.out) hb); have n8_ := Aside0.mk (blk_below (g := gb396) (o := .cells #[.int .i64 t391, .slice Ao39 t392.length co39] 48 (0, 0)) (by (with_reducible repeat first | apply bkN | apply bkD | apply bkA); refine blk_put (cs := #[.int .i64 t391, .slice none 0 0]) ?_ 1 _ rfl; (with_reducible repeat first | apply bkN | apply bkD | apply bkA); refine blk_put (cs := #[.int .i64 0, .slice none 0 0]) ?_ 0 _ rfl; (with_reducible repeat first | apply bkN | apply bkD | apply bkA); exact BK396.out) hb); have n9_ := Aside0.mk (below_step hbC hb); clear HO_5; clear HO_8; clear HO_378001; clear HO_384001; clear HO394; clear BK377; clear BK383; clear BK396; clear HB; have HO_5 := n0_; have HO_8 := n1_; have HO_378001 := n2_; have HO_384001 := n3_; have HO394 := n4_; have HO399 := n5_; have BK377 := n6_; have BK383 := n7_; have BK396 := n8_; have HB := n9_; clear n0_ n1_ n2_ n3_ n4_ n5_ n6_ n7_ n8_ n9_; (try clear hb); (try clear hb2); (try clear hk); (try clear hi); (try clear ho0); obtain ⟨Ao41, co41, eo41⟩ := Kd.R_slice HO_8.out; subst eo41; obtain ⟨Ao42, co42, eo42⟩ := Kd.R_slice HO399.out; subst eo42) | (go_at_call 21; (with_reducible refine (laws_wcInts.calls kj5 _ _ t384 _ _ t397 true _ ?side1 ?side2 ?side3 ?side4 A30.out).mono ?_); (case side1 => exact kcR (Kd.R_reads' HO_8.out).2.2); (case side2 => exact (Kd.R_reads' HO_8.out).2.1); (case side3 => exact kcR (Kd.R_reads' HO399.out).2.2); (case side4 => exact (Kd.R_reads' HO399.out).2.1); rintro e w' ⟨rfl, ⟨nd, rfl⟩⟩; (try first | exact ⟨rfl, _, World.drewN_drewN _ _ _⟩ | exact ⟨rfl, _, Eq.trans (World.drewN_drewN _ _ _) (congrArg (World.drewN _) (Nat.add_assoc _ _ _))⟩))); try go_quiet (fail))
      go_ret
      exact ⟨ers, hbC⟩
     ·replace c31 := Bool.eq_false_iff.mpr c31
      subst c31
      have H1 : (some false) = some r := by rw [if_neg (show ¬ (false = true) by decide)] at H; exact H
      clear H
      have H := H1
      clear H1
      obtain rfl := Option.some.inj H
      have hnb43 := NB377_383.out
      have hnc43 := NB383_377.out
      have hcz44_0 : wc.cell? ⟨gb377, 0, none⟩ = some (.int .i64 t369) := (blk_cell BK377.out 0).trans rfl
      have hcz44_1 : wc.cell? ⟨gb377, 1, none⟩ = some (.slice Ao10 t370.length co10) := (blk_cell BK377.out 1).trans rfl
      have hfz44_0 := blk_frozen BK377.out 0
      have hfz44_1 := blk_frozen BK377.out 1
      iterate 5 (go_wp2_with (first | (go_at_call 33; (with_reducible refine (spec_Reordered.calls kj5 t369 _ _ t370 t373 _ _ t374 t391 t392 t395 _ ?side1 ?side2 ?side3 ?side4 A28.out).mono ?_); (case side1 => exact kcR (Kd.R_reads' HO_378001.out).2.2); (case side2 => exact (Kd.R_reads' HO_378001.out).2.1); (case side3 => exact kcR (Kd.R_reads' HO_5.out).2.2); (case side4 => exact (Kd.R_reads' HO_5.out).2.1); rintro e w45 ⟨v393, rfl, ho0, hb⟩; have n0_ := Aside0.mk (Kd.R_below (rvR HO_5.out) hb); have n1_ := Aside0.mk (Kd.R_below (rvR HO_8.out) hb); have n2_ := Aside0.mk (Kd.R_elder' (rvR HO_378001.out) (Kd.R_base ho0) hb); have n3_ := Aside0.mk (Kd.R_elder' (rvR HO_384001.out) (Kd.R_base ho0) hb); have n4_ := Aside0.mk (Kd.R_lower (Kd.R_new' (Kd.R_new' ho0 (Kd.R_lt (rvR HO_378001.out))) (Kd.R_lt (rvR HO_384001.out))) (below_size hbC)); have n5_ := Aside0.mk (blk_below (g := gb377) (o := .cells #[.int .i64 t369, .slice Ao10 t370.length co10] 48 (0, 0)) (bvK BK377.out) hb); have n6_ := Aside0.mk (blk_below (g := gb383) (o := .cells #[.int .i64 t378, .slice Ao16 t379.length co16] 48 (0, 0)) (bvK BK383.out) hb); have n7_ := Aside0.mk (below_step hbC hb); clear HO_5; clear HO_8; clear HO_378001; clear HO_384001; clear BK377; clear BK383; clear HB; have HO_5 := n0_; have HO_8 := n1_; have HO_378001 := n2_; have HO_384001 := n3_; have HO394 := n4_; have BK377 := n5_; have BK383 := n6_; have HB := n7_; clear n0_ n1_ n2_ n3_ n4_ n5_ n6_ n7_; (try clear hb); (try clear hb2); (try clear hk); (try clear hi); (try clear ho0)) | ((with_reducible refine gate_dst (N := 9) rfl ?_); (try (refine gate_guard (by rfl) ?_; dsimp only)); refine box_event ?hg (N := 9) ?hd (cs := #[.int .i64 0, .slice none 0 0]) (t := 48) ?hr ?_; (case hd => rfl); (case hg => rfl); (case hr => first | (go_simp; done) | (go_simp; rfl)); intro gb396 hg w46 hbox hb; have n0_ := Aside0.mk (Kd.R_below (rvR HO_5.out) hb); have n1_ := Aside0.mk (Kd.R_below (rvR HO_8.out) hb); have n2_ := Aside0.mk (Kd.R_below (rvR HO_378001.out) hb); have n3_ := Aside0.mk (Kd.R_below (rvR HO_384001.out) hb); have n4_ := Aside0.mk (Kd.R_below (rvR HO394.out) hb); have n5_ := Aside0.mk (blk_below (g := gb377) (o := .cells #[.int .i64 t369, .slice Ao10 t370.length co10] 48 (0, 0)) (bvK BK377.out) hb); have n6_ := Aside0.mk (blk_below (g := gb383) (o := .cells #[.int .i64 t378, .slice Ao16 t379.length co16] 48 (0, 0)) (bvK BK383.out) hb); have n7_ := Aside0.mk (below_step hbC hb); have n8_ := Aside0.mk (hbox); have n9_ := Aside0.mk ((gwb hg (below_size hbC) : w.heap.size ≤ gb396)); have n10_ := n9_; have n11_ := Aside0.mk ((by rw [hg]; exact Nat.ne_of_lt (blk_lt (g := gb377) (o := .cells #[.int .i64 t369, .slice Ao10 t370.length co10] 48 (0, 0)) (bvK BK377.out)) : gb377 ≠ gb396)); have n12_ := Aside0.mk ((by rw [hg]; exact Nat.ne_of_gt (blk_lt (g := gb377) (o := .cells #[.int .i64 t369, .slice Ao10 t370.length co10] 48 (0, 0)) (bvK BK377.out)) : gb396 ≠ gb377)); have n13_ := Aside0.mk ((by rw [hg]; exact Nat.ne_of_lt (blk_lt (g := gb383) (o := .cells #[.int .i64 t378, .slice Ao16 t379.length co16] 48 (0, 0)) (bvK BK383.out)) : gb383 ≠ gb396)); have n14_ := Aside0.mk ((by rw [hg]; exact Nat.ne_of_gt (blk_lt (g := gb383) (o := .cells #[.int .i64 t378, .slice Ao16 t379.length co16] 48 (0, 0)) (bvK BK383.out)) : gb396 ≠ gb383)); clear HO_5; clear HO_8; clear HO_378001; clear HO_384001; clear HO394; clear BK377; clear BK383; clear HB; have HO_5 := n0_; have HO_8 := n1_; have HO_378001 := n2_; have HO_384001 := n3_; have HO394 := n4_; have BK377 := n5_; have BK383 := n6_; have HB := n7_; have BK396 := n8_; have GW396 := n9_; have GE396 := n10_; have NB377_396 := n11_; have NB396_377 := n12_; have NB383_396 := n13_; have NB396_383 := n14_; clear n0_ n1_ n2_ n3_ n4_ n5_ n6_ n7_ n8_ n9_ n10_ n11_ n12_ n13_ n14_; clear hb hbox hg; have hnb47 := NB396_377.out; have hnc47 := NB377_396.out; have hnb48 := NB396_383.out; have hnc48 := NB383_396.out; have hcz49_0 : w46.cell? ⟨gb396, 0, none⟩ = some (.int .i64 0) := (blk_cell BK396.out 0).trans rfl; have hcz49_1 : w46.cell? ⟨gb396, 1, none⟩ = some (.slice none 0 0) := (blk_cell BK396.out 1).trans rfl; have hfz49_0 := blk_frozen BK396.out 0; have hfz49_1 := blk_frozen BK396.out 1; obtain ⟨Ao50, co50, eo50⟩ := Kd.R_slice HO394.out; subst eo50) | (go_at_call 32; (with_reducible refine (spec_OrderBack.calls kj5 _ _ t374 t397 _ ?side1 ?side2 A29.out).mono ?_); (case side1 => refine (Kd.R_reads' (e := 3) (base := w.heap.size) (ok := fun k_ => some k_ ≠ (v385 : Value).ownBlock) (n := t374.length) (c := co11) ?_).2.2; exact (by (with_reducible repeat first | apply rvA | apply rvN | apply rvD); exact (Kd.R_mono (Kd.R_far (p := ⟨gb396, 1, none⟩) (Kd.R_far (p := ⟨gb396, 0, none⟩) (Kd.R_types HO_5.out BK396.out (by decide)) (fun _ hk => hk.2) (.int .i64 t391)) (fun _ hk => hk.2) (.slice Ao50 t392.length co50)) (fun _ h_ => h_.1)))); (case side2 => exact (Kd.R_reads' HO_5.out).2.1); rintro e w51 ⟨v398, rfl, ho0, hb⟩; have n0_ := Aside0.mk (Kd.R_elder' (by (with_reducible repeat first | apply rvA | apply rvN | apply rvD); exact (Kd.R_mono (Kd.R_far (p := ⟨gb396, 1, none⟩) (Kd.R_far (p := ⟨gb396, 0, none⟩) (Kd.R_types HO_5.out BK396.out (by decide)) (fun _ hk => hk.2) (.int .i64 t391)) (fun _ hk => hk.2) (.slice Ao50 t392.length co50)) (fun _ h_ => h_.1))) (Kd.R_base ho0) hb); have n1_ := Aside0.mk (Kd.R_elder' (by (with_reducible repeat first | apply rvA | apply rvN | apply rvD); exact (Kd.R_mono (Kd.R_far (p := ⟨gb396, 1, none⟩) (Kd.R_far (p := ⟨gb396, 0, none⟩) (Kd.R_types HO_8.out BK396.out (by decide)) (fun _ hk => hk.2) (.int .i64 t391)) (fun _ hk => hk.2) (.slice Ao50 t392.length co50)) (fun _ h_ => h_.1))) (Kd.R_base ho0) hb); have n2_ := Aside0.mk (Kd.R_below (by (with_reducible repeat first | apply rvA | apply rvN | apply rvD); exact (Kd.R_mono (Kd.R_far (p := ⟨gb396, 1, none⟩) (Kd.R_far (p := ⟨gb396, 0, none⟩) (Kd.R_types HO_378001.out BK396.out (by decide)) (fun _ hk => hk.2) (.int .i64 t391)) (fun _ hk => hk.2) (.slice Ao50 t392.length co50)) (fun _ h_ => h_.1))) hb); have n3_ := Aside0.mk (Kd.R_below (by (with_reducible repeat first | apply rvA | apply rvN | apply rvD); exact (Kd.R_mono (Kd.R_far (p := ⟨gb396, 1, none⟩) (Kd.R_far (p := ⟨gb396, 0, none⟩) (Kd.R_types HO_384001.out BK396.out (by decide)) (fun _ hk => hk.2) (.int .i64 t391)) (fun _ hk => hk.2) (.slice Ao50 t392.length co50)) (fun _ h_ => h_.1))) hb); have n4_ := Aside0.mk (Kd.R_below (by (with_reducible repeat first | apply rvA | apply rvN | apply rvD); exact (Kd.R_mono (Kd.R_far (p := ⟨gb396, 1, none⟩) (Kd.R_far (p := ⟨gb396, 0, none⟩) (Kd.R_types HO394.out BK396.out (by decide)) (fun _ hk => hk.2) (.int .i64 t391)) (fun _ hk => hk.2) (.slice Ao50 t392.length co50)) (fun _ h_ => h_.1))) hb); have n5_ := Aside0.mk (Kd.R_lower (Kd.R_new' (Kd.R_new' ho0 (Kd.R_lt (by (with_reducible repeat first | apply rvA | apply rvN | apply rvD); exact (Kd.R_mono (Kd.R_far (p := ⟨gb396, 1, none⟩) (Kd.R_far (p := ⟨gb396, 0, none⟩) (Kd.R_types HO_5.out BK396.out (by decide)) (fun _ hk => hk.2) (.int .i64 t391)) (fun _ hk => hk.2) (.slice Ao50 t392.length co50)) (fun _ h_ => h_.1))))) (Kd.R_lt (by (with_reducible repeat first | apply rvA | apply rvN | apply rvD); exact (Kd.R_mono (Kd.R_far (p := ⟨gb396, 1, none⟩) (Kd.R_far (p := ⟨gb396, 0, none⟩) (Kd.R_types HO_8.out BK396.out (by decide)) (fun _ hk => hk.2) (.int .i64 t391)) (fun _ hk => hk.2) (.slice Ao50 t392.length co50)) (fun _ h_ => h_.1))))) (below_size hbC)); have n6_ := Aside0.mk (blk_below (g := gb377) (o := .cells #[.int .i64 t369, .slice Ao10 t370.length co10] 48 (0, 0)) (by (with_reducible repeat first | apply bkN | apply bkD | apply bkA); refine blk_far ?_ NB377_396.out _; (with_reducible repeat first | apply bkN | apply bkD | apply bkA); refine blk_far ?_ NB377_396.out _; (with_reducible repeat first | apply bkN | apply bkD | apply bkA); exact BK377.out) hb); have n7_ := Aside0.mk (blk_below (g := gb383) (o := .cells #[.int .i64 t378, .slice Ao16 t379.length co16] 48 (0, 0)) (by (with_reducible repeat first | apply bkN | apply bkD | apply bkA); refine blk_far ?_ NB383_396.out _; (with_reducible repeat first | apply bkN | apply bkD | apply bkA); refine blk_far ?_ NB383_396.out _; (with_reducible repeat first | apply bkN | apply bkD | apply bkA); exact BK383.out) hb); have n8_ := Aside0.mk (blk_below (g := gb396) (o := .cells #[.int .i64 t391, .slice Ao50 t392.length co50] 48 (0, 0)) (by (with_reducible repeat first | apply bkN | apply bkD | apply bkA); refine blk_put (cs := #[.int .i64 t391, .slice none 0 0]) ?_ 1 _ rfl; (with_reducible repeat first | apply bkN | apply bkD | apply bkA); refine blk_put (cs := #[.int .i64 0, .slice none 0 0]) ?_ 0 _ rfl; (with_reducible repeat first | apply bkN | apply bkD | apply bkA); exact BK396.out) hb); have n9_ := Aside0.mk (below_step hbC hb); clear HO_5; clear HO_8; clear HO_378001; clear HO_384001; clear HO394; clear BK377; clear BK383; clear BK396; clear HB; have HO_5 := n0_; have HO_8 := n1_; have HO_378001 := n2_; have HO_384001 := n3_; have HO394 := n4_; have HO399 := n5_; have BK377 := n6_; have BK383 := n7_; have BK396 := n8_; have HB := n9_; clear n0_ n1_ n2_ n3_ n4_ n5_ n6_ n7_ n8_ n9_; (try clear hb); (try clear hb2); (try clear hk); (try clear hi); (try clear ho0); obtain ⟨Ao52, co52, eo52⟩ := Kd.R_slice HO_8.out; subst eo52; obtain ⟨Ao53, co53, eo53⟩ := Kd.R_slice HO399.out; subst eo53) | (go_at_call 21; (with_reducible refine (laws_wcInts.calls kj5 _ _ t384 _ _ t397 false _ ?side1 ?side2 ?side3 ?side4 A30.out).mono ?_); (case side1 => exact kcR (Kd.R_reads' HO_8.out).2.2); (case side2 => exact (Kd.R_reads' HO_8.out).2.1); (case side3 => exact kcR (Kd.R_reads' HO399.out).2.2); (case side4 => exact (Kd.R_reads' HO399.out).2.1); rintro e w' ⟨rfl, ⟨nd, rfl⟩⟩; (try first | exact ⟨rfl, _, World.drewN_drewN _ _ _⟩ | exact ⟨rfl, _, Eq.trans (World.drewN_drewN _ _ _) (congrArg (World.drewN _) (Nat.add_assoc _ _ _))⟩))); try go_quiet (fail))
      go_ret
      exact ⟨ers, hbC⟩
    ·replace c27 := Bool.eq_false_iff.mpr c27
     subst c27
     have H1 : ((impl_Reordered.f kj5 t378 t379 t382 t384).bind fun bt401 => ((impl_Compacted.f kj5 t369 t370 t373).bind fun bt407 => (if bt401.2.2 = bt407.2.2 then (laws_FnReorderBack.j1 kj5 t384 ((bt401.2.1.length : Int) != (bt407.2.1.length : Int)) t369 t370 bt401.1 bt401.2.1 bt407.1 bt407.2.1) else (laws_FnReorderBack.j1 kj5 t384 true t369 t370 bt401.1 bt401.2.1 bt407.1 bt407.2.1)))) = some r := by rw [if_neg (show ¬ (false = true) by decide)] at H; exact H
     clear H
     have H := H1
     clear H1
     replace H := Option.bind_eq_some_iff.mp H
     obtain ⟨⟨t401, t402, t405⟩, A540, H⟩ := H
     replace H : ((impl_Compacted.f kj5 t369 t370 t373).bind fun bt407 => (if t405 = bt407.2.2 then (laws_FnReorderBack.j1 kj5 t384 ((t402.length : Int) != (bt407.2.1.length : Int)) t369 t370 t401 t402 bt407.1 bt407.2.1) else (laws_FnReorderBack.j1 kj5 t384 true t369 t370 t401 t402 bt407.1 bt407.2.1))) = some r := H
     have A54 := Aside0.mk A540
     clear A540
     replace H := Option.bind_eq_some_iff.mp H
     obtain ⟨⟨t407, t408, t411⟩, A550, H⟩ := H
     replace H : (if t405 = t411 then (laws_FnReorderBack.j1 kj5 t384 ((t402.length : Int) != (t408.length : Int)) t369 t370 t401 t402 t407 t408) else (laws_FnReorderBack.j1 kj5 t384 true t369 t370 t401 t402 t407 t408)) = some r := H
     have A55 := Aside0.mk A550
     clear A550
     have HC56 := Aside0.mk H
     clear H
     have hnb57 := NB383_377.out
     have hnc57 := NB377_383.out
     have hcz58_0 : wc.cell? ⟨gb383, 0, none⟩ = some (.int .i64 t378) := (blk_cell BK383.out 0).trans rfl
     have hcz58_1 : wc.cell? ⟨gb383, 1, none⟩ = some (.slice Ao16 t379.length co16) := (blk_cell BK383.out 1).trans rfl
     have hfz58_0 := blk_frozen BK383.out 0
     have hfz58_1 := blk_frozen BK383.out 1
     obtain ⟨Ao59, co59, eo59⟩ := Kd.R_slice HO_8.out
     subst eo59
     iterate 5 (go_upto_region 11 with (first | (go_at_call 30; (with_reducible refine (impl_Reordered.calls kj5 t378 _ _ t379 t382 _ _ t384 t401 t402 t405 _ ?side1 ?side2 ?side3 ?side4 A54.out).mono ?_); (case side1 => exact kcR (Kd.R_reads' HO_384001.out).2.2); (case side2 => exact (Kd.R_reads' HO_384001.out).2.1); (case side3 => exact kcR (Kd.R_reads' HO_8.out).2.2); (case side4 => exact (Kd.R_reads' HO_8.out).2.1); rintro e w60 ⟨v403, rfl, ho0, hb⟩; have n0_ := Aside0.mk (Kd.R_below (rvR HO_5.out) hb); have n1_ := Aside0.mk (Kd.R_below (rvR HO_8.out) hb); have n2_ := Aside0.mk (Kd.R_elder' (rvR HO_378001.out) (Kd.R_base ho0) hb); have n3_ := Aside0.mk (Kd.R_elder' (rvR HO_384001.out) (Kd.R_base ho0) hb); have n4_ := Aside0.mk (Kd.R_lower (Kd.R_new' (Kd.R_new' ho0 (Kd.R_lt (rvR HO_378001.out))) (Kd.R_lt (rvR HO_384001.out))) (below_size hbC)); have n5_ := Aside0.mk (blk_below (g := gb377) (o := .cells #[.int .i64 t369, .slice Ao10 t370.length co10] 48 (0, 0)) (bvK BK377.out) hb); have n6_ := Aside0.mk (blk_below (g := gb383) (o := .cells #[.int .i64 t378, .slice Ao16 t379.length co16] 48 (0, 0)) (bvK BK383.out) hb); have n7_ := Aside0.mk (below_step hbC hb); clear HO_5; clear HO_8; clear HO_378001; clear HO_384001; clear BK377; clear BK383; clear HB; have HO_5 := n0_; have HO_8 := n1_; have HO_378001 := n2_; have HO_384001 := n3_; have HO404 := n4_; have BK377 := n5_; have BK383 := n6_; have HB := n7_; clear n0_ n1_ n2_ n3_ n4_ n5_ n6_ n7_; (try clear hb); (try clear hb2); (try clear hk); (try clear hi); (try clear ho0)) | ((with_reducible refine gate_dst (N := 11) rfl ?_); (try (refine gate_guard (by rfl) ?_; dsimp only)); refine box_event ?hg (N := 11) ?hd (cs := #[.int .i64 0, .slice none 0 0]) (t := 48) ?hr ?_; (case hd => rfl); (case hg => rfl); (case hr => first | (go_simp; done) | (go_simp; rfl)); intro gb406 hg w61 hbox hb; have n0_ := Aside0.mk (Kd.R_below (rvR HO_5.out) hb); have n1_ := Aside0.mk (Kd.R_below (rvR HO_8.out) hb); have n2_ := Aside0.mk (Kd.R_below (rvR HO_378001.out) hb); have n3_ := Aside0.mk (Kd.R_below (rvR HO_384001.out) hb); have n4_ := Aside0.mk (Kd.R_below (rvR HO404.out) hb); have n5_ := Aside0.mk (blk_below (g := gb377) (o := .cells #[.int .i64 t369, .slice Ao10 t370.length co10] 48 (0, 0)) (bvK BK377.out) hb); have n6_ := Aside0.mk (blk_below (g := gb383) (o := .cells #[.int .i64 t378, .slice Ao16 t379.length co16] 48 (0, 0)) (bvK BK383.out) hb); have n7_ := Aside0.mk (below_step hbC hb); have n8_ := Aside0.mk (hbox); have n9_ := Aside0.mk ((gwb hg (below_size hbC) : w.heap.size ≤ gb406)); have n10_ := n9_; have n11_ := Aside0.mk ((by rw [hg]; exact Nat.ne_of_lt (blk_lt (g := gb377) (o := .cells #[.int .i64 t369, .slice Ao10 t370.length co10] 48 (0, 0)) (bvK BK377.out)) : gb377 ≠ gb406)); have n12_ := Aside0.mk ((by rw [hg]; exact Nat.ne_of_gt (blk_lt (g := gb377) (o := .cells #[.int .i64 t369, .slice Ao10 t370.length co10] 48 (0, 0)) (bvK BK377.out)) : gb406 ≠ gb377)); have n13_ := Aside0.mk ((by rw [hg]; exact Nat.ne_of_lt (blk_lt (g := gb383) (o := .cells #[.int .i64 t378, .slice Ao16 t379.length co16] 48 (0, 0)) (bvK BK383.out)) : gb383 ≠ gb406)); have n14_ := Aside0.mk ((by rw [hg]; exact Nat.ne_of_gt (blk_lt (g := gb383) (o := .cells #[.int .i64 t378, .slice Ao16 t379.length co16] 48 (0, 0)) (bvK BK383.out)) : gb406 ≠ gb383)); clear HO_5; clear HO_8; clear HO_378001; clear HO_384001; clear HO404; clear BK377; clear BK383; clear HB; have HO_5 := n0_; have HO_8 := n1_; have HO_378001 := n2_; have HO_384001 := n3_; have HO404 := n4_; have BK377 := n5_; have BK383 := n6_; have HB := n7_; have BK406 := n8_; have GW406 := n9_; have GE406 := n10_; have NB377_406 := n11_; have NB406_377 := n12_; have NB383_406 := n13_; have NB406_383 := n14_; clear n0_ n1_ n2_ n3_ n4_ n5_ n6_ n7_ n8_ n9_ n10_ n11_ n12_ n13_ n14_; clear hb hbox hg; have hnb62 := NB406_377.out; have hnc62 := NB377_406.out; have hnb63 := NB406_383.out; have hnc63 := NB383_406.out; have hcz64_0 : w61.cell? ⟨gb406, 0, none⟩ = some (.int .i64 0) := (blk_cell BK406.out 0).trans rfl; have hcz64_1 : w61.cell? ⟨gb406, 1, none⟩ = some (.slice none 0 0) := (blk_cell BK406.out 1).trans rfl; have hfz64_0 := blk_frozen BK406.out 0; have hfz64_1 := blk_frozen BK406.out 1; obtain ⟨Ao65, co65, eo65⟩ := Kd.R_slice HO404.out; subst eo65; have hcz66_0 : w61.cell? ⟨gb377, 0, none⟩ = some (.int .i64 t369) := (blk_cell BK377.out 0).trans rfl; have hcz66_1 : w61.cell? ⟨gb377, 1, none⟩ = some (.slice Ao10 t370.length co10) := (blk_cell BK377.out 1).trans rfl; have hfz66_0 := blk_frozen BK377.out 0; have hfz66_1 := blk_frozen BK377.out 1) | (go_at_call 34; (with_reducible refine (impl_Compacted.calls kj5 t369 _ _ t370 t373 t407 t408 t411 _ ?side1 ?side2 A55.out).mono ?_); (case side1 => refine (Kd.R_reads' (e := 56) (base := w.heap.size) (ok := fun k_ => (some k_ ≠ (.slice Ao16 t379.length co16 : Value).ownBlock ∧ some k_ ≠ (.slice Ao65 t402.length co65 : Value).ownBlock)) (n := t370.length) (c := co10) ?_).2.2; exact (by (with_reducible repeat first | apply rvA | apply rvN | apply rvD); exact (Kd.R_mono (Kd.R_far (p := ⟨gb406, 1, none⟩) (Kd.R_far (p := ⟨gb406, 0, none⟩) (Kd.R_types HO_378001.out BK406.out (by decide)) (fun _ hk => hk.2) (.int .i64 t401)) (fun _ hk => hk.2) (.slice Ao65 t402.length co65)) (fun _ h_ => h_.1)))); (case side2 => exact (Kd.R_reads' HO_378001.out).2.1); rintro e w67 ⟨v409, rfl, ho0, hb⟩; have n0_ := Aside0.mk (Kd.R_below (by (with_reducible repeat first | apply rvA | apply rvN | apply rvD); exact (Kd.R_mono (Kd.R_far (p := ⟨gb406, 1, none⟩) (Kd.R_far (p := ⟨gb406, 0, none⟩) (Kd.R_types HO_5.out BK406.out (by decide)) (fun _ hk => hk.2) (.int .i64 t401)) (fun _ hk => hk.2) (.slice Ao65 t402.length co65)) (fun _ h_ => h_.1))) hb); have n1_ := Aside0.mk (Kd.R_below (by (with_reducible repeat first | apply rvA | apply rvN | apply rvD); exact (Kd.R_mono (Kd.R_far (p := ⟨gb406, 1, none⟩) (Kd.R_far (p := ⟨gb406, 0, none⟩) (Kd.R_types HO_8.out BK406.out (by decide)) (fun _ hk => hk.2) (.int .i64 t401)) (fun _ hk => hk.2) (.slice Ao65 t402.length co65)) (fun _ h_ => h_.1))) hb); have n2_ := Aside0.mk (Kd.R_elder' (by (with_reducible repeat first | apply rvA | apply rvN | apply rvD); exact (Kd.R_mono (Kd.R_far (p := ⟨gb406, 1, none⟩) (Kd.R_far (p := ⟨gb406, 0, none⟩) (Kd.R_types HO_378001.out BK406.out (by decide)) (fun _ hk => hk.2) (.int .i64 t401)) (fun _ hk => hk.2) (.slice Ao65 t402.length co65)) (fun _ h_ => h_.1))) (Kd.R_base ho0) hb); have n3_ := Aside0.mk (Kd.R_elder' (by (with_reducible repeat first | apply rvA | apply rvN | apply rvD); exact (Kd.R_mono (Kd.R_far (p := ⟨gb406, 1, none⟩) (Kd.R_far (p := ⟨gb406, 0, none⟩) (Kd.R_types HO_384001.out BK406.out (by decide)) (fun _ hk => hk.2) (.int .i64 t401)) (fun _ hk => hk.2) (.slice Ao65 t402.length co65)) (fun _ h_ => h_.1))) (Kd.R_base ho0) hb); have n4_ := Aside0.mk (Kd.R_elder' (by (with_reducible repeat first | apply rvA | apply rvN | apply rvD); exact (Kd.R_mono (Kd.R_far (p := ⟨gb406, 1, none⟩) (Kd.R_far (p := ⟨gb406, 0, none⟩) (Kd.R_types HO404.out BK406.out (by decide)) (fun _ hk => hk.2) (.int .i64 t401)) (fun _ hk => hk.2) (.slice Ao65 t402.length co65)) (fun _ h_ => h_.1))) (Kd.R_base ho0) hb); have n5_ := Aside0.mk (Kd.R_lower (Kd.R_new' (Kd.R_new' (Kd.R_new' ho0 (Kd.R_lt (by (with_reducible repeat first | apply rvA | apply rvN | apply rvD); exact (Kd.R_mono (Kd.R_far (p := ⟨gb406, 1, none⟩) (Kd.R_far (p := ⟨gb406, 0, none⟩) (Kd.R_types HO_378001.out BK406.out (by decide)) (fun _ hk => hk.2) (.int .i64 t401)) (fun _ hk => hk.2) (.slice Ao65 t402.length co65)) (fun _ h_ => h_.1))))) (Kd.R_lt (by (with_reducible repeat first | apply rvA | apply rvN | apply rvD); exact (Kd.R_mono (Kd.R_far (p := ⟨gb406, 1, none⟩) (Kd.R_far (p := ⟨gb406, 0, none⟩) (Kd.R_types HO_384001.out BK406.out (by decide)) (fun _ hk => hk.2) (.int .i64 t401)) (fun _ hk => hk.2) (.slice Ao65 t402.length co65)) (fun _ h_ => h_.1))))) (Kd.R_lt (by (with_reducible repeat first | apply rvA | apply rvN | apply rvD); exact (Kd.R_mono (Kd.R_far (p := ⟨gb406, 1, none⟩) (Kd.R_far (p := ⟨gb406, 0, none⟩) (Kd.R_types HO404.out BK406.out (by decide)) (fun _ hk => hk.2) (.int .i64 t401)) (fun _ hk => hk.2) (.slice Ao65 t402.length co65)) (fun _ h_ => h_.1))))) (below_size hbC)); have n6_ := Aside0.mk (blk_below (g := gb377) (o := .cells #[.int .i64 t369, .slice Ao10 t370.length co10] 48 (0, 0)) (by (with_reducible repeat first | apply bkN | apply bkD | apply bkA); refine blk_far ?_ NB377_406.out _; (with_reducible repeat first | apply bkN | apply bkD | apply bkA); refine blk_far ?_ NB377_406.out _; (with_reducible repeat first | apply bkN | apply bkD | apply bkA); exact BK377.out) hb); have n7_ := Aside0.mk (blk_below (g := gb383) (o := .cells #[.int .i64 t378, .slice Ao16 t379.length co16] 48 (0, 0)) (by (with_reducible repeat first | apply bkN | apply bkD | apply bkA); refine blk_far ?_ NB383_406.out _; (with_reducible repeat first | apply bkN | apply bkD | apply bkA); refine blk_far ?_ NB383_406.out _; (with_reducible repeat first | apply bkN | apply bkD | apply bkA); exact BK383.out) hb); have n8_ := Aside0.mk (blk_below (g := gb406) (o := .cells #[.int .i64 t401, .slice Ao65 t402.length co65] 48 (0, 0)) (by (with_reducible repeat first | apply bkN | apply bkD | apply bkA); refine blk_put (cs := #[.int .i64 t401, .slice none 0 0]) ?_ 1 _ rfl; (with_reducible repeat first | apply bkN | apply bkD | apply bkA); refine blk_put (cs := #[.int .i64 0, .slice none 0 0]) ?_ 0 _ rfl; (with_reducible repeat first | apply bkN | apply bkD | apply bkA); exact BK406.out) hb); have n9_ := Aside0.mk (below_step hbC hb); clear HO_5; clear HO_8; clear HO_378001; clear HO_384001; clear HO404; clear BK377; clear BK383; clear BK406; clear HB; have HO_5 := n0_; have HO_8 := n1_; have HO_378001 := n2_; have HO_384001 := n3_; have HO404 := n4_; have HO410 := n5_; have BK377 := n6_; have BK383 := n7_; have BK406 := n8_; have HB := n9_; clear n0_ n1_ n2_ n3_ n4_ n5_ n6_ n7_ n8_ n9_; (try clear hb); (try clear hb2); (try clear hk); (try clear hi); (try clear ho0)) | ((with_reducible refine gate_dst (N := 13) rfl ?_); (try (refine gate_guard (by rfl) ?_; dsimp only)); refine box_event ?hg (N := 13) ?hd (cs := #[.int .i64 0, .slice none 0 0]) (t := 48) ?hr ?_; (case hd => rfl); (case hg => rfl); (case hr => first | (go_simp; done) | (go_simp; rfl)); intro gb412 hg w68 hbox hb; have n0_ := Aside0.mk (Kd.R_below (rvR HO_5.out) hb); have n1_ := Aside0.mk (Kd.R_below (rvR HO_8.out) hb); have n2_ := Aside0.mk (Kd.R_below (rvR HO_378001.out) hb); have n3_ := Aside0.mk (Kd.R_below (rvR HO_384001.out) hb); have n4_ := Aside0.mk (Kd.R_below (rvR HO404.out) hb); have n5_ := Aside0.mk (Kd.R_below (rvR HO410.out) hb); have n6_ := Aside0.mk (blk_below (g := gb377) (o := .cells #[.int .i64 t369, .slice Ao10 t370.length co10] 48 (0, 0)) (bvK BK377.out) hb); have n7_ := Aside0.mk (blk_below (g := gb383) (o := .cells #[.int .i64 t378, .slice Ao16 t379.length co16] 48 (0, 0)) (bvK BK383.out) hb); have n8_ := Aside0.mk (blk_below (g := gb406) (o := .cells #[.int .i64 t401, .slice Ao65 t402.length co65] 48 (0, 0)) (bvK BK406.out) hb); have n9_ := Aside0.mk (below_step hbC hb); have n10_ := Aside0.mk (hbox); have n11_ := Aside0.mk ((gwb hg (below_size hbC) : w.heap.size ≤ gb412)); have n12_ := n11_; have n13_ := Aside0.mk ((by rw [hg]; exact Nat.ne_of_lt (blk_lt (g := gb377) (o := .cells #[.int .i64 t369, .slice Ao10 t370.length co10] 48 (0, 0)) (bvK BK377.out)) : gb377 ≠ gb412)); have n14_ := Aside0.mk ((by rw [hg]; exact Nat.ne_of_gt (blk_lt (g := gb377) (o := .cells #[.int .i64 t369, .slice Ao10 t370.length co10] 48 (0, 0)) (bvK BK377.out)) : gb412 ≠ gb377)); have n15_ := Aside0.mk ((by rw [hg]; exact Nat.ne_of_lt (blk_lt (g := gb383) (o := .cells #[.int .i64 t378, .slice Ao16 t379.length co16] 48 (0, 0)) (bvK BK383.out)) : gb383 ≠ gb412)); have n16_ := Aside0.mk ((by rw [hg]; exact Nat.ne_of_gt (blk_lt (g := gb383) (o := .cells #[.int .i64 t378, .slice Ao16 t379.length co16] 48 (0, 0)) (bvK BK383.out)) : gb412 ≠ gb383)); have n17_ := Aside0.mk ((by rw [hg]; exact Nat.ne_of_lt (blk_lt (g := gb406) (o := .cells #[.int .i64 t401, .slice Ao65 t402.length co65] 48 (0, 0)) (bvK BK406.out)) : gb406 ≠ gb412)); have n18_ := Aside0.mk ((by rw [hg]; exact Nat.ne_of_gt (blk_lt (g := gb406) (o := .cells #[.int .i64 t401, .slice Ao65 t402.length co65] 48 (0, 0)) (bvK BK406.out)) : gb412 ≠ gb406)); clear HO_5; clear HO_8; clear HO_378001; clear HO_384001; clear HO404; clear HO410; clear BK377; clear BK383; clear BK406; clear HB; have HO_5 := n0_; have HO_8 := n1_; have HO_378001 := n2_; have HO_384001 := n3_; have HO404 := n4_; have HO410 := n5_; have BK377 := n6_; have BK383 := n7_; have BK406 := n8_; have HB := n9_; have BK412 := n10_; have GW412 := n11_; have GE412 := n12_; have NB377_412 := n13_; have NB412_377 := n14_; have NB383_412 := n15_; have NB412_383 := n16_; have NB406_412 := n17_; have NB412_406 := n18_; clear n0_ n1_ n2_ n3_ n4_ n5_ n6_ n7_ n8_ n9_ n10_ n11_ n12_ n13_ n14_ n15_ n16_ n17_ n18_; clear hb hbox hg; have hnb69 := NB412_377.out; have hnc69 := NB377_412.out; have hnb70 := NB412_383.out; have hnc70 := NB383_412.out; have hnb71 := NB412_406.out; have hnc71 := NB406_412.out; have hcz72_0 : w68.cell? ⟨gb412, 0, none⟩ = some (.int .i64 0) := (blk_cell BK412.out 0).trans rfl; have hcz72_1 : w68.cell? ⟨gb412, 1, none⟩ = some (.slice none 0 0) := (blk_cell BK412.out 1).trans rfl; have hfz72_0 := blk_frozen BK412.out 0; have hfz72_1 := blk_frozen BK412.out 1; obtain ⟨Ao73, co73, eo73⟩ := Kd.R_slice HO410.out; subst eo73)); try go_quiet (fail))
     (try simp only [Act.put, List.setIfInBounds_toArray, List.set_cons_zero, List.set_cons_succ])
     go_cut [83] (fun v83 wc => ∃ (kq : Nat) (x83_55 : Bool), v83 = .bool x83_55 ∧ Aside0 (laws_FnReorderBack.j1 kq t384 x83_55 t369 t370 t401 t402 t407 t408 = some r) ∧ Aside0 (kq ≤ kj5) ∧ Aside0 (Kd.R (Kd.int .i64) 3 wc w.heap.size (fun _ => True) (.slice Ao59 t384.length co59) t384) ∧ Aside0 (Kd.R k56 56 wc w.heap.size (fun k_ => some k_ ≠ ((.slice Ao16 t379.length co16) : Value).ownBlock ∧ some k_ ≠ ((.slice Ao65 t402.length co65) : Value).ownBlock ∧ some k_ ≠ ((.slice Ao73 t408.length co73) : Value).ownBlock) (.slice Ao10 t370.length co10) t370) ∧ Aside0 (Kd.R k56 56 wc w.heap.size (fun k_ => some k_ ≠ ((.slice Ao10 t370.length co10) : Value).ownBlock ∧ some k_ ≠ ((.slice Ao65 t402.length co65) : Value).ownBlock ∧ some k_ ≠ ((.slice Ao73 t408.length co73) : Value).ownBlock) (.slice Ao16 t379.length co16) t379) ∧ Aside0 (Kd.R k56 56 wc w.heap.size (fun k_ => some k_ ≠ ((.slice Ao10 t370.length co10) : Value).ownBlock ∧ some k_ ≠ ((.slice Ao16 t379.length co16) : Value).ownBlock ∧ some k_ ≠ ((.slice Ao73 t408.length co73) : Value).ownBlock) (.slice Ao65 t402.length co65) t402) ∧ Aside0 (Kd.R k56 56 wc w.heap.size (fun k_ => some k_ ≠ ((.slice Ao10 t370.length co10) : Value).ownBlock ∧ some k_ ≠ ((.slice Ao16 t379.length co16) : Value).ownBlock ∧ some k_ ≠ ((.slice Ao65 t402.length co65) : Value).ownBlock) (.slice Ao73 t408.length co73) t408) ∧ Aside0 (wc.heap[gb377]? = some (.cells #[.int .i64 t369, (.slice Ao10 t370.length co10)] 48 (0, 0))) ∧ Aside0 (wc.heap[gb383]? = some (.cells #[.int .i64 t378, (.slice Ao16 t379.length co16)] 48 (0, 0))) ∧ Aside0 (wc.heap[gb406]? = some (.cells #[.int .i64 t401, (.slice Ao65 t402.length co65)] 48 (0, 0))) ∧ Aside0 (wc.heap[gb412]? = some (.cells #[.int .i64 t407, (.slice Ao73 t408.length co73)] 48 (0, 0))) ∧ Aside0 (Below w.heap.size w wc))
     case first =>
      have H := HC56.out
      clear HC56
      by_cases c74 : t405 = t411
      ·rw [if_pos c74] at H
       have c74b0 : (t405 == t411) = true := beq_iff_eq.mpr c74
       have c74b1 : (t405 != t411) = false := bne_eq_false_iff_eq.mpr c74
       clear c74
       (first | rw [c74b0] | (simp only [i64_w, i32_w]; rw [c74b0]) | skip)
       have H' := Aside0.mk H
       clear H
       have hnb75 := NB406_377.out
       have hnc75 := NB377_406.out
       have hnb76 := NB406_383.out
       have hnc76 := NB383_406.out
       have hnb77 := NB406_412.out
       have hnc77 := NB412_406.out
       have hcz78_0 : w68.cell? ⟨gb406, 0, none⟩ = some (.int .i64 t401) := (blk_cell BK406.out 0).trans rfl
       have hcz78_1 : w68.cell? ⟨gb406, 1, none⟩ = some (.slice Ao65 t402.length co65) := (blk_cell BK406.out 1).trans rfl
       have hfz78_0 := blk_frozen BK406.out 0
       have hfz78_1 := blk_frozen BK406.out 1
       have hnb79 := NB412_377.out
       have hnc79 := NB377_412.out
       have hnb80 := NB412_383.out
       have hnc80 := NB383_412.out
       have hcz81_0 : w68.cell? ⟨gb412, 0, none⟩ = some (.int .i64 0) := (blk_cell BK412.out 0).trans rfl
       have hcz81_1 : w68.cell? ⟨gb412, 1, none⟩ = some (.slice none 0 0) := (blk_cell BK412.out 1).trans rfl
       have hfz81_0 := blk_frozen BK412.out 0
       have hfz81_1 := blk_frozen BK412.out 1
       go_wp2
       repeat (go_quiet (fail); try go_wp2)
       go_meet
       case rel => exact ⟨_, (((t402.length : Int) != (t408.length : Int))), rsd, H', ⟨by have := HJ5.out; first | omega | exact Nat.le_refl _⟩, ⟨by (with_reducible repeat first | apply rvA | apply rvN | apply rvD); exact Kd.R_mono (Kd.R_far (p := ⟨gb412, 1, none⟩) (Kd.R_far (p := ⟨gb412, 0, none⟩) (Kd.R_types HO_8.out BK412.out (by decide)) (fun _ hk => hk.2) (.int .i64 t407)) (fun _ hk => hk.2) (.slice Ao73 t408.length co73)) (fun _ hk => trivial)⟩, ⟨by (with_reducible repeat first | apply rvA | apply rvN | apply rvD); exact Kd.R_mono (Kd.R_far (p := ⟨gb412, 1, none⟩) (Kd.R_far (p := ⟨gb412, 0, none⟩) (Kd.R_types HO_378001.out BK412.out (by decide)) (fun _ hk => hk.2) (.int .i64 t407)) (fun _ hk => hk.2) (.slice Ao73 t408.length co73)) (fun _ hk => ⟨hk.1.1.1, ⟨hk.1.1.2, hk.1.2⟩⟩)⟩, ⟨by (with_reducible repeat first | apply rvA | apply rvN | apply rvD); exact Kd.R_mono (Kd.R_far (p := ⟨gb412, 1, none⟩) (Kd.R_far (p := ⟨gb412, 0, none⟩) (Kd.R_types HO_384001.out BK412.out (by decide)) (fun _ hk => hk.2) (.int .i64 t407)) (fun _ hk => hk.2) (.slice Ao73 t408.length co73)) (fun _ hk => ⟨hk.1.1.1, ⟨hk.1.1.2, hk.1.2⟩⟩)⟩, ⟨by (with_reducible repeat first | apply rvA | apply rvN | apply rvD); exact Kd.R_mono (Kd.R_far (p := ⟨gb412, 1, none⟩) (Kd.R_far (p := ⟨gb412, 0, none⟩) (Kd.R_types HO404.out BK412.out (by decide)) (fun _ hk => hk.2) (.int .i64 t407)) (fun _ hk => hk.2) (.slice Ao73 t408.length co73)) (fun _ hk => ⟨hk.1.1.1.2, ⟨hk.1.1.2, hk.1.2⟩⟩)⟩, ⟨by (with_reducible repeat first | apply rvA | apply rvN | apply rvD); exact Kd.R_mono (Kd.R_far (p := ⟨gb412, 1, none⟩) (Kd.R_far (p := ⟨gb412, 0, none⟩) (Kd.R_types HO410.out BK412.out (by decide)) (fun _ hk => hk.2) (.int .i64 t407)) (fun _ hk => hk.2) (.slice Ao73 t408.length co73)) (fun _ hk => ⟨hk.1.1.1.2, ⟨hk.1.1.2, hk.1.2⟩⟩)⟩, ⟨by (with_reducible repeat first | apply bkN | apply bkD | apply bkA); refine blk_far ?_ NB377_412.out _; (with_reducible repeat first | apply bkN | apply bkD | apply bkA); refine blk_far ?_ NB377_412.out _; (with_reducible repeat first | apply bkN | apply bkD | apply bkA); exact BK377.out⟩, ⟨by (with_reducible repeat first | apply bkN | apply bkD | apply bkA); refine blk_far ?_ NB383_412.out _; (with_reducible repeat first | apply bkN | apply bkD | apply bkA); refine blk_far ?_ NB383_412.out _; (with_reducible repeat first | apply bkN | apply bkD | apply bkA); exact BK383.out⟩, ⟨by (with_reducible repeat first | apply bkN | apply bkD | apply bkA); refine blk_far ?_ NB406_412.out _; (with_reducible repeat first | apply bkN | apply bkD | apply bkA); refine blk_far ?_ NB406_412.out _; (with_reducible repeat first | apply bkN | apply bkD | apply bkA); exact BK406.out⟩, ⟨by (with_reducible repeat first | apply bkN | apply bkD | apply bkA); refine blk_put (cs := #[.int .i64 t407, .slice none 0 0]) ?_ 1 _ rfl; (with_reducible repeat first | apply bkN | apply bkD | apply bkA); refine blk_put (cs := #[.int .i64 0, .slice none 0 0]) ?_ 0 _ rfl; (with_reducible repeat first | apply bkN | apply bkD | apply bkA); exact BK412.out⟩, ⟨hbC⟩⟩
      ·rw [if_neg c74] at H
       have c74b0 : (t405 == t411) = false := beq_eq_false_iff_ne.mpr c74
       have c74b1 : (t405 != t411) = true := bne_iff_ne.mpr c74
       (first | rw [c74b0] | (simp only [i64_w, i32_w]; rw [c74b0]) | skip)
       have H' := Aside0.mk H
       clear H
       go_wp2
       repeat (go_quiet (fail); try go_wp2)
       go_meet
       case rel => exact ⟨_, (true), rsd, H', ⟨by have := HJ5.out; first | omega | exact Nat.le_refl _⟩, ⟨by (with_reducible repeat first | apply rvA | apply rvN | apply rvD); exact Kd.R_mono (Kd.R_far (p := ⟨gb412, 1, none⟩) (Kd.R_far (p := ⟨gb412, 0, none⟩) (Kd.R_types HO_8.out BK412.out (by decide)) (fun _ hk => hk.2) (.int .i64 t407)) (fun _ hk => hk.2) (.slice Ao73 t408.length co73)) (fun _ hk => trivial)⟩, ⟨by (with_reducible repeat first | apply rvA | apply rvN | apply rvD); exact Kd.R_mono (Kd.R_far (p := ⟨gb412, 1, none⟩) (Kd.R_far (p := ⟨gb412, 0, none⟩) (Kd.R_types HO_378001.out BK412.out (by decide)) (fun _ hk => hk.2) (.int .i64 t407)) (fun _ hk => hk.2) (.slice Ao73 t408.length co73)) (fun _ hk => ⟨hk.1.1.1, ⟨hk.1.1.2, hk.1.2⟩⟩)⟩, ⟨by (with_reducible repeat first | apply rvA | apply rvN | apply rvD); exact Kd.R_mono (Kd.R_far (p := ⟨gb412, 1, none⟩) (Kd.R_far (p := ⟨gb412, 0, none⟩) (Kd.R_types HO_384001.out BK412.out (by decide)) (fun _ hk => hk.2) (.int .i64 t407)) (fun _ hk => hk.2) (.slice Ao73 t408.length co73)) (fun _ hk => ⟨hk.1.1.1, ⟨hk.1.1.2, hk.1.2⟩⟩)⟩, ⟨by (with_reducible repeat first | apply rvA | apply rvN | apply rvD); exact Kd.R_mono (Kd.R_far (p := ⟨gb412, 1, none⟩) (Kd.R_far (p := ⟨gb412, 0, none⟩) (Kd.R_types HO404.out BK412.out (by decide)) (fun _ hk => hk.2) (.int .i64 t407)) (fun _ hk => hk.2) (.slice Ao73 t408.length co73)) (fun _ hk => ⟨hk.1.1.1.2, ⟨hk.1.1.2, hk.1.2⟩⟩)⟩, ⟨by (with_reducible repeat first | apply rvA | apply rvN | apply rvD); exact Kd.R_mono (Kd.R_far (p := ⟨gb412, 1, none⟩) (Kd.R_far (p := ⟨gb412, 0, none⟩) (Kd.R_types HO410.out BK412.out (by decide)) (fun _ hk => hk.2) (.int .i64 t407)) (fun _ hk => hk.2) (.slice Ao73 t408.length co73)) (fun _ hk => ⟨hk.1.1.1.2, ⟨hk.1.1.2, hk.1.2⟩⟩)⟩, ⟨by (with_reducible repeat first | apply bkN | apply bkD | apply bkA); refine blk_far ?_ NB377_412.out _; (with_reducible repeat first | apply bkN | apply bkD | apply bkA); refine blk_far ?_ NB377_412.out _; (with_reducible repeat first | apply bkN | apply bkD | apply bkA); exact BK377.out⟩, ⟨by (with_reducible repeat first | apply bkN | apply bkD | apply bkA); refine blk_far ?_ NB383_412.out _; (with_reducible repeat first | apply bkN | apply bkD | apply bkA); refine blk_far ?_ NB383_412.out _; (with_reducible repeat first | apply bkN | apply bkD | apply bkA); exact BK383.out⟩, ⟨by (with_reducible repeat first | apply bkN | apply bkD | apply bkA); refine blk_far ?_ NB406_412.out _; (with_reducible repeat first | apply bkN | apply bkD | apply bkA); refine blk_far ?_ NB406_412.out _; (with_reducible repeat first | apply bkN | apply bkD | apply bkA); exact BK406.out⟩, ⟨by (with_reducible repeat first | apply bkN | apply bkD | apply bkA); refine blk_put (cs := #[.int .i64 t407, .slice none 0 0]) ?_ 1 _ rfl; (with_reducible repeat first | apply bkN | apply bkD | apply bkA); refine blk_put (cs := #[.int .i64 0, .slice none 0 0]) ?_ 0 _ rfl; (with_reducible repeat first | apply bkN | apply bkD | apply bkA); exact BK412.out⟩, ⟨hbC⟩⟩
     case rest =>
      clear HC56
      try clear c1
      try clear c2
      try clear c2b0
      try clear c2b1
      try clear p2
      try clear c3
      try clear c4
      try clear c5
      try clear c6
      try clear c7
      try clear c8
      try clear c14
      try clear c20
      try clear c27
      try clear c31
      try clear c32
      try clear c36
      try clear c37
      try clear c43
      try clear c47
      try clear c48
      try clear c57
      try clear c62
      try clear c63
      try clear c69
      try clear c70
      try clear c71
      try clear c74
      try clear c74b0
      try clear c74b1
      try clear c75
      try clear c76
      try clear c77
      try clear c79
      try clear c80
      try clear hcz15_0
      try clear hcz15_1
      try clear hcz33_0
      try clear hcz33_1
      try clear hcz38_0
      try clear hcz38_1
      try clear hcz44_0
      try clear hcz44_1
      try clear hcz49_0
      try clear hcz49_1
      try clear hcz58_0
      try clear hcz58_1
      try clear hcz64_0
      try clear hcz64_1
      try clear hcz66_0
      try clear hcz66_1
      try clear hcz72_0
      try clear hcz72_1
      try clear hcz78_0
      try clear hcz78_1
      try clear hcz81_0
      try clear hcz81_1
      try clear hcz9_0
      try clear hcz9_1
      try clear hfz15_0
      try clear hfz15_1
      try clear hfz33_0
      try clear hfz33_1
      try clear hfz38_0
      try clear hfz38_1
      try clear hfz44_0
      try clear hfz44_1
      try clear hfz49_0
      try clear hfz49_1
      try clear hfz58_0
      try clear hfz58_1
      try clear hfz64_0
      try clear hfz64_1
      try clear hfz66_0
      try clear hfz66_1
      try clear hfz72_0
      try clear hfz72_1
      try clear hfz78_0
      try clear hfz78_1
      try clear hfz81_0
      try clear hfz81_1
      try clear hfz9_0
      try clear hfz9_1
      try clear p2
      obtain ⟨kq, x83_55, rfl, HA, HJ55, HO_8, HO_378001, HO_384001, HO_407001, HO_413001, BK377, BK383, BK406, BK412, HB⟩ := hcut
      cases kq with
      | zero => exact absurd HA.out (by simp [laws_FnReorderBack.j1])
      | succ kj55 =>
       have H := HA.out
       clear HA
       simp only [laws_FnReorderBack.j1] at H
       by_cases c82 : x83_55 = true
       ·subst c82
        have H1 : (some false) = some r := by rw [if_pos rfl] at H; exact H
        clear H
        have H := H1
        clear H1
        obtain rfl := Option.some.inj H
        go_wp2
        repeat (go_quiet (fail); try go_wp2)
        go_ret
        exact ⟨ers, hbC⟩
       ·replace c82 := Bool.eq_false_iff.mpr c82
        subst c82
        have H1 : (laws_FnReorderBack.l0 kj55 t384 (t402.length : Int) 0 t369 t370 t401 t402 t407 t408) = some r := by rw [if_neg (show ¬ (false = true) by decide)] at H; exact H
        clear H
        have H := H1
        clear H1
        have H' := Aside0.mk H
        clear H
        have hnb83 := NB406_377.out
        have hnc83 := NB377_406.out
        have hnb84 := NB406_383.out
        have hnc84 := NB383_406.out
        have hnb85 := NB406_412.out
        have hnc85 := NB412_406.out
        have hcz86_0 : wc.cell? ⟨gb406, 0, none⟩ = some (.int .i64 t401) := (blk_cell BK406.out 0).trans rfl
        have hcz86_1 : wc.cell? ⟨gb406, 1, none⟩ = some (.slice Ao65 t402.length co65) := (blk_cell BK406.out 1).trans rfl
        have hfz86_0 := blk_frozen BK406.out 0
        have hfz86_1 := blk_frozen BK406.out 1
        go_wp2
        repeat (go_quiet (fail); try go_wp2)
        go_loopg [87] kj55 (fun kq v87 w' => ∃ (x87_3 : Int), v87 = .int .i64 x87_3 ∧ Aside0 (laws_FnReorderBack.l0 kq t384 (t402.length : Int) x87_3 t369 t370 t401 t402 t407 t408 = some r) ∧ Aside0 (kq ≤ kj55) ∧ Aside0 (Kd.R (Kd.int .i64) 3 w' w.heap.size (fun _ => True) (.slice Ao59 t384.length co59) t384) ∧ Aside0 (Kd.R k56 56 w' w.heap.size (fun k_ => some k_ ≠ ((.slice Ao16 t379.length co16) : Value).ownBlock ∧ some k_ ≠ ((.slice Ao65 t402.length co65) : Value).ownBlock ∧ some k_ ≠ ((.slice Ao73 t408.length co73) : Value).ownBlock) (.slice Ao10 t370.length co10) t370) ∧ Aside0 (Kd.R k56 56 w' w.heap.size (fun k_ => some k_ ≠ ((.slice Ao10 t370.length co10) : Value).ownBlock ∧ some k_ ≠ ((.slice Ao65 t402.length co65) : Value).ownBlock ∧ some k_ ≠ ((.slice Ao73 t408.length co73) : Value).ownBlock) (.slice Ao16 t379.length co16) t379) ∧ Aside0 (Kd.R k56 56 w' w.heap.size (fun k_ => some k_ ≠ ((.slice Ao10 t370.length co10) : Value).ownBlock ∧ some k_ ≠ ((.slice Ao16 t379.length co16) : Value).ownBlock ∧ some k_ ≠ ((.slice Ao73 t408.length co73) : Value).ownBlock) (.slice Ao65 t402.length co65) t402) ∧ Aside0 (Kd.R k56 56 w' w.heap.size (fun k_ => some k_ ≠ ((.slice Ao10 t370.length co10) : Value).ownBlock ∧ some k_ ≠ ((.slice Ao16 t379.length co16) : Value).ownBlock ∧ some k_ ≠ ((.slice Ao65 t402.length co65) : Value).ownBlock) (.slice Ao73 t408.length co73) t408) ∧ Aside0 (w'.heap[gb377]? = some (.cells #[.int .i64 t369, (.slice Ao10 t370.length co10)] 48 (0, 0))) ∧ Aside0 (w'.heap[gb383]? = some (.cells #[.int .i64 t378, (.slice Ao16 t379.length co16)] 48 (0, 0))) ∧ Aside0 (w'.heap[gb406]? = some (.cells #[.int .i64 t401, (.slice Ao65 t402.length co65)] 48 (0, 0))) ∧ Aside0 (w'.heap[gb412]? = some (.cells #[.int .i64 t407, (.slice Ao73 t408.length co73)] 48 (0, 0))) ∧ Aside0 (Below w.heap.size w w'))
        case atStart => exact ⟨(0), rsd, H', ⟨Nat.le_refl _⟩, ⟨rvR HO_8.out⟩, ⟨rvR HO_378001.out⟩, ⟨rvR HO_384001.out⟩, ⟨rvR HO_407001.out⟩, ⟨rvR HO_413001.out⟩, ⟨bvK BK377.out⟩, ⟨bvK BK383.out⟩, ⟨bvK BK406.out⟩, ⟨bvK BK412.out⟩, ⟨hbC⟩⟩
        case round =>
         clear H'
         try clear c1
         try clear c2
         try clear c2b0
         try clear c2b1
         try clear p2
         try clear c3
         try clear c4
         try clear c5
         try clear c6
         try clear c7
         try clear c8
         try clear c14
         try clear c20
         try clear c27
         try clear c31
         try clear c32
         try clear c36
         try clear c37
         try clear c43
         try clear c47
         try clear c48
         try clear c57
         try clear c62
         try clear c63
         try clear c69
         try clear c70
         try clear c71
         try clear c74
         try clear c74b0
         try clear c74b1
         try clear c75
         try clear c76
         try clear c77
         try clear c79
         try clear c80
         try clear c82
         try clear c83
         try clear c84
         try clear c85
         try clear hcz15_0
         try clear hcz15_1
         try clear hcz33_0
         try clear hcz33_1
         try clear hcz38_0
         try clear hcz38_1
         try clear hcz44_0
         try clear hcz44_1
         try clear hcz49_0
         try clear hcz49_1
         try clear hcz58_0
         try clear hcz58_1
         try clear hcz64_0
         try clear hcz64_1
         try clear hcz66_0
         try clear hcz66_1
         try clear hcz72_0
         try clear hcz72_1
         try clear hcz78_0
         try clear hcz78_1
         try clear hcz81_0
         try clear hcz81_1
         try clear hcz86_0
         try clear hcz86_1
         try clear hcz9_0
         try clear hcz9_1
         try clear hfz15_0
         try clear hfz15_1
         try clear hfz33_0
         try clear hfz33_1
         try clear hfz38_0
         try clear hfz38_1
         try clear hfz44_0
         try clear hfz44_1
         try clear hfz49_0
         try clear hfz49_1
         try clear hfz58_0
         try clear hfz58_1
         try clear hfz64_0
         try clear hfz64_1
         try clear hfz66_0
         try clear hfz66_1
         try clear hfz72_0
         try clear hfz72_1
         try clear hfz78_0
         try clear hfz78_1
         try clear hfz81_0
         try clear hfz81_1
         try clear hfz86_0
         try clear hfz86_1
         try clear hfz9_0
         try clear hfz9_1
         try clear p2
         obtain ⟨x87_3, rfl, HA, HK3, HO_8, HO_378001, HO_384001, HO_407001, HO_413001, BK377, BK383, BK406, BK412, HB⟩ := hrel
         cases gk with
         | zero => exact absurd HA.out (by simp [laws_FnReorderBack.l0])
         | succ k3 =>
          have H := HA.out
          clear HA
          simp only [laws_FnReorderBack.l0] at H
          by_cases c87 : x87_3 < (t402.length : Int)
          ·rw [if_pos c87] at H
           have c87b0 : decide (x87_3 < (t402.length : Int)) = true := decide_eq_true c87
           clear c87
           by_cases c88 : 0 ≤ x87_3
           ·rw [if_pos c88] at H
            have c88b0 : decide (0 ≤ x87_3) = true := decide_eq_true c88
            clear c88
            by_cases c89 : x87_3 < (t402.length : Int)
            ·rw [if_pos c89] at H
             have c89b0 : decide (x87_3 < (t402.length : Int)) = true := decide_eq_true c89
             clear c89
             by_cases c90 : x87_3 < (t408.length : Int)
             ·rw [if_pos c90] at H
              have c90b0 : decide (x87_3 < (t408.length : Int)) = true := decide_eq_true c90
              clear c90
              by_cases c91 : (!(((rd_T56 t402 x87_3).f0) == ((rd_T56 t408 x87_3).f0)) || (!(((rd_T56 t402 x87_3).f1) == ((rd_T56 t408 x87_3).f1)) || (!(((rd_T56 t402 x87_3).f2) == ((rd_T56 t408 x87_3).f2))))) = true
              ·rw [if_pos c91] at H
               have c91b0 : (!(((rd_T56 t402 x87_3).f0) == ((rd_T56 t408 x87_3).f0)) || (!(((rd_T56 t402 x87_3).f1) == ((rd_T56 t408 x87_3).f1)) || (!(((rd_T56 t402 x87_3).f2) == ((rd_T56 t408 x87_3).f2))))) = true := c91
               clear c91
               obtain rfl := Option.some.inj H
               have hnb92 := NB406_377.out
               have hnc92 := NB377_406.out
               have hnb93 := NB406_383.out
               have hnc93 := NB383_406.out
               have hnb94 := NB406_412.out
               have hnc94 := NB412_406.out
               have hcz95_0 : wr.cell? ⟨gb406, 0, none⟩ = some (.int .i64 t401) := (blk_cell BK406.out 0).trans rfl
               have hcz95_1 : wr.cell? ⟨gb406, 1, none⟩ = some (.slice Ao65 t402.length co65) := (blk_cell BK406.out 1).trans rfl
               have hfz95_0 := blk_frozen BK406.out 0
               have hfz95_1 := blk_frozen BK406.out 1
               have p413 : 0 ≤ (x87_3 : Int) := oda
               have q413 : x87_3 < (t402.length : Int) := oda
               obtain ⟨ad413, e413, hx413_0, hx413_1, hx413_2⟩ := at_T56 (Kd.R_reads' HO_407001.out).2.2 x87_3 p413 q413
               cases e413
               replace p413 := eq_true p413
               replace q413 := eq_true q413
               have hnb96 := NB412_377.out
               have hnc96 := NB377_412.out
               have hnb97 := NB412_383.out
               have hnc97 := NB383_412.out
               have hcz98_0 : wr.cell? ⟨gb412, 0, none⟩ = some (.int .i64 t407) := (blk_cell BK412.out 0).trans rfl
               have hcz98_1 : wr.cell? ⟨gb412, 1, none⟩ = some (.slice Ao73 t408.length co73) := (blk_cell BK412.out 1).trans rfl
               have hfz98_0 := blk_frozen BK412.out 0
               have hfz98_1 := blk_frozen BK412.out 1
               have p414 : 0 ≤ (x87_3 : Int) := oda
               have q414 : x87_3 < (t408.length : Int) := oda
               obtain ⟨ad414, e414, hx414_0, hx414_1, hx414_2⟩ := at_T56 (Kd.R_reads' HO_413001.out).2.2 x87_3 p414 q414
               cases e414
               replace p414 := eq_true p414
               replace q414 := eq_true q414
               go_wp2
               repeat (go_quiet (fail); try go_wp2)
               go_ret
               exact ⟨ers, hbC⟩
              ·rw [if_neg c91] at H
               have c91b0 : (!(((rd_T56 t402 x87_3).f0) == ((rd_T56 t408 x87_3).f0)) || (!(((rd_T56 t402 x87_3).f1) == ((rd_T56 t408 x87_3).f1)) || (!(((rd_T56 t402 x87_3).f2) == ((rd_T56 t408 x87_3).f2))))) = false := by simpa using c91
               clear c91
               have H' := Aside0.mk H
               clear H
               have hnb99 := NB406_377.out
               have hnc99 := NB377_406.out
               have hnb100 := NB406_383.out
               have hnc100 := NB383_406.out
               have hnb101 := NB406_412.out
               have hnc101 := NB412_406.out
               have hcz102_0 : wr.cell? ⟨gb406, 0, none⟩ = some (.int .i64 t401) := (blk_cell BK406.out 0).trans rfl
               have hcz102_1 : wr.cell? ⟨gb406, 1, none⟩ = some (.slice Ao65 t402.length co65) := (blk_cell BK406.out 1).trans rfl
               have hfz102_0 := blk_frozen BK406.out 0
               have hfz102_1 := blk_frozen BK406.out 1
               have p413 : 0 ≤ (x87_3 : Int) := oda
               have q413 : x87_3 < (t402.length : Int) := oda
               obtain ⟨ad413, e413, hx413_0, hx413_1, hx413_2⟩ := at_T56 (Kd.R_reads' HO_407001.out).2.2 x87_3 p413 q413
               cases e413
               replace p413 := eq_true p413
               replace q413 := eq_true q413
               have hnb103 := NB412_377.out
               have hnc103 := NB377_412.out
               have hnb104 := NB412_383.out
               have hnc104 := NB383_412.out
               have hcz105_0 : wr.cell? ⟨gb412, 0, none⟩ = some (.int .i64 t407) := (blk_cell BK412.out 0).trans rfl
               have hcz105_1 : wr.cell? ⟨gb412, 1, none⟩ = some (.slice Ao73 t408.length co73) := (blk_cell BK412.out 1).trans rfl
               have hfz105_0 := blk_frozen BK412.out 0
               have hfz105_1 := blk_frozen BK412.out 1
               have p414 : 0 ≤ (x87_3 : Int) := oda
               have q414 : x87_3 < (t408.length : Int) := oda
               obtain ⟨ad414, e414, hx414_0, hx414_1, hx414_2⟩ := at_T56 (Kd.R_reads' HO_413001.out).2.2 x87_3 p414 q414
               cases e414
               replace p414 := eq_true p414
               replace q414 := eq_true q414
               go_wp2
               repeat (go_quiet (fail); try go_wp2)
               go_roundg k3
               case measure => have := HJ5.out; have := HJ55.out; have := HK3.out; omega
               case rel => exact ⟨(wrap64 (x87_3 + 1)), rsd, H', ⟨by have := HJ5.out; have := HJ55.out; have := HK3.out; omega⟩, ⟨rvR HO_8.out⟩, ⟨rvR HO_378001.out⟩, ⟨rvR HO_384001.out⟩, ⟨rvR HO_407001.out⟩, ⟨rvR HO_413001.out⟩, ⟨bvK BK377.out⟩, ⟨bvK BK383.out⟩, ⟨bvK BK406.out⟩, ⟨bvK BK412.out⟩, ⟨hbC⟩⟩
             ·rw [if_neg c90] at H
              exact absurd H (by simp)
            ·rw [if_neg c89] at H
             exact absurd H (by simp)
           ·rw [if_neg c88] at H
            exact absurd H (by simp)
          ·rw [if_neg c87] at H
           have c87b0 : decide (x87_3 < (t402.length : Int)) = false := decide_eq_false c87
           clear c87
           replace H := Option.bind_eq_some_iff.mp H
           obtain ⟨t415, A1060, H⟩ := H
           replace H : (some t415) = some r := H
           have A106 := Aside0.mk A1060
           clear A1060
           obtain rfl := Option.some.inj H
           have hnb107 := NB377_383.out
           have hnc107 := NB383_377.out
           have hnb108 := NB377_406.out
           have hnc108 := NB406_377.out
           have hnb109 := NB377_412.out
           have hnc109 := NB412_377.out
           have hcz110_0 : wr.cell? ⟨gb377, 0, none⟩ = some (.int .i64 t369) := (blk_cell BK377.out 0).trans rfl
           have hcz110_1 : wr.cell? ⟨gb377, 1, none⟩ = some (.slice Ao10 t370.length co10) := (blk_cell BK377.out 1).trans rfl
           have hfz110_0 := blk_frozen BK377.out 0
           have hfz110_1 := blk_frozen BK377.out 1
           iterate 5 (go_wp2_with (first | (go_at_call 35; (with_reducible refine (impl_OrderValid.calls k3 _ _ t384 t369 t415 _ ?side1 ?side2 A106.out).mono ?_); (case side1 => exact kcR (Kd.R_reads' HO_8.out).2.2); (case side2 => exact (Kd.R_reads' HO_8.out).2.1); rintro e w' ⟨rfl, ⟨nd, rfl⟩⟩; (try first | exact ⟨rfl, _, World.drewN_drewN _ _ _⟩ | exact ⟨rfl, _, Eq.trans (World.drewN_drewN _ _ _) (congrArg (World.drewN _) (Nat.add_assoc _ _ _))⟩))); try go_quiet (fail))
           go_ret
           exact ⟨ers, hbC⟩

/-- THE ONE PURE STATEMENT of laws_FnReorderBack: yours. -/
def laws_FnReorderBack.Pure : Prop := ∀ (l0 : List Int), l0.length ≤ maxLen → l0.length * 1 ≤ 140737488351232 → (∀ x ∈ l0, (Lit.int .u8 x).wf = true) → ∃ k, laws_FnReorderBack.f k l0 = some true
theorem laws_FnReorderBack.walk (P : laws_FnReorderBack.Pure) (a0 : Option Addr) (len0 cap0 : Nat) (z0 : List Int) (w : World) (w0 : (a0 = none ∧ len0 = 0 ∧ cap0 = 0 ∧ z0 = []) ∨ ∃ x, a0 = some x ∧ len0 ≤ cap0 ∧ cap0 ≤ maxLen ∧ z0.length = cap0 ∧ (∀ i, i < z0.length → w.cell? (x.add i) = some (.int .u8 (z0.getD i 0))) ∧ ∀ n ∈ z0, (Lit.int .u8 n).wf = true) (y0 : len0 * 1 ≤ 140737488351232) :
  Calls Try.prog 7 #[.slice a0 len0 cap0] w fun e w' => e = .returned (.bool true) ∧ Below w.heap.size w w' := by
 obtain ⟨l0, rfl, hr0, hm0, hw0, hc0⟩ := ReadsInt.ofRowC w0
 obtain ⟨k, h⟩ := P l0 hm0 y0 hw0
 refine (laws_FnReorderBack.calls k _ _ l0 true w (Kd.C_of_reads (d := (0 : Int)) (h1 := fun _ => rfl) hr0) hc0 h).mono ?_
 rintro e w' ⟨rfl, hd⟩
 exact ⟨rfl, hd⟩

end Go.Proofs.Ytpcckoljocpchaa.QFnReorderBack
