-- Written by a program of this session (mk.py). Lean checks it.
import Derived.Test.YtpcompnmadpljaaQFnDiagramRowx0
import Derived.Test.YtpcompnmadpljaaQFnDiagramRowx4
import Derived.Test.YtpcompnmadpljaaQFnDiagramRowx5
import Derived.Test.YtpcompnmadpljaaQFnDiagramRowx9
import Derived.Test.YtpcompnmadpljaaQFnDiagramRowx12
namespace Go.Proofs.Ytpcompnmadpljaa.QFnDiagramRow
open Go.RowKit Go.Proofs.YtpcompnmadpljaaW.PrintWords Go.Proofs.YtpcompnmadpljaaW.PrintLast Go.Proofs.YtpcompnmadpljaaW.PrintMore
attribute [local go_sem] max2_int min2_int max_two min_two max_three min_three max_four min_four   -- for this text's walks alone
set_option linter.unusedVariables false
set_option linter.unusedSimpArgs false

/-! ### laws_FnDiagramRow: function 12 -/
mutual
def laws_FnDiagramRow.j0 : Nat → Int → List Int → Bool → Int → List (S71) → Option (Bool)
 | 0, _, _, _, _, _ => none
 | k + 1, x4, x5, x36, x286000, x286001 => if x36 = true then (some false) else (if (x5.length : Int) = 0 then ((impl_DiagramCount.f k x286000 x286001 x4).bind fun t295 => (if t295 ≤ 0 then (some true) else (some (x286000 == 0)))) else ((impl_DiagramValue.f k x286000 x286001 x4 x5).bind fun t296 => (if t296 = 1 then (laws_FnDiagramRow.l0 k x4 x5 x5 (x5.length : Int) 0 x286000 x286001) else (some false))))
def laws_FnDiagramRow.l0 : Nat → Int → List Int → List Int → Int → Int → Int → List (S71) → Option (Bool)
 | 0, _, _, _, _, _, _, _ => none
 | k + 1, x4, x5, x54, x55, x56, x286000, x286001 => if x56 < x55 then (if 0 ≤ x56 then (if x56 < (x54.length : Int) then (if (rd x54 x56) = 0 then (laws_FnDiagramRow.l0 k x4 x5 x54 x55 (wrap64 (x56 + 1)) x286000 x286001) else (laws_FnDiagramRow.l1 k x4 x5 x56 x4 x54 x55 x56 x56 0 x286000 x286001 x286000 x286001)) else (none)) else (none)) else (some true)
def laws_FnDiagramRow.l1 : Nat → Int → List Int → Int → Int → List Int → Int → Int → Int → Int → Int → List (S71) → Int → List (S71) → Option (Bool)
 | 0, _, _, _, _, _, _, _, _, _, _, _, _, _ => none
 | k + 1, x4, x5, x6, x9, x54, x55, x56, x65, x66, x286000, x286001, x299000, x299001 => if x66 < x65 then (if 0 ≤ x66 then (if x66 < (x5.length : Int) then ((impl_DiagramFix.f k x299000 x299001 x9 x66 (rd x5 x66)).bind fun bt300 => (laws_FnDiagramRow.l1 k x4 x5 x6 bt300.2.2 x54 x55 x56 x65 (wrap64 (x66 + 1)) x286000 x286001 bt300.1 bt300.2.1)) else (none)) else (none)) else ((impl_DiagramFix.f k x299000 x299001 x9 x6 0).bind fun bt305 => ((impl_DiagramCount.f k bt305.1 bt305.2.1 bt305.2.2).bind fun t310 => (if t310 = 0 then (laws_FnDiagramRow.l0 k x4 x5 x54 x55 (wrap64 (x56 + 1)) x286000 x286001) else (some false))))
end
def laws_FnDiagramRow.f (k : Nat) (l0 : List Int) : Option (Bool) := if (l0.length : Int) > 1048576 then (some true) else ((spec_DrawDiagramRow.f k l0).bind fun bt280 => ((impl_DiagramRow.f k bt280.1 bt280.2.1 bt280.2.2).bind fun t286 => ((spec_DiagramRow.f k bt280.1 bt280.2.1 bt280.2.2).bind fun t289 => ((laws_wcInts.f k t286 t289).bind fun t292 => (if t292 = true then ((impl_DiagramCount.f k bt280.1 bt280.2.1 bt280.2.2).bind fun t293 => ((spec_DiagramCount.f k bt280.1 bt280.2.1 bt280.2.2).bind fun t294 => (laws_FnDiagramRow.j0 k bt280.2.2 t286 (t293 != t294) bt280.1 bt280.2.1))) else (laws_FnDiagramRow.j0 k bt280.2.2 t286 true bt280.1 bt280.2.1))))))
theorem laws_FnDiagramRow.mono_l : ∀ k, (∀ y0 y1 y2 y3 y4, LeO (laws_FnDiagramRow.j0 k y0 y1 y2 y3 y4) (laws_FnDiagramRow.j0 (k + 1) y0 y1 y2 y3 y4)) ∧ (∀ y0 y1 y2 y3 y4 y5 y6, LeO (laws_FnDiagramRow.l0 k y0 y1 y2 y3 y4 y5 y6) (laws_FnDiagramRow.l0 (k + 1) y0 y1 y2 y3 y4 y5 y6)) ∧ (∀ y0 y1 y2 y3 y4 y5 y6 y7 y8 y9 y10 y11 y12, LeO (laws_FnDiagramRow.l1 k y0 y1 y2 y3 y4 y5 y6 y7 y8 y9 y10 y11 y12) (laws_FnDiagramRow.l1 (k + 1) y0 y1 y2 y3 y4 y5 y6 y7 y8 y9 y10 y11 y12))
 | 0 => ⟨fun _ _ _ _ _ r h => by simp [laws_FnDiagramRow.j0] at h, fun _ _ _ _ _ _ _ r h => by simp [laws_FnDiagramRow.l0] at h, fun _ _ _ _ _ _ _ _ _ _ _ _ _ r h => by simp [laws_FnDiagramRow.l1] at h⟩
 | k + 1 => by
  obtain ⟨ih0, ih1, ih2⟩ := laws_FnDiagramRow.mono_l k
  refine ⟨?_, ?_, ?_⟩
  ·intro y0 y1 y2 y3 y4
   unfold laws_FnDiagramRow.j0
   repeat' first
   | (with_reducible exact ih0 _ _ _ _ _)
   | (with_reducible exact ih1 _ _ _ _ _ _ _)
   | (with_reducible exact ih2 _ _ _ _ _ _ _ _ _ _ _ _ _)
   | (with_reducible exact impl_DiagramCount.mono _ _ _ _)
   | (with_reducible exact impl_DiagramFix.mono _ _ _ _ _ _)
   | (with_reducible exact impl_DiagramRow.mono _ _ _ _)
   | (with_reducible exact impl_DiagramValue.mono _ _ _ _ _)
   | (with_reducible exact laws_wcInts.mono _ _ _)
   | (with_reducible exact spec_DiagramCount.mono _ _ _ _)
   | (with_reducible exact spec_DiagramRow.mono _ _ _ _)
   | (with_reducible exact spec_DrawDiagramRow.mono _ _)
   | (with_reducible exact LeO.refl _)
   | (with_reducible exact LeO.none _)
   | (with_reducible refine LeO.ite ?_ ?_)
   | (with_reducible refine LeO.bind ?_ (fun _ => ?_))
   | exact ih0 _ _ _ _ _
   | exact ih1 _ _ _ _ _ _ _
   | exact ih2 _ _ _ _ _ _ _ _ _ _ _ _ _
   | exact impl_DiagramCount.mono _ _ _ _
   | exact impl_DiagramFix.mono _ _ _ _ _ _
   | exact impl_DiagramRow.mono _ _ _ _
   | exact impl_DiagramValue.mono _ _ _ _ _
   | exact laws_wcInts.mono _ _ _
   | exact spec_DiagramCount.mono _ _ _ _
   | exact spec_DiagramRow.mono _ _ _ _
   | exact spec_DrawDiagramRow.mono _ _
   | exact LeO.none _
   | refine LeO.ite ?_ ?_
   | refine LeO.bind ?_ (fun _ => ?_)
  ·intro y0 y1 y2 y3 y4 y5 y6
   unfold laws_FnDiagramRow.l0
   repeat' first
   | (with_reducible exact ih0 _ _ _ _ _)
   | (with_reducible exact ih1 _ _ _ _ _ _ _)
   | (with_reducible exact ih2 _ _ _ _ _ _ _ _ _ _ _ _ _)
   | (with_reducible exact impl_DiagramCount.mono _ _ _ _)
   | (with_reducible exact impl_DiagramFix.mono _ _ _ _ _ _)
   | (with_reducible exact impl_DiagramRow.mono _ _ _ _)
   | (with_reducible exact impl_DiagramValue.mono _ _ _ _ _)
   | (with_reducible exact laws_wcInts.mono _ _ _)
   | (with_reducible exact spec_DiagramCount.mono _ _ _ _)
   | (with_reducible exact spec_DiagramRow.mono _ _ _ _)
   | (with_reducible exact spec_DrawDiagramRow.mono _ _)
   | (with_reducible exact LeO.refl _)
   | (with_reducible exact LeO.none _)
   | (with_reducible refine LeO.ite ?_ ?_)
   | (with_reducible refine LeO.bind ?_ (fun _ => ?_))
   | exact ih0 _ _ _ _ _
   | exact ih1 _ _ _ _ _ _ _
   | exact ih2 _ _ _ _ _ _ _ _ _ _ _ _ _
   | exact impl_DiagramCount.mono _ _ _ _
   | exact impl_DiagramFix.mono _ _ _ _ _ _
   | exact impl_DiagramRow.mono _ _ _ _
   | exact impl_DiagramValue.mono _ _ _ _ _
   | exact laws_wcInts.mono _ _ _
   | exact spec_DiagramCount.mono _ _ _ _
   | exact spec_DiagramRow.mono _ _ _ _
   | exact spec_DrawDiagramRow.mono _ _
   | exact LeO.none _
   | refine LeO.ite ?_ ?_
   | refine LeO.bind ?_ (fun _ => ?_)
  ·intro y0 y1 y2 y3 y4 y5 y6 y7 y8 y9 y10 y11 y12
   unfold laws_FnDiagramRow.l1
   repeat' first
   | (with_reducible exact ih0 _ _ _ _ _)
   | (with_reducible exact ih1 _ _ _ _ _ _ _)
   | (with_reducible exact ih2 _ _ _ _ _ _ _ _ _ _ _ _ _)
   | (with_reducible exact impl_DiagramCount.mono _ _ _ _)
   | (with_reducible exact impl_DiagramFix.mono _ _ _ _ _ _)
   | (with_reducible exact impl_DiagramRow.mono _ _ _ _)
   | (with_reducible exact impl_DiagramValue.mono _ _ _ _ _)
   | (with_reducible exact laws_wcInts.mono _ _ _)
   | (with_reducible exact spec_DiagramCount.mono _ _ _ _)
   | (with_reducible exact spec_DiagramRow.mono _ _ _ _)
   | (with_reducible exact spec_DrawDiagramRow.mono _ _)
   | (with_reducible exact LeO.refl _)
   | (with_reducible exact LeO.none _)
   | (with_reducible refine LeO.ite ?_ ?_)
   | (with_reducible refine LeO.bind ?_ (fun _ => ?_))
   | exact ih0 _ _ _ _ _
   | exact ih1 _ _ _ _ _ _ _
   | exact ih2 _ _ _ _ _ _ _ _ _ _ _ _ _
   | exact impl_DiagramCount.mono _ _ _ _
   | exact impl_DiagramFix.mono _ _ _ _ _ _
   | exact impl_DiagramRow.mono _ _ _ _
   | exact impl_DiagramValue.mono _ _ _ _ _
   | exact laws_wcInts.mono _ _ _
   | exact spec_DiagramCount.mono _ _ _ _
   | exact spec_DiagramRow.mono _ _ _ _
   | exact spec_DrawDiagramRow.mono _ _
   | exact LeO.none _
   | refine LeO.ite ?_ ?_
   | refine LeO.bind ?_ (fun _ => ?_)
theorem laws_FnDiagramRow.mono : ∀ a0 k, LeO (laws_FnDiagramRow.f k a0) (laws_FnDiagramRow.f (k + 1) a0) := by
 intro a0 k
 obtain ⟨ih0, ih1, ih2⟩ := laws_FnDiagramRow.mono_l k
 unfold laws_FnDiagramRow.f
 repeat' first
   | (with_reducible exact ih0 _ _ _ _ _)
   | (with_reducible exact ih1 _ _ _ _ _ _ _)
   | (with_reducible exact ih2 _ _ _ _ _ _ _ _ _ _ _ _ _)
   | (with_reducible exact impl_DiagramCount.mono _ _ _ _)
   | (with_reducible exact impl_DiagramFix.mono _ _ _ _ _ _)
   | (with_reducible exact impl_DiagramRow.mono _ _ _ _)
   | (with_reducible exact impl_DiagramValue.mono _ _ _ _ _)
   | (with_reducible exact laws_wcInts.mono _ _ _)
   | (with_reducible exact spec_DiagramCount.mono _ _ _ _)
   | (with_reducible exact spec_DiagramRow.mono _ _ _ _)
   | (with_reducible exact spec_DrawDiagramRow.mono _ _)
   | (with_reducible exact LeO.refl _)
   | (with_reducible exact LeO.none _)
   | (with_reducible refine LeO.ite ?_ ?_)
   | (with_reducible refine LeO.bind ?_ (fun _ => ?_))
   | exact ih0 _ _ _ _ _
   | exact ih1 _ _ _ _ _ _ _
   | exact ih2 _ _ _ _ _ _ _ _ _ _ _ _ _
   | exact impl_DiagramCount.mono _ _ _ _
   | exact impl_DiagramFix.mono _ _ _ _ _ _
   | exact impl_DiagramRow.mono _ _ _ _
   | exact impl_DiagramValue.mono _ _ _ _ _
   | exact laws_wcInts.mono _ _ _
   | exact spec_DiagramCount.mono _ _ _ _
   | exact spec_DiagramRow.mono _ _ _ _
   | exact spec_DrawDiagramRow.mono _ _
   | exact LeO.none _
   | refine LeO.ite ?_ ?_
   | refine LeO.bind ?_ (fun _ => ?_)
def laws_FnDiagramRow.T5 : Bool × List (List Nat × List Nat) := (true, [([], []), ([], []), ([], []), ([1, 2], [1, 2]), ([0, 3, 3], [0, 3]), ([4], [4]), ([5, 4], [5]), ([6], [6]), ([6], [6]), ([7, 8, 6, 6], [6, 7, 8]), ([6], [6]), ([6], [6]), ([10, 11, 9, 6], [6, 10, 11]), ([9, 12, 6], [6, 9, 12]), ([6, 13], [6, 13])])
def laws_FnDiagramRow.B5 : List Nat := [0, 0, 0, 6, 15, 31, 63, 127, 127, 511, 127, 127, 4095, 8191, 16383]
theorem laws_FnDiagramRow.tab5 : rtab .any (opsOf Try.f12 5) = laws_FnDiagramRow.T5 := by kernel_rfl
theorem laws_FnDiagramRow.bits5 : waitsOk laws_FnDiagramRow.T5.2 laws_FnDiagramRow.B5 = true := by kernel_rfl
def laws_FnDiagramRow.T19 : Bool × List (List Nat × List Nat) := (true, [([], []), ([], []), ([], []), ([], []), ([], []), ([3, 4], [3, 4]), ([5], [5]), ([0, 1, 2, 6], [0, 1, 2, 6]), ([7], [7]), ([8], [8]), ([8], [8]), ([9, 7, 0, 1, 2, 3, 4, 5, 6, 7, 8, 9], [9]), ([10, 11, 0, 1, 2, 3, 4, 5, 6, 7, 8, 9, 10, 11], [1, 10])])
def laws_FnDiagramRow.B19 : List Nat := [0, 0, 0, 0, 0, 24, 56, 127, 255, 511, 511, 1023, 4095]
theorem laws_FnDiagramRow.tab19 : rtab .any (opsOf Try.f12 19) = laws_FnDiagramRow.T19 := by kernel_rfl
theorem laws_FnDiagramRow.bits19 : waitsOk laws_FnDiagramRow.T19.2 laws_FnDiagramRow.B19 = true := by kernel_rfl
set_option maxHeartbeats 8000000 in
set_option maxRecDepth 100000 in
theorem laws_FnDiagramRow.calls (k : Nat) (A0 : Option Addr) (c0 : Nat) (l0 : List Int) (r : Bool) (w : World) (hr0 : Kd.C (Kd.int .u8) w A0 l0.length l0) (hc0 : l0.length ≤ c0) (h : laws_FnDiagramRow.f k l0 = some r) :
  Calls Try.prog 12 #[.slice A0 l0.length c0] w fun e w' => e = .returned (.bool r) ∧ Below w.heap.size w w' := by
 have hu25 := Try.underlying25
 have HR0 := Aside0.mk hr0
 have HC0 := Aside0.mk hc0
 clear hr0 hc0
 have HB := Aside0.mk (Below.refl w.heap.size w)
 have H : (if (l0.length : Int) > 1048576 then (some true) else ((spec_DrawDiagramRow.f k l0).bind fun bt280 => ((impl_DiagramRow.f k bt280.1 bt280.2.1 bt280.2.2).bind fun t286 => ((spec_DiagramRow.f k bt280.1 bt280.2.1 bt280.2.2).bind fun t289 => ((laws_wcInts.f k t286 t289).bind fun t292 => (if t292 = true then ((impl_DiagramCount.f k bt280.1 bt280.2.1 bt280.2.2).bind fun t293 => ((spec_DiagramCount.f k bt280.1 bt280.2.1 bt280.2.2).bind fun t294 => (laws_FnDiagramRow.j0 k bt280.2.2 t286 (t293 != t294) bt280.1 bt280.2.1))) else (laws_FnDiagramRow.j0 k bt280.2.2 t286 true bt280.1 bt280.2.1))))))) = some r := h
 clear h
 by_cases c2 : (l0.length : Int) > 1048576
 ·rw [if_pos c2] at H
  have c2b0 : decide (1048576 < (l0.length : Int)) = true := decide_eq_true c2
  have c2b1 : decide (1048576 < l0.length) = true := decide_eq_true (by omega)
  clear c2
  obtain rfl := Option.some.inj H
  go_enter Try.func12, Try.ntmps12
  go_wp2
  go_ret
  exact ⟨ers, by repeat (first | (with_reducible first | exact HB.out | apply bwA | apply bwN | apply bwD) | exact HB.out)⟩
 ·rw [if_neg c2] at H
  have c2b0 : decide (1048576 < (l0.length : Int)) = false := decide_eq_false c2
  have c2b1 : decide (1048576 < l0.length) = false := decide_eq_false (by omega)
  clear c2
  replace H := Option.bind_eq_some_iff.mp H
  obtain ⟨⟨t280, t281, t284⟩, A30, H⟩ := H
  replace H : ((impl_DiagramRow.f k t280 t281 t284).bind fun t286 => ((spec_DiagramRow.f k t280 t281 t284).bind fun t289 => ((laws_wcInts.f k t286 t289).bind fun t292 => (if t292 = true then ((impl_DiagramCount.f k t280 t281 t284).bind fun t293 => ((spec_DiagramCount.f k t280 t281 t284).bind fun t294 => (laws_FnDiagramRow.j0 k t284 t286 (t293 != t294) t280 t281))) else (laws_FnDiagramRow.j0 k t284 t286 true t280 t281))))) = some r := H
  have A3 := Aside0.mk A30
  clear A30
  replace H := Option.bind_eq_some_iff.mp H
  obtain ⟨t286, A40, H⟩ := H
  replace H : ((spec_DiagramRow.f k t280 t281 t284).bind fun t289 => ((laws_wcInts.f k t286 t289).bind fun t292 => (if t292 = true then ((impl_DiagramCount.f k t280 t281 t284).bind fun t293 => ((spec_DiagramCount.f k t280 t281 t284).bind fun t294 => (laws_FnDiagramRow.j0 k t284 t286 (t293 != t294) t280 t281))) else (laws_FnDiagramRow.j0 k t284 t286 true t280 t281)))) = some r := H
  have A4 := Aside0.mk A40
  clear A40
  have HC5 := Aside0.mk H
  clear H
  go_enter Try.func12, Try.ntmps12
  go_upto_region 5 with (first | ((with_reducible refine gate_callee (f := 42) rfl ?_); refine goesL_ (some 16) rfl rfl Try.func42 (by kernel_rfl) rfl #[.slice A0 l0.length c0] rfl lmB ?_; (with_reducible refine (spec_DrawDiagramRow.calls k _ _ l0 t280 t281 t284 _ ?side1 ?side2 A3.out).mono ?_); (case side1 => repeat (first | exact HR0.out | (with_reducible refine Kd.C_alloc ?_ _) | (with_reducible refine Kd.C_drewN ?_ _) | (with_reducible refine Kd.C_drew ?_))); (case side2 => exact HC0.out); rintro e w6 ⟨v282, rfl, ho0, hb⟩; refine ⟨_, rfl, ?_⟩; have n0_ := Aside0.mk (Kd.R_lower ho0 (below_size (by repeat (first | (with_reducible first | exact HB.out | apply bwA | apply bwN | apply bwD) | exact HB.out)))); have n1_ := Aside0.mk (below_step (by repeat (first | (with_reducible first | exact HB.out | apply bwA | apply bwN | apply bwD) | exact HB.out)) hb); clear HB; have HO283 := n0_; have HB := n1_; clear n0_ n1_; (try clear hb); (try clear hb2); (try clear hk); (try clear hi); (try clear ho0)) | ((with_reducible refine gate_dst (N := 3) rfl ?_); refine box_event ?hg (N := 3) ?hd (cs := #[.int .i64 0, .slice none 0 0]) (t := 25) ?hr ?_; (case hd => rfl); (case hg => rfl); (case hr => first | (go_simp; done) | (go_simp; rfl)); intro gb285 hg w7 hbox hb; have n0_ := Aside0.mk (Kd.R_below (rvR HO283.out) hb); have n1_ := Aside0.mk (below_step (by repeat (first | (with_reducible first | exact HB.out | apply bwA | apply bwN | apply bwD) | exact HB.out)) hb); have n2_ := Aside0.mk (hbox); have n3_ := Aside0.mk ((by rw [hg]; exact (below_size (by repeat (first | (with_reducible first | exact HB.out | apply bwA | apply bwN | apply bwD) | exact HB.out))) : w.heap.size ≤ gb285)); have n4_ := Aside0.mk ((by rw [hg]; exact (below_size (by repeat (first | (with_reducible first | exact HB.out | apply bwA | apply bwN | apply bwD) | exact HB.out))) : w.heap.size ≤ gb285)); clear HO283; clear HB; have HO283 := n0_; have HB := n1_; have BK285 := n2_; have GW285 := n3_; have GE285 := n4_; clear n0_ n1_ n2_ n3_ n4_; clear hb hbox hg; have hcz8_0 : w7.cell? ⟨gb285, 0, none⟩ = some (.int .i64 0) := (blk_cell BK285.out 0).trans rfl; have hcz8_1 : w7.cell? ⟨gb285, 1, none⟩ = some (.slice none 0 0) := (blk_cell BK285.out 1).trans rfl; have hfz8_0 := blk_frozen BK285.out 0; have hfz8_1 := blk_frozen BK285.out 1; obtain ⟨Ao9, co9, eo9⟩ := Kd.R_slice HO283.out; subst eo9) | ((with_reducible refine gate_callee (f := 43) rfl ?_); refine goesL_ (some 21) rfl rfl Try.func43 (by kernel_rfl) rfl #[.agg #[.int .i64 t280, .slice Ao9 t281.length co9], .int .i64 t284] rfl lmB ?_; (with_reducible refine (impl_DiagramRow.calls k t280 _ _ t281 t284 t286 _ ?side1 ?side2 A4.out).mono ?_); (case side1 => refine (Kd.R_reads' (e := 71) (base := w.heap.size) (ok := fun k_ => True) (n := t281.length) (c := co9) ?_).2.2; exact (by (with_reducible repeat (first | apply Kd.R_alloc | apply Kd.R_drewN | apply Kd.R_drew)); exact (Kd.R_mono (Kd.R_far (p := ⟨gb285, 1, none⟩) (Kd.R_far (p := ⟨gb285, 0, none⟩) (Kd.R_types HO283.out BK285.out (by decide)) (fun _ hk => hk.2) (.int .i64 t280)) (fun _ hk => hk.2) (.slice Ao9 t281.length co9)) (fun _ h_ => h_.1)))); (case side2 => exact (Kd.R_reads' HO283.out).2.1); rintro e w10 ⟨v287, rfl, ho0, hb⟩; refine ⟨_, rfl, ?_⟩; have n0_ := Aside0.mk (Kd.R_below (by (with_reducible repeat (first | apply Kd.R_alloc | apply Kd.R_drewN | apply Kd.R_drew)); exact (Kd.R_mono (Kd.R_far (p := ⟨gb285, 1, none⟩) (Kd.R_far (p := ⟨gb285, 0, none⟩) (Kd.R_types HO283.out BK285.out (by decide)) (fun _ hk => hk.2) (.int .i64 t280)) (fun _ hk => hk.2) (.slice Ao9 t281.length co9)) (fun _ h_ => h_.1))) hb); have n1_ := Aside0.mk (Kd.R_lower ho0 (below_size (by repeat (first | (with_reducible first | exact HB.out | apply bwA | apply bwN | apply bwD | refine below_set ?_ GE285.out) | exact HB.out)))); have n2_ := Aside0.mk (blk_below (g := gb285) (o := .cells #[.int .i64 t280, .slice Ao9 t281.length co9] 25 (0, 0)) (by (with_reducible repeat (first | refine blk_drewN ?_ _ | refine blk_drew ?_ | refine blk_alloc ?_ _)); refine blk_put (cs := #[.int .i64 t280, .slice none 0 0]) ?_ 1 _ rfl; (with_reducible repeat (first | refine blk_drewN ?_ _ | refine blk_drew ?_ | refine blk_alloc ?_ _)); refine blk_put (cs := #[.int .i64 0, .slice none 0 0]) ?_ 0 _ rfl; (with_reducible repeat (first | refine blk_drewN ?_ _ | refine blk_drew ?_ | refine blk_alloc ?_ _)); exact BK285.out) hb); have n3_ := Aside0.mk (below_step (by repeat (first | (with_reducible first | exact HB.out | apply bwA | apply bwN | apply bwD | refine below_set ?_ GE285.out) | exact HB.out)) hb); clear HO283; clear BK285; clear HB; have HO283 := n0_; have HO288 := n1_; have BK285 := n2_; have HB := n3_; clear n0_ n1_ n2_ n3_; (try clear hb); (try clear hb2); (try clear hk); (try clear hi); (try clear ho0)))
  (try simp only [Act.put, List.setIfInBounds_toArray, List.set_cons_zero, List.set_cons_succ])
  go_cut [36] (fun v36 wc => ∃ (kq : Nat) (x36_4 : Bool), v36 = .bool x36_4 ∧ Aside0 (laws_FnDiagramRow.j0 kq t284 t286 x36_4 t280 t281 = some r) ∧ Aside0 (kq ≤ k) ∧ Aside0 (Kd.R (Kd.int .i64) 3 wc w.heap.size (fun _ => True) v287 t286) ∧ Aside0 (Kd.R k71 71 wc w.heap.size (fun _ => True) (.slice Ao9 t281.length co9) t281) ∧ Aside0 (wc.heap[gb285]? = some (.cells #[.int .i64 t280, (.slice Ao9 t281.length co9)] 25 (0, 0))) ∧ Aside0 (Below w.heap.size w wc))
  case first =>
   have H := HC5.out
   clear HC5
   replace H := Option.bind_eq_some_iff.mp H
   obtain ⟨t289, A110, H⟩ := H
   replace H : ((laws_wcInts.f k t286 t289).bind fun t292 => (if t292 = true then ((impl_DiagramCount.f k t280 t281 t284).bind fun t293 => ((spec_DiagramCount.f k t280 t281 t284).bind fun t294 => (laws_FnDiagramRow.j0 k t284 t286 (t293 != t294) t280 t281))) else (laws_FnDiagramRow.j0 k t284 t286 true t280 t281))) = some r := H
   have A11 := Aside0.mk A110
   clear A110
   replace H := Option.bind_eq_some_iff.mp H
   obtain ⟨t292, A120, H⟩ := H
   replace H : (if t292 = true then ((impl_DiagramCount.f k t280 t281 t284).bind fun t293 => ((spec_DiagramCount.f k t280 t281 t284).bind fun t294 => (laws_FnDiagramRow.j0 k t284 t286 (t293 != t294) t280 t281))) else (laws_FnDiagramRow.j0 k t284 t286 true t280 t281)) = some r := H
   have A12 := Aside0.mk A120
   clear A120
   by_cases c13 : t292 = true
   ·subst c13
    have H1 : ((impl_DiagramCount.f k t280 t281 t284).bind fun t293 => ((spec_DiagramCount.f k t280 t281 t284).bind fun t294 => (laws_FnDiagramRow.j0 k t284 t286 (t293 != t294) t280 t281))) = some r := by rw [if_pos rfl] at H; exact H
    clear H
    have H := H1
    clear H1
    replace H := Option.bind_eq_some_iff.mp H
    obtain ⟨t293, A140, H⟩ := H
    replace H : ((spec_DiagramCount.f k t280 t281 t284).bind fun t294 => (laws_FnDiagramRow.j0 k t284 t286 (t293 != t294) t280 t281)) = some r := H
    have A14 := Aside0.mk A140
    clear A140
    replace H := Option.bind_eq_some_iff.mp H
    obtain ⟨t294, A150, H⟩ := H
    replace H : (laws_FnDiagramRow.j0 k t284 t286 (t293 != t294) t280 t281) = some r := H
    have A15 := Aside0.mk A150
    clear A150
    have H' := Aside0.mk H
    clear H
    try go_wp2
    have n0_ := Aside0.mk (Kd.R_drew HO283.out)
    have n1_ := Aside0.mk (Kd.R_drew HO288.out)
    have n2_ := Aside0.mk (blk_drew BK285.out)
    have n3_ := Aside0.mk (below_drew1 HB.out)
    clear HO283
    clear HO288
    clear BK285
    clear HB
    have HO283 := n0_
    have HO288 := n1_
    have BK285 := n2_
    have HB := n3_
    clear n0_ n1_ n2_ n3_
    refine start_ (n := 15) (S := fun w' => w'.cell? ⟨gb285, 0, none⟩ = some (.int .i64 t280) ∧ w'.cell? ⟨gb285, 1, none⟩ = some (.slice Ao9 t281.length co9)) (ds := []) (Pt.bm 15 0) (by kernel_rfl) rfl rfl ⟨(blk_cell BK285.out 0).trans rfl, (blk_cell BK285.out 1).trans rfl⟩ (fun hHeld => ?_); refine with_tabW laws_FnDiagramRow.tab5 laws_FnDiagramRow.bits5 (fun HT_ HW_ => ?_)
    generalize w10.drew = w16 at HO283 HO288 BK285 HB hHeld ⊢
    refine Pt.pu 0 (some 22) (Pt.bm 15 1) (any_of HT_.out (by kernel_rfl)) ?_
    refine Pt.pu 2 (some 24) (Pt.bm 15 5) (any_of HT_.out (by kernel_rfl)) ?_
    refine Pt.tk 1 (some 23) (Pt.bm 15 7) rfl rfl (take_ofW HT_.out HW_.out (by kernel_rfl)) hHeld (Or.inl ⟨by rfl, by rintro w' ⟨s0, s1⟩; go_simp; with_reducible rfl⟩) ?_
    refine one_ (i := 3) (N := some 25) (Pt.bm 15 15) rfl rfl (one_of HT_.out (by kernel_rfl)) (by decide) (fun K hK => ?_)
    refine goes_ Try.func45 (by kernel_rfl) rfl #[.agg #[.int .i64 t280, .slice Ao9 t281.length co9], .int .i64 t284] (by rfl) rfl rfl lmB ?_
    with_reducible refine (spec_DiagramRow.calls k t280 _ _ t281 t284 t289 _ ?side1 ?side2 A11.out).mono ?_
    (case side1 => repeat (first | exact (Kd.R_reads' HO283.out).2.2 | (with_reducible refine Kd.C_alloc ?_ _) | (with_reducible refine Kd.C_drewN ?_ _) | (with_reducible refine Kd.C_drew ?_)))
    (case side2 => exact (Kd.R_reads' HO283.out).2.1)
    rintro e w17 ⟨v290, rfl, ho0, hb⟩
    refine ⟨_, rfl, ?_⟩
    have n0_ := Aside0.mk (Kd.R_below (rvR HO283.out) hb)
    have n1_ := Aside0.mk (Kd.R_elder' (rvR HO288.out) (Kd.R_base ho0) hb)
    have n2_ := Aside0.mk (Kd.R_lower (Kd.R_new' ho0 (Kd.R_lt (rvR HO288.out))) (below_size (by repeat (first | (with_reducible first | exact HB.out | apply bwA | apply bwN | apply bwD | refine below_set ?_ GE285.out) | exact HB.out))))
    have n3_ := Aside0.mk (blk_below (g := gb285) (o := .cells #[.int .i64 t280, .slice Ao9 t281.length co9] 25 (0, 0)) (bvK BK285.out) hb)
    have n4_ := Aside0.mk (below_step (by repeat (first | (with_reducible first | exact HB.out | apply bwA | apply bwN | apply bwD | refine below_set ?_ GE285.out) | exact HB.out)) hb)
    clear HO283
    clear HO288
    clear BK285
    clear HB
    have HO283 := n0_
    have HO288 := n1_
    have HO291 := n2_
    have BK285 := n3_
    have HB := n4_
    clear n0_ n1_ n2_ n3_ n4_
    (try clear hb)
    (try clear hb2)
    (try clear hk)
    (try clear hi)
    (try clear ho0)
    obtain ⟨Ao18, co18, eo18⟩ := Kd.R_slice HO288.out
    (first | subst eo18 | (injection eo18 with f1_ f2_ f3_; have f4_ := f1_.symm; have f5_ := f3_.symm; clear f1_ f2_ f3_; subst f4_; subst f5_))
    obtain ⟨Ao19, co19, eo19⟩ := Kd.R_slice HO291.out
    (first | subst eo19 | (injection eo19 with f1_ f2_ f3_; have f4_ := f1_.symm; have f5_ := f3_.symm; clear f1_ f2_ f3_; subst f4_; subst f5_))
    refine hK.out _ _ ⟨(blk_cell BK285.out 0).trans rfl, (blk_cell BK285.out 1).trans rfl⟩ (fun hHeld => ?_)
    clear hK K
    refine norm_ (a' := ?_) ?_ ?_
    rotate_left
    ·show Act.put _ (some 25) _ = _
     simp only [Act.put, List.setIfInBounds_toArray, List.set_cons_zero, List.set_cons_succ, i64_w, i32_w]
     rfl
    refine one_ (i := 4) (N := some 26) (Pt.bm 15 31) rfl rfl (one_of HT_.out (by kernel_rfl)) (by decide) (fun K hK => ?_)
    refine goes_ Try.func44 (by kernel_rfl) rfl #[.slice Ao18 t286.length co18, .slice Ao19 t289.length co19] (by rfl) rfl rfl lmB ?_
    with_reducible refine (laws_wcInts.calls k _ _ t286 _ _ t289 true _ ?side1 ?side2 ?side3 ?side4 A12.out).mono ?_
    (case side1 => repeat (first | exact (Kd.R_reads' HO288.out).2.2 | (with_reducible refine Kd.C_alloc ?_ _) | (with_reducible refine Kd.C_drewN ?_ _) | (with_reducible refine Kd.C_drew ?_)))
    (case side2 => exact (Kd.R_reads' HO288.out).2.1)
    (case side3 => repeat (first | exact (Kd.R_reads' HO291.out).2.2 | (with_reducible refine Kd.C_alloc ?_ _) | (with_reducible refine Kd.C_drewN ?_ _) | (with_reducible refine Kd.C_drew ?_)))
    (case side4 => exact (Kd.R_reads' HO291.out).2.1)
    rintro e w' ⟨rfl, ⟨nd, rfl⟩⟩
    refine ⟨_, rfl, ?_⟩
    refine hK.out _ _ ⟨(blk_cell BK285.out 0).trans rfl, (blk_cell BK285.out 1).trans rfl⟩ (fun hHeld => ?_)
    clear hK K
    refine norm_ (a' := ?_) ?_ ?_
    rotate_left
    ·show Act.put _ (some 26) _ = _
     simp only [Act.put, List.setIfInBounds_toArray, List.set_cons_zero, List.set_cons_succ, i64_w, i32_w]
     rfl
    refine Pt.pu 5 (some 27) (Pt.bm 15 63) (any_of HT_.out (by kernel_rfl)) ?_
    refine Pt.pu 6 (some 28) (Pt.bm 15 127) (any_of HT_.out (by kernel_rfl)) ?_
    refine Pt.pu 8 (some 30) (Pt.bm 15 383) (any_of HT_.out (by kernel_rfl)) ?_
    refine Pt.pu 11 (some 33) (Pt.bm 15 2431) (any_of HT_.out (by kernel_rfl)) ?_
    refine Pt.tk 7 (some 29) (Pt.bm 15 2559) rfl rfl (take_ofW HT_.out HW_.out (by kernel_rfl)) hHeld (Or.inl ⟨by rfl, by rintro w' ⟨s0, s1⟩; go_simp; with_reducible rfl⟩) ?_
    refine Pt.tk 10 (some 32) (Pt.bm 15 3583) rfl rfl (take_ofW HT_.out HW_.out (by kernel_rfl)) hHeld (Or.inl ⟨by rfl, by rintro w' ⟨s0, s1⟩; go_simp; with_reducible rfl⟩) ?_
    refine one_ (i := 9) (N := some 31) (Pt.bm 15 4095) rfl rfl (one_of HT_.out (by kernel_rfl)) (by decide) (fun K hK => ?_)
    refine goes_ Try.func29 (by kernel_rfl) rfl #[.agg #[.int .i64 t280, .slice Ao9 t281.length co9], .int .i64 t284] (by rfl) rfl rfl lmB ?_
    with_reducible refine (impl_DiagramCount.calls k t280 _ _ t281 t284 t293 _ ?side1 ?side2 A14.out).mono ?_
    (case side1 => repeat (first | exact (Kd.R_reads' HO283.out).2.2 | (with_reducible refine Kd.C_alloc ?_ _) | (with_reducible refine Kd.C_drewN ?_ _) | (with_reducible refine Kd.C_drew ?_)))
    (case side2 => exact (Kd.R_reads' HO283.out).2.1)
    rintro e w20 ⟨rfl, hb⟩
    refine ⟨_, rfl, ?_⟩
    have n0_ := Aside0.mk (Kd.R_below (rvR HO283.out) hb)
    have n1_ := Aside0.mk (Kd.R_below (rvR HO288.out) hb)
    have n2_ := Aside0.mk (Kd.R_below (rvR HO291.out) hb)
    have n3_ := Aside0.mk (blk_below (g := gb285) (o := .cells #[.int .i64 t280, .slice Ao9 t281.length co9] 25 (0, 0)) (bvK BK285.out) hb)
    have n4_ := Aside0.mk (below_step (by repeat (first | (with_reducible first | exact HB.out | apply bwA | apply bwN | apply bwD | refine below_set ?_ GE285.out) | exact HB.out)) hb)
    clear HO283
    clear HO288
    clear HO291
    clear BK285
    clear HB
    have HO283 := n0_
    have HO288 := n1_
    have HO291 := n2_
    have BK285 := n3_
    have HB := n4_
    clear n0_ n1_ n2_ n3_ n4_
    (try clear hb)
    (try clear hb2)
    (try clear hk)
    (try clear hi)
    refine hK.out _ _ ⟨(blk_cell BK285.out 0).trans rfl, (blk_cell BK285.out 1).trans rfl⟩ (fun hHeld => ?_)
    clear hK K
    refine norm_ (a' := ?_) ?_ ?_
    rotate_left
    ·show Act.put _ (some 31) _ = _
     simp only [Act.put, List.setIfInBounds_toArray, List.set_cons_zero, List.set_cons_succ, i64_w, i32_w]
     rfl
    refine one_ (i := 12) (N := some 34) (Pt.bm 15 8191) rfl rfl (one_of HT_.out (by kernel_rfl)) (by decide) (fun K hK => ?_)
    refine goes_ Try.func46 (by kernel_rfl) rfl #[.agg #[.int .i64 t280, .slice Ao9 t281.length co9], .int .i64 t284] (by rfl) rfl rfl lmB ?_
    with_reducible refine (spec_DiagramCount.calls k t280 _ _ t281 t284 t294 _ ?side1 ?side2 A15.out).mono ?_
    (case side1 => repeat (first | exact (Kd.R_reads' HO283.out).2.2 | (with_reducible refine Kd.C_alloc ?_ _) | (with_reducible refine Kd.C_drewN ?_ _) | (with_reducible refine Kd.C_drew ?_)))
    (case side2 => exact (Kd.R_reads' HO283.out).2.1)
    rintro e w21 ⟨rfl, hb⟩
    refine ⟨_, rfl, ?_⟩
    have n0_ := Aside0.mk (Kd.R_below (rvR HO283.out) hb)
    have n1_ := Aside0.mk (Kd.R_below (rvR HO288.out) hb)
    have n2_ := Aside0.mk (Kd.R_below (rvR HO291.out) hb)
    have n3_ := Aside0.mk (blk_below (g := gb285) (o := .cells #[.int .i64 t280, .slice Ao9 t281.length co9] 25 (0, 0)) (bvK BK285.out) hb)
    have n4_ := Aside0.mk (below_step (by repeat (first | (with_reducible first | exact HB.out | apply bwA | apply bwN | apply bwD | refine below_set ?_ GE285.out) | exact HB.out)) hb)
    clear HO283
    clear HO288
    clear HO291
    clear BK285
    clear HB
    have HO283 := n0_
    have HO288 := n1_
    have HO291 := n2_
    have BK285 := n3_
    have HB := n4_
    clear n0_ n1_ n2_ n3_ n4_
    (try clear hb)
    (try clear hb2)
    (try clear hk)
    (try clear hi)
    refine hK.out _ _ ⟨(blk_cell BK285.out 0).trans rfl, (blk_cell BK285.out 1).trans rfl⟩ (fun hHeld => ?_)
    clear hK K
    refine norm_ (a' := ?_) ?_ ?_
    rotate_left
    ·show Act.put _ (some 34) _ = _
     simp only [Act.put, List.setIfInBounds_toArray, List.set_cons_zero, List.set_cons_succ, i64_w, i32_w]
     rfl
    refine Pt.pu 13 (some 35) (Pt.bm 15 16383) (any_of HT_.out (by kernel_rfl)) ?_
    refine Pt.pu 14 (some 36) (Pt.bm 15 32767) (any_of HT_.out (by kernel_rfl)) ?_
    refine done_ (done_of HT_.out (by kernel_rfl)) ?_
    try go_wp2
    go_meet
    case rel => exact ⟨_, ((t293 != t294)), rsd, H', ⟨by first | omega | exact Nat.le_refl _⟩, ⟨by (with_reducible repeat (first | apply Kd.R_alloc | apply Kd.R_drewN | apply Kd.R_drew)); exact Kd.R_mono HO288.out (fun _ hk => trivial)⟩, ⟨rvR HO283.out⟩, ⟨bvK BK285.out⟩, ⟨by repeat (first | (with_reducible first | exact HB.out | apply bwA | apply bwN | apply bwD | refine below_set ?_ GE285.out) | exact HB.out)⟩⟩
   ·replace c13 := Bool.eq_false_iff.mpr c13
    subst c13
    have H1 : (laws_FnDiagramRow.j0 k t284 t286 true t280 t281) = some r := by rw [if_neg (show ¬ (false = true) by decide)] at H; exact H
    clear H
    have H := H1
    clear H1
    have H' := Aside0.mk H
    clear H
    try go_wp2
    have n0_ := Aside0.mk (Kd.R_drew HO283.out)
    have n1_ := Aside0.mk (Kd.R_drew HO288.out)
    have n2_ := Aside0.mk (blk_drew BK285.out)
    have n3_ := Aside0.mk (below_drew1 HB.out)
    clear HO283
    clear HO288
    clear BK285
    clear HB
    have HO283 := n0_
    have HO288 := n1_
    have BK285 := n2_
    have HB := n3_
    clear n0_ n1_ n2_ n3_
    refine start_ (n := 15) (S := fun w' => w'.cell? ⟨gb285, 0, none⟩ = some (.int .i64 t280) ∧ w'.cell? ⟨gb285, 1, none⟩ = some (.slice Ao9 t281.length co9)) (ds := []) (Pt.bm 15 0) (by kernel_rfl) rfl rfl ⟨(blk_cell BK285.out 0).trans rfl, (blk_cell BK285.out 1).trans rfl⟩ (fun hHeld => ?_); refine with_tabW laws_FnDiagramRow.tab5 laws_FnDiagramRow.bits5 (fun HT_ HW_ => ?_)
    generalize w10.drew = w22 at HO283 HO288 BK285 HB hHeld ⊢
    refine Pt.pu 0 (some 22) (Pt.bm 15 1) (any_of HT_.out (by kernel_rfl)) ?_
    refine Pt.pu 2 (some 24) (Pt.bm 15 5) (any_of HT_.out (by kernel_rfl)) ?_
    refine Pt.tk 1 (some 23) (Pt.bm 15 7) rfl rfl (take_ofW HT_.out HW_.out (by kernel_rfl)) hHeld (Or.inl ⟨by rfl, by rintro w' ⟨s0, s1⟩; go_simp; with_reducible rfl⟩) ?_
    refine one_ (i := 3) (N := some 25) (Pt.bm 15 15) rfl rfl (one_of HT_.out (by kernel_rfl)) (by decide) (fun K hK => ?_)
    refine goes_ Try.func45 (by kernel_rfl) rfl #[.agg #[.int .i64 t280, .slice Ao9 t281.length co9], .int .i64 t284] (by rfl) rfl rfl lmB ?_
    with_reducible refine (spec_DiagramRow.calls k t280 _ _ t281 t284 t289 _ ?side1 ?side2 A11.out).mono ?_
    (case side1 => repeat (first | exact (Kd.R_reads' HO283.out).2.2 | (with_reducible refine Kd.C_alloc ?_ _) | (with_reducible refine Kd.C_drewN ?_ _) | (with_reducible refine Kd.C_drew ?_)))
    (case side2 => exact (Kd.R_reads' HO283.out).2.1)
    rintro e w23 ⟨v290, rfl, ho0, hb⟩
    refine ⟨_, rfl, ?_⟩
    have n0_ := Aside0.mk (Kd.R_below (rvR HO283.out) hb)
    have n1_ := Aside0.mk (Kd.R_elder' (rvR HO288.out) (Kd.R_base ho0) hb)
    have n2_ := Aside0.mk (Kd.R_lower (Kd.R_new' ho0 (Kd.R_lt (rvR HO288.out))) (below_size (by repeat (first | (with_reducible first | exact HB.out | apply bwA | apply bwN | apply bwD | refine below_set ?_ GE285.out) | exact HB.out))))
    have n3_ := Aside0.mk (blk_below (g := gb285) (o := .cells #[.int .i64 t280, .slice Ao9 t281.length co9] 25 (0, 0)) (bvK BK285.out) hb)
    have n4_ := Aside0.mk (below_step (by repeat (first | (with_reducible first | exact HB.out | apply bwA | apply bwN | apply bwD | refine below_set ?_ GE285.out) | exact HB.out)) hb)
    clear HO283
    clear HO288
    clear BK285
    clear HB
    have HO283 := n0_
    have HO288 := n1_
    have HO291 := n2_
    have BK285 := n3_
    have HB := n4_
    clear n0_ n1_ n2_ n3_ n4_
    (try clear hb)
    (try clear hb2)
    (try clear hk)
    (try clear hi)
    (try clear ho0)
    obtain ⟨Ao24, co24, eo24⟩ := Kd.R_slice HO288.out
    (first | subst eo24 | (injection eo24 with f1_ f2_ f3_; have f4_ := f1_.symm; have f5_ := f3_.symm; clear f1_ f2_ f3_; subst f4_; subst f5_))
    obtain ⟨Ao25, co25, eo25⟩ := Kd.R_slice HO291.out
    (first | subst eo25 | (injection eo25 with f1_ f2_ f3_; have f4_ := f1_.symm; have f5_ := f3_.symm; clear f1_ f2_ f3_; subst f4_; subst f5_))
    refine hK.out _ _ ⟨(blk_cell BK285.out 0).trans rfl, (blk_cell BK285.out 1).trans rfl⟩ (fun hHeld => ?_)
    clear hK K
    refine norm_ (a' := ?_) ?_ ?_
    rotate_left
    ·show Act.put _ (some 25) _ = _
     simp only [Act.put, List.setIfInBounds_toArray, List.set_cons_zero, List.set_cons_succ, i64_w, i32_w]
     rfl
    refine one_ (i := 4) (N := some 26) (Pt.bm 15 31) rfl rfl (one_of HT_.out (by kernel_rfl)) (by decide) (fun K hK => ?_)
    refine goes_ Try.func44 (by kernel_rfl) rfl #[.slice Ao24 t286.length co24, .slice Ao25 t289.length co25] (by rfl) rfl rfl lmB ?_
    with_reducible refine (laws_wcInts.calls k _ _ t286 _ _ t289 false _ ?side1 ?side2 ?side3 ?side4 A12.out).mono ?_
    (case side1 => repeat (first | exact (Kd.R_reads' HO288.out).2.2 | (with_reducible refine Kd.C_alloc ?_ _) | (with_reducible refine Kd.C_drewN ?_ _) | (with_reducible refine Kd.C_drew ?_)))
    (case side2 => exact (Kd.R_reads' HO288.out).2.1)
    (case side3 => repeat (first | exact (Kd.R_reads' HO291.out).2.2 | (with_reducible refine Kd.C_alloc ?_ _) | (with_reducible refine Kd.C_drewN ?_ _) | (with_reducible refine Kd.C_drew ?_)))
    (case side4 => exact (Kd.R_reads' HO291.out).2.1)
    rintro e w' ⟨rfl, ⟨nd, rfl⟩⟩
    refine ⟨_, rfl, ?_⟩
    refine hK.out _ _ ⟨(blk_cell BK285.out 0).trans rfl, (blk_cell BK285.out 1).trans rfl⟩ (fun hHeld => ?_)
    clear hK K
    refine norm_ (a' := ?_) ?_ ?_
    rotate_left
    ·show Act.put _ (some 26) _ = _
     simp only [Act.put, List.setIfInBounds_toArray, List.set_cons_zero, List.set_cons_succ, i64_w, i32_w]
     rfl
    refine Pt.pu 5 (some 27) (Pt.bm 15 63) (any_of HT_.out (by kernel_rfl)) ?_
    refine Pt.pu 6 (some 28) (Pt.bm 15 127) (any_of HT_.out (by kernel_rfl)) ?_
    refine Pt.pn 7 (some 29) (Pt.bm 15 255) (any_of HT_.out (by kernel_rfl)) ?_
    refine Pt.pn 8 (some 30) (Pt.bm 15 511) (any_of HT_.out (by kernel_rfl)) ?_
    refine Pt.pn 9 (some 31) (Pt.bm 15 1023) (any_of HT_.out (by kernel_rfl)) ?_
    refine Pt.pn 10 (some 32) (Pt.bm 15 2047) (any_of HT_.out (by kernel_rfl)) ?_
    refine Pt.pn 11 (some 33) (Pt.bm 15 4095) (any_of HT_.out (by kernel_rfl)) ?_
    refine Pt.pn 12 (some 34) (Pt.bm 15 8191) (any_of HT_.out (by kernel_rfl)) ?_
    refine Pt.pn 13 (some 35) (Pt.bm 15 16383) (any_of HT_.out (by kernel_rfl)) ?_
    refine Pt.pu 14 (some 36) (Pt.bm 15 32767) (any_of HT_.out (by kernel_rfl)) ?_
    refine done_ (done_of HT_.out (by kernel_rfl)) ?_
    try go_wp2
    go_meet
    case rel => exact ⟨_, (true), rsd, H', ⟨by first | omega | exact Nat.le_refl _⟩, ⟨by (with_reducible repeat (first | apply Kd.R_alloc | apply Kd.R_drewN | apply Kd.R_drew)); exact Kd.R_mono HO288.out (fun _ hk => trivial)⟩, ⟨rvR HO283.out⟩, ⟨bvK BK285.out⟩, ⟨by repeat (first | (with_reducible first | exact HB.out | apply bwA | apply bwN | apply bwD | refine below_set ?_ GE285.out) | exact HB.out)⟩⟩
  case rest =>
   clear HC5
   try clear c1
   try clear c2
   try clear c2b0
   try clear c2b1
   try clear p2
   try clear c4
   try clear c12
   try clear c13
   try clear hcz8_0
   try clear hcz8_1
   try clear hfz8_0
   try clear hfz8_1
   obtain ⟨kq, x36_4, rfl, HA, HJ4, HO_5, HO_286001, BK285, HB⟩ := hcut
   cases kq with
   | zero => exact absurd HA.out (by simp [laws_FnDiagramRow.j0])
   | succ kj4 =>
    have H := HA.out
    clear HA
    simp only [laws_FnDiagramRow.j0] at H
    by_cases c26 : x36_4 = true
    ·subst c26
     have H1 : (some false) = some r := by rw [if_pos rfl] at H; exact H
     clear H
     have H := H1
     clear H1
     obtain rfl := Option.some.inj H
     go_wp2
     go_ret
     exact ⟨ers, by repeat (first | (with_reducible first | exact HB.out | apply bwA | apply bwN | apply bwD | refine below_set ?_ GE285.out) | exact HB.out)⟩
    ·replace c26 := Bool.eq_false_iff.mpr c26
     subst c26
     have H1 : (if (t286.length : Int) = 0 then ((impl_DiagramCount.f kj4 t280 t281 t284).bind fun t295 => (if t295 ≤ 0 then (some true) else (some (t280 == 0)))) else ((impl_DiagramValue.f kj4 t280 t281 t284 t286).bind fun t296 => (if t296 = 1 then (laws_FnDiagramRow.l0 kj4 t284 t286 t286 (t286.length : Int) 0 t280 t281) else (some false)))) = some r := by rw [if_neg (show ¬ (false = true) by decide)] at H; exact H
     clear H
     have H := H1
     clear H1
     by_cases c27 : (t286.length : Int) = 0
     ·rw [if_pos c27] at H
      have c27b0 : ((t286.length : Int) == 0) = true := beq_iff_eq.mpr c27
      have c27b1 : ((t286.length : Int) != 0) = false := bne_eq_false_iff_eq.mpr c27
      clear c27
      replace H := Option.bind_eq_some_iff.mp H
      obtain ⟨t295, A280, H⟩ := H
      replace H : (if t295 ≤ 0 then (some true) else (some (t280 == 0))) = some r := H
      have A28 := Aside0.mk A280
      clear A280
      by_cases c29 : t295 ≤ 0
      ·rw [if_pos c29] at H
       have c29b0 : decide (t295 ≤ 0) = true := decide_eq_true c29
       clear c29
       obtain rfl := Option.some.inj H
       obtain ⟨Ao30, co30, eo30⟩ := Kd.R_slice HO_5.out
       subst eo30
       have hcz31_0 : wc.cell? ⟨gb285, 0, none⟩ = some (.int .i64 t280) := (blk_cell BK285.out 0).trans rfl
       have hcz31_1 : wc.cell? ⟨gb285, 1, none⟩ = some (.slice Ao9 t281.length co9) := (blk_cell BK285.out 1).trans rfl
       have hfz31_0 := blk_frozen BK285.out 0
       have hfz31_1 := blk_frozen BK285.out 1
       go_wp2_with (first | ((with_reducible refine gate_callee (f := 29) rfl ?_); refine goesL_ (some 42) rfl rfl Try.func29 (by kernel_rfl) rfl #[.agg #[.int .i64 t280, .slice Ao9 t281.length co9], .int .i64 t284] rfl lmB ?_; (with_reducible refine (impl_DiagramCount.calls kj4 t280 _ _ t281 t284 t295 _ ?side1 ?side2 A28.out).mono ?_); (case side1 => repeat (first | exact (Kd.R_reads' HO_286001.out).2.2 | (with_reducible refine Kd.C_alloc ?_ _) | (with_reducible refine Kd.C_drewN ?_ _) | (with_reducible refine Kd.C_drew ?_))); (case side2 => exact (Kd.R_reads' HO_286001.out).2.1); rintro e w32 ⟨rfl, hb⟩; refine ⟨_, rfl, ?_⟩; have n0_ := Aside0.mk (Kd.R_below (rvR HO_5.out) hb); have n1_ := Aside0.mk (Kd.R_below (rvR HO_286001.out) hb); have n2_ := Aside0.mk (blk_below (g := gb285) (o := .cells #[.int .i64 t280, .slice Ao9 t281.length co9] 25 (0, 0)) (bvK BK285.out) hb); have n3_ := Aside0.mk (below_step (by repeat (first | (with_reducible first | exact HB.out | apply bwA | apply bwN | apply bwD | refine below_set ?_ GE285.out) | exact HB.out)) hb); clear HO_5; clear HO_286001; clear BK285; clear HB; have HO_5 := n0_; have HO_286001 := n1_; have BK285 := n2_; have HB := n3_; clear n0_ n1_ n2_ n3_; (try clear hb); (try clear hb2); (try clear hk); (try clear hi)))
       go_ret
       exact ⟨ers, by repeat (first | (with_reducible first | exact HB.out | apply bwA | apply bwN | apply bwD | refine below_set ?_ GE285.out) | exact HB.out)⟩
      ·rw [if_neg c29] at H
       have c29b0 : decide (t295 ≤ 0) = false := decide_eq_false c29
       clear c29
       obtain rfl := Option.some.inj H
       obtain ⟨Ao33, co33, eo33⟩ := Kd.R_slice HO_5.out
       subst eo33
       have hcz34_0 : wc.cell? ⟨gb285, 0, none⟩ = some (.int .i64 t280) := (blk_cell BK285.out 0).trans rfl
       have hcz34_1 : wc.cell? ⟨gb285, 1, none⟩ = some (.slice Ao9 t281.length co9) := (blk_cell BK285.out 1).trans rfl
       have hfz34_0 := blk_frozen BK285.out 0
       have hfz34_1 := blk_frozen BK285.out 1
       go_wp2_with (first | ((with_reducible refine gate_callee (f := 29) rfl ?_); refine goesL_ (some 42) rfl rfl Try.func29 (by kernel_rfl) rfl #[.agg #[.int .i64 t280, .slice Ao9 t281.length co9], .int .i64 t284] rfl lmB ?_; (with_reducible refine (impl_DiagramCount.calls kj4 t280 _ _ t281 t284 t295 _ ?side1 ?side2 A28.out).mono ?_); (case side1 => repeat (first | exact (Kd.R_reads' HO_286001.out).2.2 | (with_reducible refine Kd.C_alloc ?_ _) | (with_reducible refine Kd.C_drewN ?_ _) | (with_reducible refine Kd.C_drew ?_))); (case side2 => exact (Kd.R_reads' HO_286001.out).2.1); rintro e w35 ⟨rfl, hb⟩; refine ⟨_, rfl, ?_⟩; have n0_ := Aside0.mk (Kd.R_below (rvR HO_5.out) hb); have n1_ := Aside0.mk (Kd.R_below (rvR HO_286001.out) hb); have n2_ := Aside0.mk (blk_below (g := gb285) (o := .cells #[.int .i64 t280, .slice Ao9 t281.length co9] 25 (0, 0)) (bvK BK285.out) hb); have n3_ := Aside0.mk (below_step (by repeat (first | (with_reducible first | exact HB.out | apply bwA | apply bwN | apply bwD | refine below_set ?_ GE285.out) | exact HB.out)) hb); clear HO_5; clear HO_286001; clear BK285; clear HB; have HO_5 := n0_; have HO_286001 := n1_; have BK285 := n2_; have HB := n3_; clear n0_ n1_ n2_ n3_; (try clear hb); (try clear hb2); (try clear hk); (try clear hi); have hcz36_0 : w35.cell? ⟨gb285, 0, none⟩ = some (.int .i64 t280) := (blk_cell BK285.out 0).trans rfl; have hcz36_1 : w35.cell? ⟨gb285, 1, none⟩ = some (.slice Ao9 t281.length co9) := (blk_cell BK285.out 1).trans rfl; have hfz36_0 := blk_frozen BK285.out 0; have hfz36_1 := blk_frozen BK285.out 1))
       go_ret
       exact ⟨ers, by repeat (first | (with_reducible first | exact HB.out | apply bwA | apply bwN | apply bwD | refine below_set ?_ GE285.out) | exact HB.out)⟩
     ·rw [if_neg c27] at H
      have c27b0 : ((t286.length : Int) == 0) = false := beq_eq_false_iff_ne.mpr c27
      have c27b1 : ((t286.length : Int) != 0) = true := bne_iff_ne.mpr c27
      have c27b2 : ¬ (t286 = []) := fun h_ => c27 (by rw [h_]; rfl)
      replace H := Option.bind_eq_some_iff.mp H
      obtain ⟨t296, A370, H⟩ := H
      replace H : (if t296 = 1 then (laws_FnDiagramRow.l0 kj4 t284 t286 t286 (t286.length : Int) 0 t280 t281) else (some false)) = some r := H
      have A37 := Aside0.mk A370
      clear A370
      by_cases c38 : t296 = 1
      ·rw [if_pos c38] at H
       have c38b0 : (t296 == 1) = true := beq_iff_eq.mpr c38
       have c38b1 : (t296 != 1) = false := bne_eq_false_iff_eq.mpr c38
       clear c38
       have H' := Aside0.mk H
       clear H
       obtain ⟨Ao39, co39, eo39⟩ := Kd.R_slice HO_5.out
       subst eo39
       have hcz40_0 : wc.cell? ⟨gb285, 0, none⟩ = some (.int .i64 t280) := (blk_cell BK285.out 0).trans rfl
       have hcz40_1 : wc.cell? ⟨gb285, 1, none⟩ = some (.slice Ao9 t281.length co9) := (blk_cell BK285.out 1).trans rfl
       have hfz40_0 := blk_frozen BK285.out 0
       have hfz40_1 := blk_frozen BK285.out 1
       go_wp2_with (first | ((with_reducible refine gate_callee (f := 34) rfl ?_); refine goesL_ (some 52) rfl rfl Try.func34 (by kernel_rfl) rfl #[.agg #[.int .i64 t280, .slice Ao9 t281.length co9], .int .i64 t284, .slice Ao39 t286.length co39] rfl lmB ?_; (with_reducible refine (impl_DiagramValue.calls kj4 t280 _ _ t281 t284 _ _ t286 t296 _ ?side1 ?side2 ?side3 ?side4 A37.out).mono ?_); (case side1 => repeat (first | exact (Kd.R_reads' HO_286001.out).2.2 | (with_reducible refine Kd.C_alloc ?_ _) | (with_reducible refine Kd.C_drewN ?_ _) | (with_reducible refine Kd.C_drew ?_))); (case side2 => exact (Kd.R_reads' HO_286001.out).2.1); (case side3 => repeat (first | exact (Kd.R_reads' HO_5.out).2.2 | (with_reducible refine Kd.C_alloc ?_ _) | (with_reducible refine Kd.C_drewN ?_ _) | (with_reducible refine Kd.C_drew ?_))); (case side4 => exact (Kd.R_reads' HO_5.out).2.1); rintro e w41 ⟨rfl, hb⟩; refine ⟨_, rfl, ?_⟩; have n0_ := Aside0.mk (Kd.R_below (rvR HO_5.out) hb); have n1_ := Aside0.mk (Kd.R_below (rvR HO_286001.out) hb); have n2_ := Aside0.mk (blk_below (g := gb285) (o := .cells #[.int .i64 t280, .slice Ao9 t281.length co9] 25 (0, 0)) (bvK BK285.out) hb); have n3_ := Aside0.mk (below_step (by repeat (first | (with_reducible first | exact HB.out | apply bwA | apply bwN | apply bwD | refine below_set ?_ GE285.out) | exact HB.out)) hb); clear HO_5; clear HO_286001; clear BK285; clear HB; have HO_5 := n0_; have HO_286001 := n1_; have BK285 := n2_; have HB := n3_; clear n0_ n1_ n2_ n3_; (try clear hb); (try clear hb2); (try clear hk); (try clear hi)))
       go_loopg [56] kj4 (fun kq v56 w' => ∃ (x56_2 : Int), v56 = .int .i64 x56_2 ∧ Aside0 (laws_FnDiagramRow.l0 kq t284 t286 t286 (t286.length : Int) x56_2 t280 t281 = some r) ∧ Aside0 (kq ≤ kj4) ∧ Aside0 (Kd.R (Kd.int .i64) 3 w' w.heap.size (fun _ => True) (.slice Ao39 t286.length co39) t286) ∧ Aside0 (Kd.R (Kd.int .i64) 3 w' w.heap.size (fun _ => True) (.slice Ao39 t286.length co39) t286) ∧ Aside0 (Kd.R k71 71 w' w.heap.size (fun _ => True) (.slice Ao9 t281.length co9) t281) ∧ Aside0 (w'.heap[gb285]? = some (.cells #[.int .i64 t280, (.slice Ao9 t281.length co9)] 25 (0, 0))) ∧ Aside0 (Below w.heap.size w w'))
       case atStart => exact ⟨(0), rsd, H', ⟨Nat.le_refl _⟩, ⟨rvR HO_5.out⟩, ⟨rvR HO_5.out⟩, ⟨rvR HO_286001.out⟩, ⟨bvK BK285.out⟩, ⟨by repeat (first | (with_reducible first | exact HB.out | apply bwA | apply bwN | apply bwD | refine below_set ?_ GE285.out) | exact HB.out)⟩⟩
       case round =>
        clear H'
        try clear c1
        try clear c2
        try clear c2b0
        try clear c2b1
        try clear p2
        try clear c3
        try clear c4
        try clear c12
        try clear c13
        try clear c26
        try clear c27
        try clear c27b0
        try clear c27b1
        try clear c27b2
        try clear c29
        try clear c29b0
        try clear c34
        try clear c38
        try clear c38b0
        try clear c38b1
        try clear hcz31_0
        try clear hcz31_1
        try clear hcz34_0
        try clear hcz34_1
        try clear hcz36_0
        try clear hcz36_1
        try clear hcz40_0
        try clear hcz40_1
        try clear hcz8_0
        try clear hcz8_1
        try clear hfz31_0
        try clear hfz31_1
        try clear hfz34_0
        try clear hfz34_1
        try clear hfz36_0
        try clear hfz36_1
        try clear hfz40_0
        try clear hfz40_1
        try clear hfz8_0
        try clear hfz8_1
        try clear p2
        obtain ⟨x56_2, rfl, HA, HK2, HO_5, HO_54, HO_286001, BK285, HB⟩ := hrel
        cases gk with
        | zero => exact absurd HA.out (by simp [laws_FnDiagramRow.l0])
        | succ k2 =>
         have H := HA.out
         clear HA
         simp only [laws_FnDiagramRow.l0] at H
         by_cases c42 : x56_2 < (t286.length : Int)
         ·rw [if_pos c42] at H
          have c42b0 : decide (x56_2 < (t286.length : Int)) = true := decide_eq_true c42
          clear c42
          by_cases c43 : 0 ≤ x56_2
          ·rw [if_pos c43] at H
           have c43b0 : decide (0 ≤ x56_2) = true := decide_eq_true c43
           clear c43
           by_cases c44 : x56_2 < (t286.length : Int)
           ·rw [if_pos c44] at H
            have c44b0 : decide (x56_2 < (t286.length : Int)) = true := decide_eq_true c44
            clear c44
            by_cases c45 : (rd t286 x56_2) = 0
            ·rw [if_pos c45] at H
             have c45b0 : ((rd t286 x56_2) == 0) = true := beq_iff_eq.mpr c45
             have c45b1 : ((rd t286 x56_2) != 0) = false := bne_eq_false_iff_eq.mpr c45
             clear c45
             have H' := Aside0.mk H
             clear H
             have p297 : 0 ≤ (x56_2 : Int) := oda
             have q297 : x56_2 < (t286.length : Int) := oda
             obtain ⟨ad297, e297, hx297_0⟩ := Kd.at_int (Kd.R_reads' HO_54.out).2.2 x56_2 p297 q297
             cases e297
             replace p297 := eq_true p297
             replace q297 := eq_true q297
             go_wp2
             go_roundg k2
             case measure => have := HJ4.out; have := HK2.out; omega
             case rel => exact ⟨(wrap64 (x56_2 + 1)), rsd, H', ⟨by have := HJ4.out; have := HK2.out; omega⟩, ⟨rvR HO_5.out⟩, ⟨rvR HO_54.out⟩, ⟨rvR HO_286001.out⟩, ⟨bvK BK285.out⟩, ⟨by repeat (first | (with_reducible first | exact HB.out | apply bwA | apply bwN | apply bwD | refine below_set ?_ GE285.out) | exact HB.out)⟩⟩
            ·rw [if_neg c45] at H
             have c45b0 : ((rd t286 x56_2) == 0) = false := beq_eq_false_iff_ne.mpr c45
             have c45b1 : ((rd t286 x56_2) != 0) = true := bne_iff_ne.mpr c45
             have H' := Aside0.mk H
             clear H
             have p297 : 0 ≤ (x56_2 : Int) := oda
             have q297 : x56_2 < (t286.length : Int) := oda
             obtain ⟨ad297, e297, hx297_0⟩ := Kd.at_int (Kd.R_reads' HO_54.out).2.2 x56_2 p297 q297
             cases e297
             replace p297 := eq_true p297
             replace q297 := eq_true q297
             have hcz46_0 : wr.cell? ⟨gb285, 0, none⟩ = some (.int .i64 t280) := (blk_cell BK285.out 0).trans rfl
             have hcz46_1 : wr.cell? ⟨gb285, 1, none⟩ = some (.slice Ao9 t281.length co9) := (blk_cell BK285.out 1).trans rfl
             have hfz46_0 := blk_frozen BK285.out 0
             have hfz46_1 := blk_frozen BK285.out 1
             go_wp2_with (first | ((with_reducible refine gate_dst (N := 8) rfl ?_); refine box_event ?hg (N := 8) ?hd (cs := #[.int .i64 0, .slice none 0 0]) (t := 25) ?hr ?_; (case hd => rfl); (case hg => rfl); (case hr => first | (go_simp; done) | (go_simp; rfl)); intro gb298 hg w47 hbox hb; have n0_ := Aside0.mk (Kd.R_below (rvR HO_5.out) hb); have n1_ := Aside0.mk (Kd.R_below (rvR HO_54.out) hb); have n2_ := Aside0.mk (Kd.R_below (rvR HO_286001.out) hb); have n3_ := Aside0.mk (blk_below (g := gb285) (o := .cells #[.int .i64 t280, .slice Ao9 t281.length co9] 25 (0, 0)) (bvK BK285.out) hb); have n4_ := Aside0.mk (below_step (by repeat (first | (with_reducible first | exact HB.out | apply bwA | apply bwN | apply bwD | refine below_set ?_ GE285.out) | exact HB.out)) hb); have n5_ := Aside0.mk (hbox); have n6_ := Aside0.mk ((by rw [hg]; exact (below_size (by repeat (first | (with_reducible first | exact HB.out | apply bwA | apply bwN | apply bwD | refine below_set ?_ GE285.out) | exact HB.out))) : w.heap.size ≤ gb298)); have n7_ := Aside0.mk ((by rw [hg]; exact (below_size (by repeat (first | (with_reducible first | exact HB.out | apply bwA | apply bwN | apply bwD | refine below_set ?_ GE285.out) | exact HB.out))) : w.heap.size ≤ gb298)); have n8_ := Aside0.mk ((by rw [hg]; exact Nat.ne_of_lt (blk_lt (g := gb285) (o := .cells #[.int .i64 t280, .slice Ao9 t281.length co9] 25 (0, 0)) (bvK BK285.out)) : gb285 ≠ gb298)); have n9_ := Aside0.mk ((by rw [hg]; exact Nat.ne_of_gt (blk_lt (g := gb285) (o := .cells #[.int .i64 t280, .slice Ao9 t281.length co9] 25 (0, 0)) (bvK BK285.out)) : gb298 ≠ gb285)); clear HO_5; clear HO_54; clear HO_286001; clear BK285; clear HB; have HO_5 := n0_; have HO_54 := n1_; have HO_286001 := n2_; have BK285 := n3_; have HB := n4_; have BK298 := n5_; have GW298 := n6_; have GE298 := n7_; have NB285_298 := n8_; have NB298_285 := n9_; clear n0_ n1_ n2_ n3_ n4_ n5_ n6_ n7_ n8_ n9_; clear hb hbox hg; have hnb48 := NB298_285.out; have hnc48 := NB285_298.out; have hcz49_0 : w47.cell? ⟨gb298, 0, none⟩ = some (.int .i64 0) := (blk_cell BK298.out 0).trans rfl; have hcz49_1 : w47.cell? ⟨gb298, 1, none⟩ = some (.slice none 0 0) := (blk_cell BK298.out 1).trans rfl; have hfz49_0 := blk_frozen BK298.out 0; have hfz49_1 := blk_frozen BK298.out 1))
             go_loopg [9, 66] k2 (fun kq v9 v66 w' => ∃ (x9_3 : Int) (x66_3 : Int) (x299000_3 : Int) (x299001_3 : List (S71)) (u299001 : Value), v9 = .int .i64 x9_3 ∧ v66 = .int .i64 x66_3 ∧ Aside0 (laws_FnDiagramRow.l1 kq t284 t286 x56_2 x9_3 t286 (t286.length : Int) x56_2 x56_2 x66_3 t280 t281 x299000_3 x299001_3 = some r) ∧ Aside0 (kq ≤ k2) ∧ Aside0 (Kd.R (Kd.int .i64) 3 w' w.heap.size (fun _ => True) (.slice (some ad297) t286.length co39) t286) ∧ Aside0 (Kd.R (Kd.int .i64) 3 w' w.heap.size (fun _ => True) (.slice (some ad297) t286.length co39) t286) ∧ Aside0 (Kd.R k71 71 w' w.heap.size (fun _ => True) (.slice Ao9 t281.length co9) t281) ∧ Aside0 (Kd.R k71 71 w' w.heap.size (fun _ => True) u299001 x299001_3) ∧ Aside0 (w'.heap[gb285]? = some (.cells #[.int .i64 t280, (.slice Ao9 t281.length co9)] 25 (0, 0))) ∧ Aside0 (w'.heap[gb298]? = some (.cells #[.int .i64 x299000_3, u299001] 25 (0, 0))) ∧ Aside0 (Below w.heap.size w w'))
             case atStart => exact ⟨(t284), (0), (t280), (t281), (.slice Ao9 t281.length co9), rsd, rsd, H', ⟨Nat.le_refl _⟩, ⟨by (with_reducible repeat (first | apply Kd.R_alloc | apply Kd.R_drewN | apply Kd.R_drew)); exact Kd.R_mono (Kd.R_far (p := ⟨gb298, 1, none⟩) (Kd.R_far (p := ⟨gb298, 0, none⟩) (Kd.R_types HO_5.out BK298.out (by decide)) (fun _ hk => hk.2) (.int .i64 t280)) (fun _ hk => hk.2) (.slice Ao9 t281.length co9)) (fun _ hk => trivial)⟩, ⟨by (with_reducible repeat (first | apply Kd.R_alloc | apply Kd.R_drewN | apply Kd.R_drew)); exact Kd.R_mono (Kd.R_far (p := ⟨gb298, 1, none⟩) (Kd.R_far (p := ⟨gb298, 0, none⟩) (Kd.R_types HO_54.out BK298.out (by decide)) (fun _ hk => hk.2) (.int .i64 t280)) (fun _ hk => hk.2) (.slice Ao9 t281.length co9)) (fun _ hk => trivial)⟩, ⟨by (with_reducible repeat (first | apply Kd.R_alloc | apply Kd.R_drewN | apply Kd.R_drew)); exact Kd.R_mono (Kd.R_far (p := ⟨gb298, 1, none⟩) (Kd.R_far (p := ⟨gb298, 0, none⟩) (Kd.R_types HO_286001.out BK298.out (by decide)) (fun _ hk => hk.2) (.int .i64 t280)) (fun _ hk => hk.2) (.slice Ao9 t281.length co9)) (fun _ hk => trivial)⟩, ⟨by (with_reducible repeat (first | apply Kd.R_alloc | apply Kd.R_drewN | apply Kd.R_drew)); exact Kd.R_mono (Kd.R_far (p := ⟨gb298, 1, none⟩) (Kd.R_far (p := ⟨gb298, 0, none⟩) (Kd.R_types HO_286001.out BK298.out (by decide)) (fun _ hk => hk.2) (.int .i64 t280)) (fun _ hk => hk.2) (.slice Ao9 t281.length co9)) (fun _ hk => trivial)⟩, ⟨by (with_reducible repeat (first | refine blk_drewN ?_ _ | refine blk_drew ?_ | refine blk_alloc ?_ _)); refine blk_far ?_ NB285_298.out _; (with_reducible repeat (first | refine blk_drewN ?_ _ | refine blk_drew ?_ | refine blk_alloc ?_ _)); refine blk_far ?_ NB285_298.out _; (with_reducible repeat (first | refine blk_drewN ?_ _ | refine blk_drew ?_ | refine blk_alloc ?_ _)); exact BK285.out⟩, ⟨by (with_reducible repeat (first | refine blk_drewN ?_ _ | refine blk_drew ?_ | refine blk_alloc ?_ _)); refine blk_put (cs := #[.int .i64 t280, .slice none 0 0]) ?_ 1 _ rfl; (with_reducible repeat (first | refine blk_drewN ?_ _ | refine blk_drew ?_ | refine blk_alloc ?_ _)); refine blk_put (cs := #[.int .i64 0, .slice none 0 0]) ?_ 0 _ rfl; (with_reducible repeat (first | refine blk_drewN ?_ _ | refine blk_drew ?_ | refine blk_alloc ?_ _)); exact BK298.out⟩, ⟨by repeat (first | (with_reducible first | exact HB.out | apply bwA | apply bwN | apply bwD | refine below_set ?_ GE285.out | refine below_set ?_ GE298.out) | exact HB.out)⟩⟩
             case round =>
              clear H'
              try clear c1
              try clear c2
              try clear c2b0
              try clear c2b1
              try clear p2
              try clear q2
              try clear hx2
              try clear c3
              try clear c4
              try clear p6
              try clear c12
              try clear c13
              try clear c26
              try clear c27
              try clear c27b0
              try clear c27b1
              try clear c27b2
              try clear c29
              try clear c29b0
              try clear p29
              try clear q29
              try clear hx29
              try clear c34
              try clear c38
              try clear c38b0
              try clear c38b1
              try clear c42
              try clear c42b0
              try clear c43
              try clear c43b0
              try clear c44
              try clear c44b0
              try clear c45
              try clear c45b0
              try clear c45b1
              try clear c46
              try clear c48
              try clear hcz31_0
              try clear hcz31_1
              try clear hcz34_0
              try clear hcz34_1
              try clear hcz36_0
              try clear hcz36_1
              try clear hcz40_0
              try clear hcz40_1
              try clear hcz46_0
              try clear hcz46_1
              try clear hcz49_0
              try clear hcz49_1
              try clear hcz8_0
              try clear hcz8_1
              try clear hfz31_0
              try clear hfz31_1
              try clear hfz34_0
              try clear hfz34_1
              try clear hfz36_0
              try clear hfz36_1
              try clear hfz40_0
              try clear hfz40_1
              try clear hfz46_0
              try clear hfz46_1
              try clear hfz49_0
              try clear hfz49_1
              try clear hfz8_0
              try clear hfz8_1
              try clear hx297_0
              try clear p2
              try clear p297
              try clear q297
              obtain ⟨x9_3, x66_3, x299000_3, x299001_3, u299001, rfl, rfl, HA, HK3, HO_5, HO_54, HO_286001, HO_299001, BK285, BK298, HB⟩ := hrel
              cases gk with
              | zero => exact absurd HA.out (by simp [laws_FnDiagramRow.l1])
              | succ k3 =>
               have H := HA.out
               clear HA
               simp only [laws_FnDiagramRow.l1] at H
               by_cases c50 : x66_3 < x56_2
               ·rw [if_pos c50] at H
                have c50b0 : decide (x66_3 < x56_2) = true := decide_eq_true c50
                clear c50
                by_cases c51 : 0 ≤ x66_3
                ·rw [if_pos c51] at H
                 have c51b0 : decide (0 ≤ x66_3) = true := decide_eq_true c51
                 clear c51
                 by_cases c52 : x66_3 < (t286.length : Int)
                 ·rw [if_pos c52] at H
                  have c52b0 : decide (x66_3 < (t286.length : Int)) = true := decide_eq_true c52
                  clear c52
                  replace H := Option.bind_eq_some_iff.mp H
                  obtain ⟨⟨t300, t301, t304⟩, A530, H⟩ := H
                  replace H : (laws_FnDiagramRow.l1 k3 t284 t286 x56_2 t304 t286 (t286.length : Int) x56_2 x56_2 (wrap64 (x66_3 + 1)) t280 t281 t300 t301) = some r := H
                  have A53 := Aside0.mk A530
                  clear A530
                  have H' := Aside0.mk H
                  clear H
                  try go_wp2
                  have n0_ := Aside0.mk (Kd.R_drew HO_5.out)
                  have n1_ := Aside0.mk (Kd.R_drew HO_54.out)
                  have n2_ := Aside0.mk (Kd.R_drew HO_286001.out)
                  have n3_ := Aside0.mk (Kd.R_drew HO_299001.out)
                  have n4_ := Aside0.mk (blk_drew BK285.out)
                  have n5_ := Aside0.mk (blk_drew BK298.out)
                  have n6_ := Aside0.mk (below_drew1 HB.out)
                  clear HO_5
                  clear HO_54
                  clear HO_286001
                  clear HO_299001
                  clear BK285
                  clear BK298
                  clear HB
                  have HO_5 := n0_
                  have HO_54 := n1_
                  have HO_286001 := n2_
                  have HO_299001 := n3_
                  have BK285 := n4_
                  have BK298 := n5_
                  have HB := n6_
                  clear n0_ n1_ n2_ n3_ n4_ n5_ n6_
                  have p299 : 0 ≤ (x66_3 : Int) := oda
                  have q299 : x66_3 < (t286.length : Int) := oda
                  obtain ⟨ad299, e299, hx299_0⟩ := Kd.at_int (Kd.R_reads' HO_5.out).2.2 x66_3 p299 q299
                  obtain rfl : ad297 = ad299 := (by injection e299)
                  replace p299 := eq_true p299
                  replace q299 := eq_true q299
                  obtain ⟨Ao55, co55, eo55⟩ := Kd.R_slice HO_299001.out
                  (first | subst eo55 | (injection eo55 with f1_ f2_ f3_; have f4_ := f1_.symm; have f5_ := f3_.symm; clear f1_ f2_ f3_; subst f4_; subst f5_))
                  refine start_ (n := 13) (S := fun w' => w'.cell? ⟨gb298, 0, none⟩ = some (.int .i64 x299000_3) ∧ w'.cell? ⟨gb298, 1, none⟩ = some (.slice Ao55 x299001_3.length co55) ∧ w'.cell? (ad297.add (x66_3).toNat) = some (.int .i64 (rd t286 x66_3))) (ds := [11]) (Pt.bm 13 0) (by kernel_rfl) rfl rfl ⟨(blk_cell BK298.out 0).trans rfl, (blk_cell BK298.out 1).trans rfl, hx299_0⟩ (fun hHeld => ?_); refine with_tabW laws_FnDiagramRow.tab19 laws_FnDiagramRow.bits19 (fun HT_ HW_ => ?_)
                  generalize wr.drew = w54 at HO_5 HO_54 HO_286001 HO_299001 BK285 BK298 HB hx299_0 hHeld ⊢
                  refine Pt.pu 1 (some 71) (Pt.bm 13 2) (any_of HT_.out (by kernel_rfl)) ?_
                  refine Pt.pu 2 (some 72) (Pt.bm 13 6) (any_of HT_.out (by kernel_rfl)) ?_
                  refine Pt.pu 3 (some 73) (Pt.bm 13 14) (any_of HT_.out (by kernel_rfl)) ?_
                  refine Pt.pu 4 (some 74) (Pt.bm 13 30) (any_of HT_.out (by kernel_rfl)) ?_
                  refine Pt.pu 5 (some 75) (Pt.bm 13 62) (any_of HT_.out (by kernel_rfl)) ?_
                  refine Pt.tk 0 (some 70) (Pt.bm 13 63) rfl rfl (take_ofW HT_.out HW_.out (by kernel_rfl)) hHeld (Or.inl ⟨by rfl, by rintro w' ⟨s0, s1, s2⟩; go_simp; with_reducible rfl⟩) ?_
                  refine Pt.tk 6 (some 76) (Pt.bm 13 127) rfl rfl (take_ofW HT_.out HW_.out (by kernel_rfl)) hHeld (Or.inl ⟨by rfl, by rintro w' ⟨s0, s1, s2⟩; go_simp; with_reducible rfl⟩) ?_
                  refine one_ (i := 7) (N := some 77) (Pt.bm 13 255) rfl rfl (one_of HT_.out (by kernel_rfl)) (by decide) (fun K hK => ?_)
                  refine goes_ Try.func16 (by kernel_rfl) rfl #[.agg #[.int .i64 x299000_3, .slice Ao55 x299001_3.length co55], .int .i64 x9_3, .int .i64 x66_3, .int .i64 (rd t286 x66_3)] (by rfl) rfl rfl lmB ?_
                  with_reducible refine (impl_DiagramFix.calls k3 x299000_3 _ _ x299001_3 x9_3 x66_3 (rd t286 x66_3) t300 t301 t304 _ ?side1 ?side2 A53.out).mono ?_
                  (case side1 => repeat (first | exact (Kd.R_reads' HO_299001.out).2.2 | (with_reducible refine Kd.C_alloc ?_ _) | (with_reducible refine Kd.C_drewN ?_ _) | (with_reducible refine Kd.C_drew ?_)))
                  (case side2 => exact (Kd.R_reads' HO_299001.out).2.1)
                  rintro e w56 ⟨v302, rfl, ho0, hb⟩
                  have HS2_ := (hb.cell (World.block_lt_of_cell? _ _ (hHeld.2.2))).trans (hHeld.2.2)
                  refine ⟨_, rfl, ?_⟩
                  have n0_ := Aside0.mk (Kd.R_below (rvR HO_5.out) hb)
                  have n1_ := Aside0.mk (Kd.R_below (rvR HO_54.out) hb)
                  have n2_ := Aside0.mk (Kd.R_elder' (rvR HO_286001.out) (Kd.R_base ho0) hb)
                  have n3_ := Aside0.mk (Kd.R_elder' (rvR HO_299001.out) (Kd.R_base ho0) hb)
                  have n4_ := Aside0.mk (Kd.R_lower (Kd.R_new' (Kd.R_new' ho0 (Kd.R_lt (rvR HO_286001.out))) (Kd.R_lt (rvR HO_299001.out))) (below_size (by repeat (first | (with_reducible first | exact HB.out | apply bwA | apply bwN | apply bwD | refine below_set ?_ GE285.out | refine below_set ?_ GE298.out) | exact HB.out))))
                  have n5_ := Aside0.mk (blk_below (g := gb285) (o := .cells #[.int .i64 t280, .slice Ao9 t281.length co9] 25 (0, 0)) (bvK BK285.out) hb)
                  have n6_ := Aside0.mk (blk_below (g := gb298) (o := .cells #[.int .i64 x299000_3, .slice Ao55 x299001_3.length co55] 25 (0, 0)) (bvK BK298.out) hb)
                  have n7_ := Aside0.mk (below_step (by repeat (first | (with_reducible first | exact HB.out | apply bwA | apply bwN | apply bwD | refine below_set ?_ GE285.out | refine below_set ?_ GE298.out) | exact HB.out)) hb)
                  clear HO_5
                  clear HO_54
                  clear HO_286001
                  clear HO_299001
                  clear BK285
                  clear BK298
                  clear HB
                  have HO_5 := n0_
                  have HO_54 := n1_
                  have HO_286001 := n2_
                  have HO_299001 := n3_
                  have HO303 := n4_
                  have BK285 := n5_
                  have BK298 := n6_
                  have HB := n7_
                  clear n0_ n1_ n2_ n3_ n4_ n5_ n6_ n7_
                  (try clear hb)
                  (try clear hb2)
                  (try clear hk)
                  (try clear hi)
                  (try clear ho0)
                  obtain ⟨Ao58, co58, eo58⟩ := Kd.R_slice HO303.out
                  (first | subst eo58 | (injection eo58 with f1_ f2_ f3_; have f4_ := f1_.symm; have f5_ := f3_.symm; clear f1_ f2_ f3_; subst f4_; subst f5_))
                  refine hK.out _ _ ⟨(blk_cell BK298.out 0).trans rfl, (blk_cell BK298.out 1).trans rfl, HS2_⟩ (fun hHeld => ?_)
                  clear hK K
                  refine norm_ (a' := ?_) ?_ ?_
                  rotate_left
                  ·show Act.put _ (some 77) _ = _
                   simp only [Act.put, List.setIfInBounds_toArray, List.set_cons_zero, List.set_cons_succ, i64_w, i32_w]
                   rfl
                  refine Pt.pu 8 (some 69) (Pt.bm 13 511) (any_of HT_.out (by kernel_rfl)) ?_
                  refine Pt.pu 9 (some 78) (Pt.bm 13 1023) (any_of HT_.out (by kernel_rfl)) ?_
                  refine Pt.pu 10 (some 79) (Pt.bm 13 2047) (any_of HT_.out (by kernel_rfl)) ?_
                  refine last_ (i := 11) (N := none) (Pt.bm 13 4095) rfl rfl (one_of HT_.out (by kernel_rfl)) (by decide) (fun K hK => ?_)
                  have hs57 : w56.cell? ⟨gb298, 0, none⟩ = some (.int .i64 x299000_3) := (blk_cell BK298.out 0).trans rfl
                  have hfs57 := blk_frozen BK298.out 0
                  have hns57_0 := NB285_298.out
                  have hms57_0 := NB298_285.out
                  have hs59 : w56.cell? ⟨gb298, 1, none⟩ = some (.slice Ao55 x299001_3.length co55) := (blk_cell BK298.out 1).trans rfl
                  have hfs59 := blk_frozen BK298.out 1
                  have hns59_0 := NB285_298.out
                  have hms59_0 := NB298_285.out
                  refine skip_ (w1 := ?_) (by rfl) rfl ?_ ?_
                  rotate_left
                  ·go_simp
                   rfl
                  refine hK.out _ _ ?_
                  clear hK K
                  refine Pt.pu 12 (some 9) (Pt.bm 13 8191) (any_of HT_.out (by kernel_rfl)) ?_
                  refine done_ (done_of HT_.out (by kernel_rfl)) ?_
                  try go_wp2
                  go_roundg k3
                  case measure => have := HJ4.out; have := HK2.out; have := HK3.out; omega
                  case rel => exact ⟨(t304), (wrap64 (x66_3 + 1)), (t300), (t301), (.slice Ao58 t301.length co58), rsd, rsd, H', ⟨by have := HJ4.out; have := HK2.out; have := HK3.out; omega⟩, ⟨by (with_reducible repeat (first | apply Kd.R_alloc | apply Kd.R_drewN | apply Kd.R_drew)); exact Kd.R_mono (Kd.R_far (p := ⟨gb298, 1, none⟩) (Kd.R_far (p := ⟨gb298, 0, none⟩) (Kd.R_types HO_5.out BK298.out (by decide)) (fun _ hk => hk.2) (.int .i64 t300)) (fun _ hk => hk.2) (.slice Ao58 t301.length co58)) (fun _ hk => trivial)⟩, ⟨by (with_reducible repeat (first | apply Kd.R_alloc | apply Kd.R_drewN | apply Kd.R_drew)); exact Kd.R_mono (Kd.R_far (p := ⟨gb298, 1, none⟩) (Kd.R_far (p := ⟨gb298, 0, none⟩) (Kd.R_types HO_54.out BK298.out (by decide)) (fun _ hk => hk.2) (.int .i64 t300)) (fun _ hk => hk.2) (.slice Ao58 t301.length co58)) (fun _ hk => trivial)⟩, ⟨by (with_reducible repeat (first | apply Kd.R_alloc | apply Kd.R_drewN | apply Kd.R_drew)); exact Kd.R_mono (Kd.R_far (p := ⟨gb298, 1, none⟩) (Kd.R_far (p := ⟨gb298, 0, none⟩) (Kd.R_types HO_286001.out BK298.out (by decide)) (fun _ hk => hk.2) (.int .i64 t300)) (fun _ hk => hk.2) (.slice Ao58 t301.length co58)) (fun _ hk => by first | exact hk.1.2 | trivial)⟩, ⟨by (with_reducible repeat (first | apply Kd.R_alloc | apply Kd.R_drewN | apply Kd.R_drew)); exact Kd.R_mono (Kd.R_far (p := ⟨gb298, 1, none⟩) (Kd.R_far (p := ⟨gb298, 0, none⟩) (Kd.R_types HO303.out BK298.out (by decide)) (fun _ hk => hk.2) (.int .i64 t300)) (fun _ hk => hk.2) (.slice Ao58 t301.length co58)) (fun _ hk => by first | exact hk.1.1.2 | trivial)⟩, ⟨by (with_reducible repeat (first | refine blk_drewN ?_ _ | refine blk_drew ?_ | refine blk_alloc ?_ _)); refine blk_far ?_ NB285_298.out _; (with_reducible repeat (first | refine blk_drewN ?_ _ | refine blk_drew ?_ | refine blk_alloc ?_ _)); refine blk_far ?_ NB285_298.out _; (with_reducible repeat (first | refine blk_drewN ?_ _ | refine blk_drew ?_ | refine blk_alloc ?_ _)); exact BK285.out⟩, ⟨by (with_reducible repeat (first | refine blk_drewN ?_ _ | refine blk_drew ?_ | refine blk_alloc ?_ _)); refine blk_put (cs := #[.int .i64 t300, .slice Ao55 x299001_3.length co55]) ?_ 1 _ rfl; (with_reducible repeat (first | refine blk_drewN ?_ _ | refine blk_drew ?_ | refine blk_alloc ?_ _)); refine blk_put (cs := #[.int .i64 x299000_3, .slice Ao55 x299001_3.length co55]) ?_ 0 _ rfl; (with_reducible repeat (first | refine blk_drewN ?_ _ | refine blk_drew ?_ | refine blk_alloc ?_ _)); exact BK298.out⟩, ⟨by repeat (first | (with_reducible first | exact HB.out | apply bwA | apply bwN | apply bwD | refine below_set ?_ GE285.out | refine below_set ?_ GE298.out) | exact HB.out)⟩⟩
                 ·rw [if_neg c52] at H
                  exact absurd H (by simp)
                ·rw [if_neg c51] at H
                 exact absurd H (by simp)
               ·rw [if_neg c50] at H
                have c50b0 : decide (x66_3 < x56_2) = false := decide_eq_false c50
                clear c50
                replace H := Option.bind_eq_some_iff.mp H
                obtain ⟨⟨t305, t306, t309⟩, A600, H⟩ := H
                replace H : ((impl_DiagramCount.f k3 t305 t306 t309).bind fun t310 => (if t310 = 0 then (laws_FnDiagramRow.l0 k3 t284 t286 t286 (t286.length : Int) (wrap64 (x56_2 + 1)) t280 t281) else (some false))) = some r := H
                have A60 := Aside0.mk A600
                clear A600
                replace H := Option.bind_eq_some_iff.mp H
                obtain ⟨t310, A610, H⟩ := H
                replace H : (if t310 = 0 then (laws_FnDiagramRow.l0 k3 t284 t286 t286 (t286.length : Int) (wrap64 (x56_2 + 1)) t280 t281) else (some false)) = some r := H
                have A61 := Aside0.mk A610
                clear A610
                by_cases c62 : t310 = 0
                ·rw [if_pos c62] at H
                 have c62b0 : (t310 == 0) = true := beq_iff_eq.mpr c62
                 have c62b1 : (t310 != 0) = false := bne_eq_false_iff_eq.mpr c62
                 clear c62
                 have H' := Aside0.mk H
                 clear H
                 have hnb63 := NB298_285.out
                 have hnc63 := NB285_298.out
                 have hcz64_0 : wr.cell? ⟨gb298, 0, none⟩ = some (.int .i64 x299000_3) := (blk_cell BK298.out 0).trans rfl
                 have hcz64_1 : wr.cell? ⟨gb298, 1, none⟩ = some (u299001) := (blk_cell BK298.out 1).trans rfl
                 have hfz64_0 := blk_frozen BK298.out 0
                 have hfz64_1 := blk_frozen BK298.out 1
                 obtain ⟨Ao65, co65, eo65⟩ := Kd.R_slice HO_299001.out
                 subst eo65
                 go_wp2_with (first | ((with_reducible refine gate_callee (f := 16) rfl ?_); refine goesL_ (some 85) rfl rfl Try.func16 (by kernel_rfl) rfl #[.agg #[.int .i64 x299000_3, .slice Ao65 x299001_3.length co65], .int .i64 x9_3, .int .i64 x56_2, .int .i64 0] rfl lmB ?_; (with_reducible refine (impl_DiagramFix.calls k3 x299000_3 _ _ x299001_3 x9_3 x56_2 0 t305 t306 t309 _ ?side1 ?side2 A60.out).mono ?_); (case side1 => repeat (first | exact (Kd.R_reads' HO_299001.out).2.2 | (with_reducible refine Kd.C_alloc ?_ _) | (with_reducible refine Kd.C_drewN ?_ _) | (with_reducible refine Kd.C_drew ?_))); (case side2 => exact (Kd.R_reads' HO_299001.out).2.1); rintro e w66 ⟨v307, rfl, ho0, hb⟩; refine ⟨_, rfl, ?_⟩; have n0_ := Aside0.mk (Kd.R_below (rvR HO_5.out) hb); have n1_ := Aside0.mk (Kd.R_below (rvR HO_54.out) hb); have n2_ := Aside0.mk (Kd.R_elder' (rvR HO_286001.out) (Kd.R_base ho0) hb); have n3_ := Aside0.mk (Kd.R_elder' (rvR HO_299001.out) (Kd.R_base ho0) hb); have n4_ := Aside0.mk (Kd.R_lower (Kd.R_new' (Kd.R_new' ho0 (Kd.R_lt (rvR HO_286001.out))) (Kd.R_lt (rvR HO_299001.out))) (below_size (by repeat (first | (with_reducible first | exact HB.out | apply bwA | apply bwN | apply bwD | refine below_set ?_ GE285.out | refine below_set ?_ GE298.out) | exact HB.out)))); have n5_ := Aside0.mk (blk_below (g := gb285) (o := .cells #[.int .i64 t280, .slice Ao9 t281.length co9] 25 (0, 0)) (bvK BK285.out) hb); have n6_ := Aside0.mk (blk_below (g := gb298) (o := .cells #[.int .i64 x299000_3, .slice Ao65 x299001_3.length co65] 25 (0, 0)) (bvK BK298.out) hb); have n7_ := Aside0.mk (below_step (by repeat (first | (with_reducible first | exact HB.out | apply bwA | apply bwN | apply bwD | refine below_set ?_ GE285.out | refine below_set ?_ GE298.out) | exact HB.out)) hb); clear HO_5; clear HO_54; clear HO_286001; clear HO_299001; clear BK285; clear BK298; clear HB; have HO_5 := n0_; have HO_54 := n1_; have HO_286001 := n2_; have HO_299001 := n3_; have HO308 := n4_; have BK285 := n5_; have BK298 := n6_; have HB := n7_; clear n0_ n1_ n2_ n3_ n4_ n5_ n6_ n7_; (try clear hb); (try clear hb2); (try clear hk); (try clear hi); (try clear ho0); have hcz67_0 : w66.cell? ⟨gb298, 0, none⟩ = some (.int .i64 x299000_3) := (blk_cell BK298.out 0).trans rfl; have hcz67_1 : w66.cell? ⟨gb298, 1, none⟩ = some (.slice Ao65 x299001_3.length co65) := (blk_cell BK298.out 1).trans rfl; have hfz67_0 := blk_frozen BK298.out 0; have hfz67_1 := blk_frozen BK298.out 1; obtain ⟨Ao68, co68, eo68⟩ := Kd.R_slice HO308.out; subst eo68) | ((with_reducible refine gate_callee (f := 29) rfl ?_); refine goesL_ (some 90) rfl rfl Try.func29 (by kernel_rfl) rfl #[.agg #[.int .i64 t305, .slice Ao68 t306.length co68], .int .i64 t309] rfl lmB ?_; (with_reducible refine (impl_DiagramCount.calls k3 t305 _ _ t306 t309 t310 _ ?side1 ?side2 A61.out).mono ?_); (case side1 => refine (Kd.R_reads' (e := 71) (base := w.heap.size) (ok := fun k_ => ((True ∧ some k_ ≠ (.slice Ao9 t281.length co9 : Value).ownBlock) ∧ some k_ ≠ (.slice Ao65 x299001_3.length co65 : Value).ownBlock)) (n := t306.length) (c := co68) ?_).2.2; exact (by (with_reducible repeat (first | apply Kd.R_alloc | apply Kd.R_drewN | apply Kd.R_drew)); exact (Kd.R_mono (Kd.R_far (p := ⟨gb298, 1, none⟩) (Kd.R_far (p := ⟨gb298, 0, none⟩) (Kd.R_types HO308.out BK298.out (by decide)) (fun _ hk => hk.2) (.int .i64 t305)) (fun _ hk => hk.2) (.slice Ao68 t306.length co68)) (fun _ h_ => h_.1)))); (case side2 => exact (Kd.R_reads' HO308.out).2.1); rintro e w69 ⟨rfl, hb⟩; refine ⟨_, rfl, ?_⟩; have n0_ := Aside0.mk (Kd.R_below (by (with_reducible repeat (first | apply Kd.R_alloc | apply Kd.R_drewN | apply Kd.R_drew)); exact (Kd.R_mono (Kd.R_far (p := ⟨gb298, 1, none⟩) (Kd.R_far (p := ⟨gb298, 0, none⟩) (Kd.R_types HO_5.out BK298.out (by decide)) (fun _ hk => hk.2) (.int .i64 t305)) (fun _ hk => hk.2) (.slice Ao68 t306.length co68)) (fun _ h_ => h_.1))) hb); have n1_ := Aside0.mk (Kd.R_below (by (with_reducible repeat (first | apply Kd.R_alloc | apply Kd.R_drewN | apply Kd.R_drew)); exact (Kd.R_mono (Kd.R_far (p := ⟨gb298, 1, none⟩) (Kd.R_far (p := ⟨gb298, 0, none⟩) (Kd.R_types HO_54.out BK298.out (by decide)) (fun _ hk => hk.2) (.int .i64 t305)) (fun _ hk => hk.2) (.slice Ao68 t306.length co68)) (fun _ h_ => h_.1))) hb); have n2_ := Aside0.mk (Kd.R_below (by (with_reducible repeat (first | apply Kd.R_alloc | apply Kd.R_drewN | apply Kd.R_drew)); exact (Kd.R_mono (Kd.R_far (p := ⟨gb298, 1, none⟩) (Kd.R_far (p := ⟨gb298, 0, none⟩) (Kd.R_types HO_286001.out BK298.out (by decide)) (fun _ hk => hk.2) (.int .i64 t305)) (fun _ hk => hk.2) (.slice Ao68 t306.length co68)) (fun _ h_ => h_.1))) hb); have n3_ := Aside0.mk (Kd.R_below (by (with_reducible repeat (first | apply Kd.R_alloc | apply Kd.R_drewN | apply Kd.R_drew)); exact (Kd.R_mono (Kd.R_far (p := ⟨gb298, 1, none⟩) (Kd.R_far (p := ⟨gb298, 0, none⟩) (Kd.R_types HO_299001.out BK298.out (by decide)) (fun _ hk => hk.2) (.int .i64 t305)) (fun _ hk => hk.2) (.slice Ao68 t306.length co68)) (fun _ h_ => h_.1))) hb); have n4_ := Aside0.mk (Kd.R_below (by (with_reducible repeat (first | apply Kd.R_alloc | apply Kd.R_drewN | apply Kd.R_drew)); exact (Kd.R_mono (Kd.R_far (p := ⟨gb298, 1, none⟩) (Kd.R_far (p := ⟨gb298, 0, none⟩) (Kd.R_types HO308.out BK298.out (by decide)) (fun _ hk => hk.2) (.int .i64 t305)) (fun _ hk => hk.2) (.slice Ao68 t306.length co68)) (fun _ h_ => h_.1))) hb); have n5_ := Aside0.mk (blk_below (g := gb285) (o := .cells #[.int .i64 t280, .slice Ao9 t281.length co9] 25 (0, 0)) (by (with_reducible repeat (first | refine blk_drewN ?_ _ | refine blk_drew ?_ | refine blk_alloc ?_ _)); refine blk_far ?_ NB285_298.out _; (with_reducible repeat (first | refine blk_drewN ?_ _ | refine blk_drew ?_ | refine blk_alloc ?_ _)); refine blk_far ?_ NB285_298.out _; (with_reducible repeat (first | refine blk_drewN ?_ _ | refine blk_drew ?_ | refine blk_alloc ?_ _)); exact BK285.out) hb); have n6_ := Aside0.mk (blk_below (g := gb298) (o := .cells #[.int .i64 t305, .slice Ao68 t306.length co68] 25 (0, 0)) (by (with_reducible repeat (first | refine blk_drewN ?_ _ | refine blk_drew ?_ | refine blk_alloc ?_ _)); refine blk_put (cs := #[.int .i64 t305, .slice Ao65 x299001_3.length co65]) ?_ 1 _ rfl; (with_reducible repeat (first | refine blk_drewN ?_ _ | refine blk_drew ?_ | refine blk_alloc ?_ _)); refine blk_put (cs := #[.int .i64 x299000_3, .slice Ao65 x299001_3.length co65]) ?_ 0 _ rfl; (with_reducible repeat (first | refine blk_drewN ?_ _ | refine blk_drew ?_ | refine blk_alloc ?_ _)); exact BK298.out) hb); have n7_ := Aside0.mk (below_step (by repeat (first | (with_reducible first | exact HB.out | apply bwA | apply bwN | apply bwD | refine below_set ?_ GE285.out | refine below_set ?_ GE298.out) | exact HB.out)) hb); clear HO_5; clear HO_54; clear HO_286001; clear HO_299001; clear HO308; clear BK285; clear BK298; clear HB; have HO_5 := n0_; have HO_54 := n1_; have HO_286001 := n2_; have HO_299001 := n3_; have HO308 := n4_; have BK285 := n5_; have BK298 := n6_; have HB := n7_; clear n0_ n1_ n2_ n3_ n4_ n5_ n6_ n7_; (try clear hb); (try clear hb2); (try clear hk); (try clear hi)))
                 go_roundg k3
                 case measure => have := HJ4.out; have := HK2.out; have := HK3.out; omega
                 case rel => exact ⟨(wrap64 (x56_2 + 1)), rsd, H', ⟨by have := HJ4.out; have := HK2.out; have := HK3.out; omega⟩, ⟨rvR HO_5.out⟩, ⟨rvR HO_54.out⟩, ⟨by (with_reducible repeat (first | apply Kd.R_alloc | apply Kd.R_drewN | apply Kd.R_drew)); exact Kd.R_mono HO_286001.out (fun _ hk => trivial)⟩, ⟨bvK BK285.out⟩, ⟨by repeat (first | (with_reducible first | exact HB.out | apply bwA | apply bwN | apply bwD | refine below_set ?_ GE285.out | refine below_set ?_ GE298.out) | exact HB.out)⟩⟩
                ·rw [if_neg c62] at H
                 have c62b0 : (t310 == 0) = false := beq_eq_false_iff_ne.mpr c62
                 have c62b1 : (t310 != 0) = true := bne_iff_ne.mpr c62
                 obtain rfl := Option.some.inj H
                 have hnb70 := NB298_285.out
                 have hnc70 := NB285_298.out
                 have hcz71_0 : wr.cell? ⟨gb298, 0, none⟩ = some (.int .i64 x299000_3) := (blk_cell BK298.out 0).trans rfl
                 have hcz71_1 : wr.cell? ⟨gb298, 1, none⟩ = some (u299001) := (blk_cell BK298.out 1).trans rfl
                 have hfz71_0 := blk_frozen BK298.out 0
                 have hfz71_1 := blk_frozen BK298.out 1
                 obtain ⟨Ao72, co72, eo72⟩ := Kd.R_slice HO_299001.out
                 subst eo72
                 go_wp2_with (first | ((with_reducible refine gate_callee (f := 16) rfl ?_); refine goesL_ (some 85) rfl rfl Try.func16 (by kernel_rfl) rfl #[.agg #[.int .i64 x299000_3, .slice Ao72 x299001_3.length co72], .int .i64 x9_3, .int .i64 x56_2, .int .i64 0] rfl lmB ?_; (with_reducible refine (impl_DiagramFix.calls k3 x299000_3 _ _ x299001_3 x9_3 x56_2 0 t305 t306 t309 _ ?side1 ?side2 A60.out).mono ?_); (case side1 => repeat (first | exact (Kd.R_reads' HO_299001.out).2.2 | (with_reducible refine Kd.C_alloc ?_ _) | (with_reducible refine Kd.C_drewN ?_ _) | (with_reducible refine Kd.C_drew ?_))); (case side2 => exact (Kd.R_reads' HO_299001.out).2.1); rintro e w73 ⟨v307, rfl, ho0, hb⟩; refine ⟨_, rfl, ?_⟩; have n0_ := Aside0.mk (Kd.R_below (rvR HO_5.out) hb); have n1_ := Aside0.mk (Kd.R_below (rvR HO_54.out) hb); have n2_ := Aside0.mk (Kd.R_elder' (rvR HO_286001.out) (Kd.R_base ho0) hb); have n3_ := Aside0.mk (Kd.R_elder' (rvR HO_299001.out) (Kd.R_base ho0) hb); have n4_ := Aside0.mk (Kd.R_lower (Kd.R_new' (Kd.R_new' ho0 (Kd.R_lt (rvR HO_286001.out))) (Kd.R_lt (rvR HO_299001.out))) (below_size (by repeat (first | (with_reducible first | exact HB.out | apply bwA | apply bwN | apply bwD | refine below_set ?_ GE285.out | refine below_set ?_ GE298.out) | exact HB.out)))); have n5_ := Aside0.mk (blk_below (g := gb285) (o := .cells #[.int .i64 t280, .slice Ao9 t281.length co9] 25 (0, 0)) (bvK BK285.out) hb); have n6_ := Aside0.mk (blk_below (g := gb298) (o := .cells #[.int .i64 x299000_3, .slice Ao72 x299001_3.length co72] 25 (0, 0)) (bvK BK298.out) hb); have n7_ := Aside0.mk (below_step (by repeat (first | (with_reducible first | exact HB.out | apply bwA | apply bwN | apply bwD | refine below_set ?_ GE285.out | refine below_set ?_ GE298.out) | exact HB.out)) hb); clear HO_5; clear HO_54; clear HO_286001; clear HO_299001; clear BK285; clear BK298; clear HB; have HO_5 := n0_; have HO_54 := n1_; have HO_286001 := n2_; have HO_299001 := n3_; have HO308 := n4_; have BK285 := n5_; have BK298 := n6_; have HB := n7_; clear n0_ n1_ n2_ n3_ n4_ n5_ n6_ n7_; (try clear hb); (try clear hb2); (try clear hk); (try clear hi); (try clear ho0); have hcz74_0 : w73.cell? ⟨gb298, 0, none⟩ = some (.int .i64 x299000_3) := (blk_cell BK298.out 0).trans rfl; have hcz74_1 : w73.cell? ⟨gb298, 1, none⟩ = some (.slice Ao72 x299001_3.length co72) := (blk_cell BK298.out 1).trans rfl; have hfz74_0 := blk_frozen BK298.out 0; have hfz74_1 := blk_frozen BK298.out 1; obtain ⟨Ao75, co75, eo75⟩ := Kd.R_slice HO308.out; subst eo75) | ((with_reducible refine gate_callee (f := 29) rfl ?_); refine goesL_ (some 90) rfl rfl Try.func29 (by kernel_rfl) rfl #[.agg #[.int .i64 t305, .slice Ao75 t306.length co75], .int .i64 t309] rfl lmB ?_; (with_reducible refine (impl_DiagramCount.calls k3 t305 _ _ t306 t309 t310 _ ?side1 ?side2 A61.out).mono ?_); (case side1 => refine (Kd.R_reads' (e := 71) (base := w.heap.size) (ok := fun k_ => ((True ∧ some k_ ≠ (.slice Ao9 t281.length co9 : Value).ownBlock) ∧ some k_ ≠ (.slice Ao72 x299001_3.length co72 : Value).ownBlock)) (n := t306.length) (c := co75) ?_).2.2; exact (by (with_reducible repeat (first | apply Kd.R_alloc | apply Kd.R_drewN | apply Kd.R_drew)); exact (Kd.R_mono (Kd.R_far (p := ⟨gb298, 1, none⟩) (Kd.R_far (p := ⟨gb298, 0, none⟩) (Kd.R_types HO308.out BK298.out (by decide)) (fun _ hk => hk.2) (.int .i64 t305)) (fun _ hk => hk.2) (.slice Ao75 t306.length co75)) (fun _ h_ => h_.1)))); (case side2 => exact (Kd.R_reads' HO308.out).2.1); rintro e w76 ⟨rfl, hb⟩; refine ⟨_, rfl, ?_⟩; have n0_ := Aside0.mk (Kd.R_below (by (with_reducible repeat (first | apply Kd.R_alloc | apply Kd.R_drewN | apply Kd.R_drew)); exact (Kd.R_mono (Kd.R_far (p := ⟨gb298, 1, none⟩) (Kd.R_far (p := ⟨gb298, 0, none⟩) (Kd.R_types HO_5.out BK298.out (by decide)) (fun _ hk => hk.2) (.int .i64 t305)) (fun _ hk => hk.2) (.slice Ao75 t306.length co75)) (fun _ h_ => h_.1))) hb); have n1_ := Aside0.mk (Kd.R_below (by (with_reducible repeat (first | apply Kd.R_alloc | apply Kd.R_drewN | apply Kd.R_drew)); exact (Kd.R_mono (Kd.R_far (p := ⟨gb298, 1, none⟩) (Kd.R_far (p := ⟨gb298, 0, none⟩) (Kd.R_types HO_54.out BK298.out (by decide)) (fun _ hk => hk.2) (.int .i64 t305)) (fun _ hk => hk.2) (.slice Ao75 t306.length co75)) (fun _ h_ => h_.1))) hb); have n2_ := Aside0.mk (Kd.R_below (by (with_reducible repeat (first | apply Kd.R_alloc | apply Kd.R_drewN | apply Kd.R_drew)); exact (Kd.R_mono (Kd.R_far (p := ⟨gb298, 1, none⟩) (Kd.R_far (p := ⟨gb298, 0, none⟩) (Kd.R_types HO_286001.out BK298.out (by decide)) (fun _ hk => hk.2) (.int .i64 t305)) (fun _ hk => hk.2) (.slice Ao75 t306.length co75)) (fun _ h_ => h_.1))) hb); have n3_ := Aside0.mk (Kd.R_below (by (with_reducible repeat (first | apply Kd.R_alloc | apply Kd.R_drewN | apply Kd.R_drew)); exact (Kd.R_mono (Kd.R_far (p := ⟨gb298, 1, none⟩) (Kd.R_far (p := ⟨gb298, 0, none⟩) (Kd.R_types HO_299001.out BK298.out (by decide)) (fun _ hk => hk.2) (.int .i64 t305)) (fun _ hk => hk.2) (.slice Ao75 t306.length co75)) (fun _ h_ => h_.1))) hb); have n4_ := Aside0.mk (Kd.R_below (by (with_reducible repeat (first | apply Kd.R_alloc | apply Kd.R_drewN | apply Kd.R_drew)); exact (Kd.R_mono (Kd.R_far (p := ⟨gb298, 1, none⟩) (Kd.R_far (p := ⟨gb298, 0, none⟩) (Kd.R_types HO308.out BK298.out (by decide)) (fun _ hk => hk.2) (.int .i64 t305)) (fun _ hk => hk.2) (.slice Ao75 t306.length co75)) (fun _ h_ => h_.1))) hb); have n5_ := Aside0.mk (blk_below (g := gb285) (o := .cells #[.int .i64 t280, .slice Ao9 t281.length co9] 25 (0, 0)) (by (with_reducible repeat (first | refine blk_drewN ?_ _ | refine blk_drew ?_ | refine blk_alloc ?_ _)); refine blk_far ?_ NB285_298.out _; (with_reducible repeat (first | refine blk_drewN ?_ _ | refine blk_drew ?_ | refine blk_alloc ?_ _)); refine blk_far ?_ NB285_298.out _; (with_reducible repeat (first | refine blk_drewN ?_ _ | refine blk_drew ?_ | refine blk_alloc ?_ _)); exact BK285.out) hb); have n6_ := Aside0.mk (blk_below (g := gb298) (o := .cells #[.int .i64 t305, .slice Ao75 t306.length co75] 25 (0, 0)) (by (with_reducible repeat (first | refine blk_drewN ?_ _ | refine blk_drew ?_ | refine blk_alloc ?_ _)); refine blk_put (cs := #[.int .i64 t305, .slice Ao72 x299001_3.length co72]) ?_ 1 _ rfl; (with_reducible repeat (first | refine blk_drewN ?_ _ | refine blk_drew ?_ | refine blk_alloc ?_ _)); refine blk_put (cs := #[.int .i64 x299000_3, .slice Ao72 x299001_3.length co72]) ?_ 0 _ rfl; (with_reducible repeat (first | refine blk_drewN ?_ _ | refine blk_drew ?_ | refine blk_alloc ?_ _)); exact BK298.out) hb); have n7_ := Aside0.mk (below_step (by repeat (first | (with_reducible first | exact HB.out | apply bwA | apply bwN | apply bwD | refine below_set ?_ GE285.out | refine below_set ?_ GE298.out) | exact HB.out)) hb); clear HO_5; clear HO_54; clear HO_286001; clear HO_299001; clear HO308; clear BK285; clear BK298; clear HB; have HO_5 := n0_; have HO_54 := n1_; have HO_286001 := n2_; have HO_299001 := n3_; have HO308 := n4_; have BK285 := n5_; have BK298 := n6_; have HB := n7_; clear n0_ n1_ n2_ n3_ n4_ n5_ n6_ n7_; (try clear hb); (try clear hb2); (try clear hk); (try clear hi)))
                 go_ret
                 exact ⟨ers, by repeat (first | (with_reducible first | exact HB.out | apply bwA | apply bwN | apply bwD | refine below_set ?_ GE285.out | refine below_set ?_ GE298.out) | exact HB.out)⟩
           ·rw [if_neg c44] at H
            exact absurd H (by simp)
          ·rw [if_neg c43] at H
           exact absurd H (by simp)
         ·rw [if_neg c42] at H
          have c42b0 : decide (x56_2 < (t286.length : Int)) = false := decide_eq_false c42
          clear c42
          obtain rfl := Option.some.inj H
          go_wp2
          go_ret
          exact ⟨ers, by repeat (first | (with_reducible first | exact HB.out | apply bwA | apply bwN | apply bwD | refine below_set ?_ GE285.out) | exact HB.out)⟩
      ·rw [if_neg c38] at H
       have c38b0 : (t296 == 1) = false := beq_eq_false_iff_ne.mpr c38
       have c38b1 : (t296 != 1) = true := bne_iff_ne.mpr c38
       obtain rfl := Option.some.inj H
       obtain ⟨Ao77, co77, eo77⟩ := Kd.R_slice HO_5.out
       subst eo77
       have hcz78_0 : wc.cell? ⟨gb285, 0, none⟩ = some (.int .i64 t280) := (blk_cell BK285.out 0).trans rfl
       have hcz78_1 : wc.cell? ⟨gb285, 1, none⟩ = some (.slice Ao9 t281.length co9) := (blk_cell BK285.out 1).trans rfl
       have hfz78_0 := blk_frozen BK285.out 0
       have hfz78_1 := blk_frozen BK285.out 1
       go_wp2_with (first | ((with_reducible refine gate_callee (f := 34) rfl ?_); refine goesL_ (some 52) rfl rfl Try.func34 (by kernel_rfl) rfl #[.agg #[.int .i64 t280, .slice Ao9 t281.length co9], .int .i64 t284, .slice Ao77 t286.length co77] rfl lmB ?_; (with_reducible refine (impl_DiagramValue.calls kj4 t280 _ _ t281 t284 _ _ t286 t296 _ ?side1 ?side2 ?side3 ?side4 A37.out).mono ?_); (case side1 => repeat (first | exact (Kd.R_reads' HO_286001.out).2.2 | (with_reducible refine Kd.C_alloc ?_ _) | (with_reducible refine Kd.C_drewN ?_ _) | (with_reducible refine Kd.C_drew ?_))); (case side2 => exact (Kd.R_reads' HO_286001.out).2.1); (case side3 => repeat (first | exact (Kd.R_reads' HO_5.out).2.2 | (with_reducible refine Kd.C_alloc ?_ _) | (with_reducible refine Kd.C_drewN ?_ _) | (with_reducible refine Kd.C_drew ?_))); (case side4 => exact (Kd.R_reads' HO_5.out).2.1); rintro e w79 ⟨rfl, hb⟩; refine ⟨_, rfl, ?_⟩; have n0_ := Aside0.mk (Kd.R_below (rvR HO_5.out) hb); have n1_ := Aside0.mk (Kd.R_below (rvR HO_286001.out) hb); have n2_ := Aside0.mk (blk_below (g := gb285) (o := .cells #[.int .i64 t280, .slice Ao9 t281.length co9] 25 (0, 0)) (bvK BK285.out) hb); have n3_ := Aside0.mk (below_step (by repeat (first | (with_reducible first | exact HB.out | apply bwA | apply bwN | apply bwD | refine below_set ?_ GE285.out) | exact HB.out)) hb); clear HO_5; clear HO_286001; clear BK285; clear HB; have HO_5 := n0_; have HO_286001 := n1_; have BK285 := n2_; have HB := n3_; clear n0_ n1_ n2_ n3_; (try clear hb); (try clear hb2); (try clear hk); (try clear hi)))
       go_ret
       exact ⟨ers, by repeat (first | (with_reducible first | exact HB.out | apply bwA | apply bwN | apply bwD | refine below_set ?_ GE285.out) | exact HB.out)⟩

/-- THE ONE PURE STATEMENT of laws_FnDiagramRow: yours. -/
def laws_FnDiagramRow.Pure : Prop := ∀ (l0 : List Int), l0.length ≤ maxLen → l0.length * 1 ≤ 140737488351232 → (∀ x ∈ l0, (Lit.int .u8 x).wf = true) → ∃ k, laws_FnDiagramRow.f k l0 = some true
theorem laws_FnDiagramRow.walk (P : laws_FnDiagramRow.Pure) (a0 : Option Addr) (len0 cap0 : Nat) (z0 : List Int) (w : World) (w0 : (a0 = none ∧ len0 = 0 ∧ cap0 = 0 ∧ z0 = []) ∨ ∃ x, a0 = some x ∧ len0 ≤ cap0 ∧ cap0 ≤ maxLen ∧ z0.length = cap0 ∧ (∀ i, i < z0.length → w.cell? (x.add i) = some (.int .u8 (z0.getD i 0))) ∧ ∀ n ∈ z0, (Lit.int .u8 n).wf = true) (y0 : len0 * 1 ≤ 140737488351232) :
  Calls Try.prog 12 #[.slice a0 len0 cap0] w fun e w' => e = .returned (.bool true) ∧ Below w.heap.size w w' := by
 obtain ⟨l0, rfl, hr0, hm0, hw0, hc0⟩ := ReadsInt.ofRowC w0
 obtain ⟨k, h⟩ := P l0 hm0 y0 hw0
 refine (laws_FnDiagramRow.calls k _ _ l0 true w (Kd.C_of_reads (d := (0 : Int)) (h1 := fun _ => rfl) hr0) hc0 h).mono ?_
 rintro e w' ⟨rfl, hd⟩
 exact ⟨rfl, hd⟩

end Go.Proofs.Ytpcompnmadpljaa.QFnDiagramRow
