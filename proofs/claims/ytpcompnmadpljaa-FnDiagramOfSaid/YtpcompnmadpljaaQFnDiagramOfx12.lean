-- Written by a program of this session (mk.py). Lean checks it.
import Derived.Test.YtpcompnmadpljaaQFnDiagramOfx0
import Derived.Test.YtpcompnmadpljaaQFnDiagramOfx1
import Derived.Test.YtpcompnmadpljaaQFnDiagramOfx2
import Derived.Test.YtpcompnmadpljaaQFnDiagramOfx4
import Derived.Test.YtpcompnmadpljaaQFnDiagramOfx7
import Derived.Test.YtpcompnmadpljaaQFnDiagramOfx10
import Derived.Test.YtpcompnmadpljaaQFnDiagramOfx11
namespace Go.Proofs.Ytpcompnmadpljaa.QFnDiagramOf
open Go.RowKit Go.Proofs.YtpcompnmadpljaaW.PrintWords Go.Proofs.YtpcompnmadpljaaW.PrintLast Go.Proofs.YtpcompnmadpljaaW.PrintMore
attribute [local go_sem] max2_int min2_int max_two min_two max_three min_three max_four min_four   -- for this text's walks alone
set_option linter.unusedVariables false
set_option linter.unusedSimpArgs false

/-! ### laws_FnDiagramOf: function 6 -/
mutual
def laws_FnDiagramOf.j0 : Nat → Int → Int → Int → Bool → Int → List (S121) → Int → List (S71) → Int → List (S71) → Option (Bool)
 | 0, _, _, _, _, _, _, _, _, _, _ => none
 | k + 1, x4, x6, x8, x49, x307000, x307001, x313000, x313001, x319000, x319001 => if x49 = true then (if x6 = x8 then (if (x313001.length : Int) = (x319001.length : Int) then (some (x6 == (-1))) else (some false)) else (some false)) else (if 0 ≤ x307000 then (laws_FnDiagramOf.l0 k x4 x6 0 (shl .i64 1 x307000) 0 x307000 x307001 x313000 x313001) else (none))
def laws_FnDiagramOf.l0 : Nat → Int → Int → Int → Int → Int → Int → List (S121) → Int → List (S71) → Option (Bool)
 | 0, _, _, _, _, _, _, _, _, _ => none
 | k + 1, x4, x6, x9, x68, x69, x307000, x307001, x313000, x313001 => if x69 < x68 then (laws_FnDiagramOf.l1 k x4 x6 x9 x69 (([] : List Int)) x68 x69 x307000 0 x307000 x307001 x313000 x313001) else ((impl_DiagramValid.f x313000 x313001).bind fun t319 => (if t319 = true then ((impl_DiagramCount.f k x313000 x313001 x6).bind fun t320 => (some (t320 == x9))) else (some false)))
def laws_FnDiagramOf.l1 : Nat → Int → Int → Int → Int → List Int → Int → Int → Int → Int → Int → List (S121) → Int → List (S71) → Option (Bool)
 | 0, _, _, _, _, _, _, _, _, _, _, _, _, _ => none
 | k + 1, x4, x6, x9, x10, x11, x68, x69, x74, x75, x307000, x307001, x313000, x313001 => if x75 < x74 then (if 0 ≤ x75 then (if x11.length < 17592186044416 then (laws_FnDiagramOf.l1 k x4 x6 x9 x10 (x11 ++ [Int.tmod (shr .i64 x10 x75) 2]) x68 x69 x74 (wrap64 (x75 + 1)) x307000 x307001 x313000 x313001) else (none)) else (none)) else ((impl_EdgeValue.f k x307000 x307001 x11 x4).bind fun t327 => ((impl_DiagramValue.f k x313000 x313001 x6 x11).bind fun t328 => (if t328 = t327 then (laws_FnDiagramOf.l0 k x4 x6 (wrap64 (x9 + t327)) x68 (wrap64 (x69 + 1)) x307000 x307001 x313000 x313001) else (some false))))
end
def laws_FnDiagramOf.f (k : Nat) (l0 : List Int) : Option (Bool) := if (l0.length : Int) > 1048576 then (some true) else ((spec_DrawDiagramOf.f k l0).bind fun bt301 => ((impl_DiagramOf.f k bt301.1 bt301.2.1 bt301.2.2).bind fun bt307 => ((spec_DiagramOf.f k bt301.1 bt301.2.1 bt301.2.2).bind fun bt313 => (if bt307.2.2 = bt313.2.2 then (if (bt307.2.1.length : Int) = (bt313.2.1.length : Int) then (laws_FnDiagramOf.j0 k bt301.2.2 bt307.2.2 bt313.2.2 (decide (bt307.2.2 < 0)) bt301.1 bt301.2.1 bt307.1 bt307.2.1 bt313.1 bt313.2.1) else (laws_FnDiagramOf.j0 k bt301.2.2 bt307.2.2 bt313.2.2 true bt301.1 bt301.2.1 bt307.1 bt307.2.1 bt313.1 bt313.2.1)) else (laws_FnDiagramOf.j0 k bt301.2.2 bt307.2.2 bt313.2.2 true bt301.1 bt301.2.1 bt307.1 bt307.2.1 bt313.1 bt313.2.1)))))
theorem laws_FnDiagramOf.mono_l : ∀ k, (∀ y0 y1 y2 y3 y4 y5 y6 y7 y8 y9, LeO (laws_FnDiagramOf.j0 k y0 y1 y2 y3 y4 y5 y6 y7 y8 y9) (laws_FnDiagramOf.j0 (k + 1) y0 y1 y2 y3 y4 y5 y6 y7 y8 y9)) ∧ (∀ y0 y1 y2 y3 y4 y5 y6 y7 y8, LeO (laws_FnDiagramOf.l0 k y0 y1 y2 y3 y4 y5 y6 y7 y8) (laws_FnDiagramOf.l0 (k + 1) y0 y1 y2 y3 y4 y5 y6 y7 y8)) ∧ (∀ y0 y1 y2 y3 y4 y5 y6 y7 y8 y9 y10 y11 y12, LeO (laws_FnDiagramOf.l1 k y0 y1 y2 y3 y4 y5 y6 y7 y8 y9 y10 y11 y12) (laws_FnDiagramOf.l1 (k + 1) y0 y1 y2 y3 y4 y5 y6 y7 y8 y9 y10 y11 y12))
 | 0 => ⟨fun _ _ _ _ _ _ _ _ _ _ r h => by simp [laws_FnDiagramOf.j0] at h, fun _ _ _ _ _ _ _ _ _ r h => by simp [laws_FnDiagramOf.l0] at h, fun _ _ _ _ _ _ _ _ _ _ _ _ _ r h => by simp [laws_FnDiagramOf.l1] at h⟩
 | k + 1 => by
  obtain ⟨ih0, ih1, ih2⟩ := laws_FnDiagramOf.mono_l k
  refine ⟨?_, ?_, ?_⟩
  ·intro y0 y1 y2 y3 y4 y5 y6 y7 y8 y9
   unfold laws_FnDiagramOf.j0
   repeat' first
   | (with_reducible exact ih0 _ _ _ _ _ _ _ _ _ _)
   | (with_reducible exact ih1 _ _ _ _ _ _ _ _ _)
   | (with_reducible exact ih2 _ _ _ _ _ _ _ _ _ _ _ _ _)
   | (with_reducible exact impl_DiagramCount.mono _ _ _ _)
   | (with_reducible exact impl_DiagramOf.mono _ _ _ _)
   | (with_reducible exact impl_DiagramValue.mono _ _ _ _ _)
   | (with_reducible exact impl_EdgeValue.mono _ _ _ _ _)
   | (with_reducible exact spec_DiagramOf.mono _ _ _ _)
   | (with_reducible exact spec_DrawDiagramOf.mono _ _)
   | (with_reducible exact LeO.refl _)
   | (with_reducible exact LeO.none _)
   | (with_reducible refine LeO.ite ?_ ?_)
   | (with_reducible refine LeO.bind ?_ (fun _ => ?_))
   | exact ih0 _ _ _ _ _ _ _ _ _ _
   | exact ih1 _ _ _ _ _ _ _ _ _
   | exact ih2 _ _ _ _ _ _ _ _ _ _ _ _ _
   | exact impl_DiagramCount.mono _ _ _ _
   | exact impl_DiagramOf.mono _ _ _ _
   | exact impl_DiagramValue.mono _ _ _ _ _
   | exact impl_EdgeValue.mono _ _ _ _ _
   | exact spec_DiagramOf.mono _ _ _ _
   | exact spec_DrawDiagramOf.mono _ _
   | exact LeO.none _
   | refine LeO.ite ?_ ?_
   | refine LeO.bind ?_ (fun _ => ?_)
  ·intro y0 y1 y2 y3 y4 y5 y6 y7 y8
   unfold laws_FnDiagramOf.l0
   repeat' first
   | (with_reducible exact ih0 _ _ _ _ _ _ _ _ _ _)
   | (with_reducible exact ih1 _ _ _ _ _ _ _ _ _)
   | (with_reducible exact ih2 _ _ _ _ _ _ _ _ _ _ _ _ _)
   | (with_reducible exact impl_DiagramCount.mono _ _ _ _)
   | (with_reducible exact impl_DiagramOf.mono _ _ _ _)
   | (with_reducible exact impl_DiagramValue.mono _ _ _ _ _)
   | (with_reducible exact impl_EdgeValue.mono _ _ _ _ _)
   | (with_reducible exact spec_DiagramOf.mono _ _ _ _)
   | (with_reducible exact spec_DrawDiagramOf.mono _ _)
   | (with_reducible exact LeO.refl _)
   | (with_reducible exact LeO.none _)
   | (with_reducible refine LeO.ite ?_ ?_)
   | (with_reducible refine LeO.bind ?_ (fun _ => ?_))
   | exact ih0 _ _ _ _ _ _ _ _ _ _
   | exact ih1 _ _ _ _ _ _ _ _ _
   | exact ih2 _ _ _ _ _ _ _ _ _ _ _ _ _
   | exact impl_DiagramCount.mono _ _ _ _
   | exact impl_DiagramOf.mono _ _ _ _
   | exact impl_DiagramValue.mono _ _ _ _ _
   | exact impl_EdgeValue.mono _ _ _ _ _
   | exact spec_DiagramOf.mono _ _ _ _
   | exact spec_DrawDiagramOf.mono _ _
   | exact LeO.none _
   | refine LeO.ite ?_ ?_
   | refine LeO.bind ?_ (fun _ => ?_)
  ·intro y0 y1 y2 y3 y4 y5 y6 y7 y8 y9 y10 y11 y12
   unfold laws_FnDiagramOf.l1
   repeat' first
   | (with_reducible exact ih0 _ _ _ _ _ _ _ _ _ _)
   | (with_reducible exact ih1 _ _ _ _ _ _ _ _ _)
   | (with_reducible exact ih2 _ _ _ _ _ _ _ _ _ _ _ _ _)
   | (with_reducible exact impl_DiagramCount.mono _ _ _ _)
   | (with_reducible exact impl_DiagramOf.mono _ _ _ _)
   | (with_reducible exact impl_DiagramValue.mono _ _ _ _ _)
   | (with_reducible exact impl_EdgeValue.mono _ _ _ _ _)
   | (with_reducible exact spec_DiagramOf.mono _ _ _ _)
   | (with_reducible exact spec_DrawDiagramOf.mono _ _)
   | (with_reducible exact LeO.refl _)
   | (with_reducible exact LeO.none _)
   | (with_reducible refine LeO.ite ?_ ?_)
   | (with_reducible refine LeO.bind ?_ (fun _ => ?_))
   | exact ih0 _ _ _ _ _ _ _ _ _ _
   | exact ih1 _ _ _ _ _ _ _ _ _
   | exact ih2 _ _ _ _ _ _ _ _ _ _ _ _ _
   | exact impl_DiagramCount.mono _ _ _ _
   | exact impl_DiagramOf.mono _ _ _ _
   | exact impl_DiagramValue.mono _ _ _ _ _
   | exact impl_EdgeValue.mono _ _ _ _ _
   | exact spec_DiagramOf.mono _ _ _ _
   | exact spec_DrawDiagramOf.mono _ _
   | exact LeO.none _
   | refine LeO.ite ?_ ?_
   | refine LeO.bind ?_ (fun _ => ?_)
theorem laws_FnDiagramOf.mono : ∀ a0 k, LeO (laws_FnDiagramOf.f k a0) (laws_FnDiagramOf.f (k + 1) a0) := by
 intro a0 k
 obtain ⟨ih0, ih1, ih2⟩ := laws_FnDiagramOf.mono_l k
 unfold laws_FnDiagramOf.f
 repeat' first
   | (with_reducible exact ih0 _ _ _ _ _ _ _ _ _ _)
   | (with_reducible exact ih1 _ _ _ _ _ _ _ _ _)
   | (with_reducible exact ih2 _ _ _ _ _ _ _ _ _ _ _ _ _)
   | (with_reducible exact impl_DiagramCount.mono _ _ _ _)
   | (with_reducible exact impl_DiagramOf.mono _ _ _ _)
   | (with_reducible exact impl_DiagramValue.mono _ _ _ _ _)
   | (with_reducible exact impl_EdgeValue.mono _ _ _ _ _)
   | (with_reducible exact spec_DiagramOf.mono _ _ _ _)
   | (with_reducible exact spec_DrawDiagramOf.mono _ _)
   | (with_reducible exact LeO.refl _)
   | (with_reducible exact LeO.none _)
   | (with_reducible refine LeO.ite ?_ ?_)
   | (with_reducible refine LeO.bind ?_ (fun _ => ?_))
   | exact ih0 _ _ _ _ _ _ _ _ _ _
   | exact ih1 _ _ _ _ _ _ _ _ _
   | exact ih2 _ _ _ _ _ _ _ _ _ _ _ _ _
   | exact impl_DiagramCount.mono _ _ _ _
   | exact impl_DiagramOf.mono _ _ _ _
   | exact impl_DiagramValue.mono _ _ _ _ _
   | exact impl_EdgeValue.mono _ _ _ _ _
   | exact spec_DiagramOf.mono _ _ _ _
   | exact spec_DrawDiagramOf.mono _ _
   | exact LeO.none _
   | refine LeO.ite ?_ ?_
   | refine LeO.bind ?_ (fun _ => ?_)
set_option maxHeartbeats 8000000 in
set_option maxRecDepth 100000 in
theorem laws_FnDiagramOf.calls (k : Nat) (A0 : Option Addr) (c0 : Nat) (l0 : List Int) (r : Bool) (w : World) (hr0 : Kd.C (Kd.int .u8) w A0 l0.length l0) (hc0 : l0.length ≤ c0) (h : laws_FnDiagramOf.f k l0 = some r) :
  Calls Try.prog 6 #[.slice A0 l0.length c0] w fun e w' => e = .returned (.bool r) ∧ Below w.heap.size w w' := by
 have hu45 := Try.underlying45
 have hu25 := Try.underlying25
 have HR0 := Aside0.mk hr0
 have HC0 := Aside0.mk hc0
 clear hr0 hc0
 have HB := Aside0.mk (Below.refl w.heap.size w)
 have H : (if (l0.length : Int) > 1048576 then (some true) else ((spec_DrawDiagramOf.f k l0).bind fun bt301 => ((impl_DiagramOf.f k bt301.1 bt301.2.1 bt301.2.2).bind fun bt307 => ((spec_DiagramOf.f k bt301.1 bt301.2.1 bt301.2.2).bind fun bt313 => (if bt307.2.2 = bt313.2.2 then (if (bt307.2.1.length : Int) = (bt313.2.1.length : Int) then (laws_FnDiagramOf.j0 k bt301.2.2 bt307.2.2 bt313.2.2 (decide (bt307.2.2 < 0)) bt301.1 bt301.2.1 bt307.1 bt307.2.1 bt313.1 bt313.2.1) else (laws_FnDiagramOf.j0 k bt301.2.2 bt307.2.2 bt313.2.2 true bt301.1 bt301.2.1 bt307.1 bt307.2.1 bt313.1 bt313.2.1)) else (laws_FnDiagramOf.j0 k bt301.2.2 bt307.2.2 bt313.2.2 true bt301.1 bt301.2.1 bt307.1 bt307.2.1 bt313.1 bt313.2.1)))))) = some r := h
 clear h
 by_cases c2 : (l0.length : Int) > 1048576
 ·rw [if_pos c2] at H
  have c2b0 : decide (1048576 < (l0.length : Int)) = true := decide_eq_true c2
  have c2b1 : decide (1048576 < l0.length) = true := decide_eq_true (by omega)
  clear c2
  obtain rfl := Option.some.inj H
  go_enter Try.func6, Try.ntmps6
  go_wp2
  go_ret
  exact ⟨ers, by repeat (first | (with_reducible first | exact HB.out | apply bwA | apply bwN | apply bwD) | exact HB.out)⟩
 ·rw [if_neg c2] at H
  have c2b0 : decide (1048576 < (l0.length : Int)) = false := decide_eq_false c2
  have c2b1 : decide (1048576 < l0.length) = false := decide_eq_false (by omega)
  clear c2
  replace H := Option.bind_eq_some_iff.mp H
  obtain ⟨⟨t301, t302, t305⟩, A30, H⟩ := H
  replace H : ((impl_DiagramOf.f k t301 t302 t305).bind fun bt307 => ((spec_DiagramOf.f k t301 t302 t305).bind fun bt313 => (if bt307.2.2 = bt313.2.2 then (if (bt307.2.1.length : Int) = (bt313.2.1.length : Int) then (laws_FnDiagramOf.j0 k t305 bt307.2.2 bt313.2.2 (decide (bt307.2.2 < 0)) t301 t302 bt307.1 bt307.2.1 bt313.1 bt313.2.1) else (laws_FnDiagramOf.j0 k t305 bt307.2.2 bt313.2.2 true t301 t302 bt307.1 bt307.2.1 bt313.1 bt313.2.1)) else (laws_FnDiagramOf.j0 k t305 bt307.2.2 bt313.2.2 true t301 t302 bt307.1 bt307.2.1 bt313.1 bt313.2.1)))) = some r := H
  have A3 := Aside0.mk A30
  clear A30
  replace H := Option.bind_eq_some_iff.mp H
  obtain ⟨⟨t307, t308, t311⟩, A40, H⟩ := H
  replace H : ((spec_DiagramOf.f k t301 t302 t305).bind fun bt313 => (if t311 = bt313.2.2 then (if (t308.length : Int) = (bt313.2.1.length : Int) then (laws_FnDiagramOf.j0 k t305 t311 bt313.2.2 (decide (t311 < 0)) t301 t302 t307 t308 bt313.1 bt313.2.1) else (laws_FnDiagramOf.j0 k t305 t311 bt313.2.2 true t301 t302 t307 t308 bt313.1 bt313.2.1)) else (laws_FnDiagramOf.j0 k t305 t311 bt313.2.2 true t301 t302 t307 t308 bt313.1 bt313.2.1))) = some r := H
  have A4 := Aside0.mk A40
  clear A40
  replace H := Option.bind_eq_some_iff.mp H
  obtain ⟨⟨t313, t314, t317⟩, A50, H⟩ := H
  replace H : (if t311 = t317 then (if (t308.length : Int) = (t314.length : Int) then (laws_FnDiagramOf.j0 k t305 t311 t317 (decide (t311 < 0)) t301 t302 t307 t308 t313 t314) else (laws_FnDiagramOf.j0 k t305 t311 t317 true t301 t302 t307 t308 t313 t314)) else (laws_FnDiagramOf.j0 k t305 t311 t317 true t301 t302 t307 t308 t313 t314)) = some r := H
  have A5 := Aside0.mk A50
  clear A50
  have HC6 := Aside0.mk H
  clear H
  go_enter Try.func6, Try.ntmps6
  go_upto_region 6 with (first | ((with_reducible refine gate_callee (f := 30) rfl ?_); refine goesL_ (some 19) rfl rfl Try.func30 (by kernel_rfl) rfl #[.slice A0 l0.length c0] rfl lmB ?_; (with_reducible refine (spec_DrawDiagramOf.calls k _ _ l0 t301 t302 t305 _ ?side1 ?side2 A3.out).mono ?_); (case side1 => repeat (first | exact HR0.out | (with_reducible refine Kd.C_alloc ?_ _) | (with_reducible refine Kd.C_drewN ?_ _) | (with_reducible refine Kd.C_drew ?_))); (case side2 => exact HC0.out); rintro e w7 ⟨v303, rfl, ho0, hb⟩; refine ⟨_, rfl, ?_⟩; have n0_ := Aside0.mk (Kd.R_lower ho0 (below_size (by repeat (first | (with_reducible first | exact HB.out | apply bwA | apply bwN | apply bwD) | exact HB.out)))); have n1_ := Aside0.mk (below_step (by repeat (first | (with_reducible first | exact HB.out | apply bwA | apply bwN | apply bwD) | exact HB.out)) hb); clear HB; have HO304 := n0_; have HB := n1_; clear n0_ n1_; (try clear hb); (try clear hb2); (try clear hk); (try clear hi); (try clear ho0)) | ((with_reducible refine gate_dst (N := 3) rfl ?_); (try (refine gate_guard (by rfl) ?_; dsimp only)); refine box_event ?hg (N := 3) ?hd (cs := #[.int .i64 0, .slice none 0 0]) (t := 45) ?hr ?_; (case hd => rfl); (case hg => rfl); (case hr => first | (go_simp; done) | (go_simp; rfl)); intro gb306 hg w8 hbox hb; have n0_ := Aside0.mk (Kd.R_below (rvR HO304.out) hb); have n1_ := Aside0.mk (below_step (by repeat (first | (with_reducible first | exact HB.out | apply bwA | apply bwN | apply bwD) | exact HB.out)) hb); have n2_ := Aside0.mk (hbox); have n3_ := Aside0.mk ((by rw [hg]; exact (below_size (by repeat (first | (with_reducible first | exact HB.out | apply bwA | apply bwN | apply bwD) | exact HB.out))) : w.heap.size ≤ gb306)); have n4_ := Aside0.mk ((by rw [hg]; exact (below_size (by repeat (first | (with_reducible first | exact HB.out | apply bwA | apply bwN | apply bwD) | exact HB.out))) : w.heap.size ≤ gb306)); clear HO304; clear HB; have HO304 := n0_; have HB := n1_; have BK306 := n2_; have GW306 := n3_; have GE306 := n4_; clear n0_ n1_ n2_ n3_ n4_; clear hb hbox hg; have hcz9_0 : w8.cell? ⟨gb306, 0, none⟩ = some (.int .i64 0) := (blk_cell BK306.out 0).trans rfl; have hcz9_1 : w8.cell? ⟨gb306, 1, none⟩ = some (.slice none 0 0) := (blk_cell BK306.out 1).trans rfl; have hfz9_0 := blk_frozen BK306.out 0; have hfz9_1 := blk_frozen BK306.out 1; obtain ⟨Ao10, co10, eo10⟩ := Kd.R_slice HO304.out; subst eo10) | ((with_reducible refine gate_callee (f := 31) rfl ?_); refine goesL_ (some 25) rfl rfl Try.func31 (by kernel_rfl) rfl #[.agg #[.int .i64 t301, .slice Ao10 t302.length co10], .int .i64 t305] rfl lmB ?_; (with_reducible refine (impl_DiagramOf.calls k t301 _ _ t302 t305 t307 t308 t311 _ ?side1 ?side2 A4.out).mono ?_); (case side1 => refine (Kd.R_reads' (e := 121) (base := w.heap.size) (ok := fun k_ => True) (n := t302.length) (c := co10) ?_).2.2; exact (by (with_reducible repeat (first | apply Kd.R_alloc | apply Kd.R_drewN | apply Kd.R_drew)); exact (Kd.R_mono (Kd.R_far (p := ⟨gb306, 1, none⟩) (Kd.R_far (p := ⟨gb306, 0, none⟩) (Kd.R_types HO304.out BK306.out (by decide)) (fun _ hk => hk.2) (.int .i64 t301)) (fun _ hk => hk.2) (.slice Ao10 t302.length co10)) (fun _ h_ => h_.1)))); (case side2 => exact (Kd.R_reads' HO304.out).2.1); rintro e w11 ⟨v309, rfl, ho0, hb⟩; refine ⟨_, rfl, ?_⟩; have n0_ := Aside0.mk (Kd.R_below (by (with_reducible repeat (first | apply Kd.R_alloc | apply Kd.R_drewN | apply Kd.R_drew)); exact (Kd.R_mono (Kd.R_far (p := ⟨gb306, 1, none⟩) (Kd.R_far (p := ⟨gb306, 0, none⟩) (Kd.R_types HO304.out BK306.out (by decide)) (fun _ hk => hk.2) (.int .i64 t301)) (fun _ hk => hk.2) (.slice Ao10 t302.length co10)) (fun _ h_ => h_.1))) hb); have n1_ := Aside0.mk (Kd.R_lower ho0 (below_size (by repeat (first | (with_reducible first | exact HB.out | apply bwA | apply bwN | apply bwD | refine below_set ?_ GE306.out) | exact HB.out)))); have n2_ := Aside0.mk (blk_below (g := gb306) (o := .cells #[.int .i64 t301, .slice Ao10 t302.length co10] 45 (0, 0)) (by (with_reducible repeat (first | refine blk_drewN ?_ _ | refine blk_drew ?_ | refine blk_alloc ?_ _)); refine blk_put (cs := #[.int .i64 t301, .slice none 0 0]) ?_ 1 _ rfl; (with_reducible repeat (first | refine blk_drewN ?_ _ | refine blk_drew ?_ | refine blk_alloc ?_ _)); refine blk_put (cs := #[.int .i64 0, .slice none 0 0]) ?_ 0 _ rfl; (with_reducible repeat (first | refine blk_drewN ?_ _ | refine blk_drew ?_ | refine blk_alloc ?_ _)); exact BK306.out) hb); have n3_ := Aside0.mk (below_step (by repeat (first | (with_reducible first | exact HB.out | apply bwA | apply bwN | apply bwD | refine below_set ?_ GE306.out) | exact HB.out)) hb); clear HO304; clear BK306; clear HB; have HO304 := n0_; have HO310 := n1_; have BK306 := n2_; have HB := n3_; clear n0_ n1_ n2_ n3_; (try clear hb); (try clear hb2); (try clear hk); (try clear hi); (try clear ho0)) | ((with_reducible refine gate_dst (N := 5) rfl ?_); (try (refine gate_guard (by rfl) ?_; dsimp only)); refine box_event ?hg (N := 5) ?hd (cs := #[.int .i64 0, .slice none 0 0]) (t := 25) ?hr ?_; (case hd => rfl); (case hg => rfl); (case hr => first | (go_simp; done) | (go_simp; rfl)); intro gb312 hg w12 hbox hb; have n0_ := Aside0.mk (Kd.R_below (rvR HO304.out) hb); have n1_ := Aside0.mk (Kd.R_below (rvR HO310.out) hb); have n2_ := Aside0.mk (blk_below (g := gb306) (o := .cells #[.int .i64 t301, .slice Ao10 t302.length co10] 45 (0, 0)) (bvK BK306.out) hb); have n3_ := Aside0.mk (below_step (by repeat (first | (with_reducible first | exact HB.out | apply bwA | apply bwN | apply bwD | refine below_set ?_ GE306.out) | exact HB.out)) hb); have n4_ := Aside0.mk (hbox); have n5_ := Aside0.mk ((by rw [hg]; exact (below_size (by repeat (first | (with_reducible first | exact HB.out | apply bwA | apply bwN | apply bwD | refine below_set ?_ GE306.out) | exact HB.out))) : w.heap.size ≤ gb312)); have n6_ := Aside0.mk ((by rw [hg]; exact (below_size (by repeat (first | (with_reducible first | exact HB.out | apply bwA | apply bwN | apply bwD | refine below_set ?_ GE306.out) | exact HB.out))) : w.heap.size ≤ gb312)); have n7_ := Aside0.mk ((by rw [hg]; exact Nat.ne_of_lt (blk_lt (g := gb306) (o := .cells #[.int .i64 t301, .slice Ao10 t302.length co10] 45 (0, 0)) (bvK BK306.out)) : gb306 ≠ gb312)); have n8_ := Aside0.mk ((by rw [hg]; exact Nat.ne_of_gt (blk_lt (g := gb306) (o := .cells #[.int .i64 t301, .slice Ao10 t302.length co10] 45 (0, 0)) (bvK BK306.out)) : gb312 ≠ gb306)); clear HO304; clear HO310; clear BK306; clear HB; have HO304 := n0_; have HO310 := n1_; have BK306 := n2_; have HB := n3_; have BK312 := n4_; have GW312 := n5_; have GE312 := n6_; have NB306_312 := n7_; have NB312_306 := n8_; clear n0_ n1_ n2_ n3_ n4_ n5_ n6_ n7_ n8_; clear hb hbox hg; have hnb13 := NB312_306.out; have hnc13 := NB306_312.out; have hcz14_0 : w12.cell? ⟨gb312, 0, none⟩ = some (.int .i64 0) := (blk_cell BK312.out 0).trans rfl; have hcz14_1 : w12.cell? ⟨gb312, 1, none⟩ = some (.slice none 0 0) := (blk_cell BK312.out 1).trans rfl; have hfz14_0 := blk_frozen BK312.out 0; have hfz14_1 := blk_frozen BK312.out 1; obtain ⟨Ao15, co15, eo15⟩ := Kd.R_slice HO310.out; subst eo15; have hcz16_0 : w12.cell? ⟨gb306, 0, none⟩ = some (.int .i64 t301) := (blk_cell BK306.out 0).trans rfl; have hcz16_1 : w12.cell? ⟨gb306, 1, none⟩ = some (.slice Ao10 t302.length co10) := (blk_cell BK306.out 1).trans rfl; have hfz16_0 := blk_frozen BK306.out 0; have hfz16_1 := blk_frozen BK306.out 1) | ((with_reducible refine gate_callee (f := 32) rfl ?_); refine goesL_ (some 31) rfl rfl Try.func32 (by kernel_rfl) rfl #[.agg #[.int .i64 t301, .slice Ao10 t302.length co10], .int .i64 t305] rfl lmB ?_; (with_reducible refine (spec_DiagramOf.calls k t301 _ _ t302 t305 t313 t314 t317 _ ?side1 ?side2 A5.out).mono ?_); (case side1 => refine (Kd.R_reads' (e := 121) (base := w.heap.size) (ok := fun k_ => True) (n := t302.length) (c := co10) ?_).2.2; exact (by (with_reducible repeat (first | apply Kd.R_alloc | apply Kd.R_drewN | apply Kd.R_drew)); exact (Kd.R_mono (Kd.R_far (p := ⟨gb312, 1, none⟩) (Kd.R_far (p := ⟨gb312, 0, none⟩) (Kd.R_types HO304.out BK312.out (by decide)) (fun _ hk => hk.2) (.int .i64 t307)) (fun _ hk => hk.2) (.slice Ao15 t308.length co15)) (fun _ h_ => h_.1)))); (case side2 => exact (Kd.R_reads' HO304.out).2.1); rintro e w17 ⟨v315, rfl, ho0, hb⟩; refine ⟨_, rfl, ?_⟩; have n0_ := Aside0.mk (Kd.R_below (by (with_reducible repeat (first | apply Kd.R_alloc | apply Kd.R_drewN | apply Kd.R_drew)); exact (Kd.R_mono (Kd.R_far (p := ⟨gb312, 1, none⟩) (Kd.R_far (p := ⟨gb312, 0, none⟩) (Kd.R_types HO304.out BK312.out (by decide)) (fun _ hk => hk.2) (.int .i64 t307)) (fun _ hk => hk.2) (.slice Ao15 t308.length co15)) (fun _ h_ => h_.1))) hb); have n1_ := Aside0.mk (Kd.R_elder' (by (with_reducible repeat (first | apply Kd.R_alloc | apply Kd.R_drewN | apply Kd.R_drew)); exact (Kd.R_mono (Kd.R_far (p := ⟨gb312, 1, none⟩) (Kd.R_far (p := ⟨gb312, 0, none⟩) (Kd.R_types HO310.out BK312.out (by decide)) (fun _ hk => hk.2) (.int .i64 t307)) (fun _ hk => hk.2) (.slice Ao15 t308.length co15)) (fun _ h_ => h_.1))) (Kd.R_base ho0) hb); have n2_ := Aside0.mk (Kd.R_lower (Kd.R_new' ho0 (Kd.R_lt (by (with_reducible repeat (first | apply Kd.R_alloc | apply Kd.R_drewN | apply Kd.R_drew)); exact (Kd.R_mono (Kd.R_far (p := ⟨gb312, 1, none⟩) (Kd.R_far (p := ⟨gb312, 0, none⟩) (Kd.R_types HO310.out BK312.out (by decide)) (fun _ hk => hk.2) (.int .i64 t307)) (fun _ hk => hk.2) (.slice Ao15 t308.length co15)) (fun _ h_ => h_.1))))) (below_size (by repeat (first | (with_reducible first | exact HB.out | apply bwA | apply bwN | apply bwD | refine below_set ?_ GE306.out | refine below_set ?_ GE312.out) | exact HB.out)))); have n3_ := Aside0.mk (blk_below (g := gb306) (o := .cells #[.int .i64 t301, .slice Ao10 t302.length co10] 45 (0, 0)) (by (with_reducible repeat (first | refine blk_drewN ?_ _ | refine blk_drew ?_ | refine blk_alloc ?_ _)); refine blk_far ?_ NB306_312.out _; (with_reducible repeat (first | refine blk_drewN ?_ _ | refine blk_drew ?_ | refine blk_alloc ?_ _)); refine blk_far ?_ NB306_312.out _; (with_reducible repeat (first | refine blk_drewN ?_ _ | refine blk_drew ?_ | refine blk_alloc ?_ _)); exact BK306.out) hb); have n4_ := Aside0.mk (blk_below (g := gb312) (o := .cells #[.int .i64 t307, .slice Ao15 t308.length co15] 25 (0, 0)) (by (with_reducible repeat (first | refine blk_drewN ?_ _ | refine blk_drew ?_ | refine blk_alloc ?_ _)); refine blk_put (cs := #[.int .i64 t307, .slice none 0 0]) ?_ 1 _ rfl; (with_reducible repeat (first | refine blk_drewN ?_ _ | refine blk_drew ?_ | refine blk_alloc ?_ _)); refine blk_put (cs := #[.int .i64 0, .slice none 0 0]) ?_ 0 _ rfl; (with_reducible repeat (first | refine blk_drewN ?_ _ | refine blk_drew ?_ | refine blk_alloc ?_ _)); exact BK312.out) hb); have n5_ := Aside0.mk (below_step (by repeat (first | (with_reducible first | exact HB.out | apply bwA | apply bwN | apply bwD | refine below_set ?_ GE306.out | refine below_set ?_ GE312.out) | exact HB.out)) hb); clear HO304; clear HO310; clear BK306; clear BK312; clear HB; have HO304 := n0_; have HO310 := n1_; have HO316 := n2_; have BK306 := n3_; have BK312 := n4_; have HB := n5_; clear n0_ n1_ n2_ n3_ n4_ n5_; (try clear hb); (try clear hb2); (try clear hk); (try clear hi); (try clear ho0)) | ((with_reducible refine gate_dst (N := 7) rfl ?_); (try (refine gate_guard (by rfl) ?_; dsimp only)); refine box_event ?hg (N := 7) ?hd (cs := #[.int .i64 0, .slice none 0 0]) (t := 25) ?hr ?_; (case hd => rfl); (case hg => rfl); (case hr => first | (go_simp; done) | (go_simp; rfl)); intro gb318 hg w18 hbox hb; have n0_ := Aside0.mk (Kd.R_below (rvR HO304.out) hb); have n1_ := Aside0.mk (Kd.R_below (rvR HO310.out) hb); have n2_ := Aside0.mk (Kd.R_below (rvR HO316.out) hb); have n3_ := Aside0.mk (blk_below (g := gb306) (o := .cells #[.int .i64 t301, .slice Ao10 t302.length co10] 45 (0, 0)) (bvK BK306.out) hb); have n4_ := Aside0.mk (blk_below (g := gb312) (o := .cells #[.int .i64 t307, .slice Ao15 t308.length co15] 25 (0, 0)) (bvK BK312.out) hb); have n5_ := Aside0.mk (below_step (by repeat (first | (with_reducible first | exact HB.out | apply bwA | apply bwN | apply bwD | refine below_set ?_ GE306.out | refine below_set ?_ GE312.out) | exact HB.out)) hb); have n6_ := Aside0.mk (hbox); have n7_ := Aside0.mk ((by rw [hg]; exact (below_size (by repeat (first | (with_reducible first | exact HB.out | apply bwA | apply bwN | apply bwD | refine below_set ?_ GE306.out | refine below_set ?_ GE312.out) | exact HB.out))) : w.heap.size ≤ gb318)); have n8_ := Aside0.mk ((by rw [hg]; exact (below_size (by repeat (first | (with_reducible first | exact HB.out | apply bwA | apply bwN | apply bwD | refine below_set ?_ GE306.out | refine below_set ?_ GE312.out) | exact HB.out))) : w.heap.size ≤ gb318)); have n9_ := Aside0.mk ((by rw [hg]; exact Nat.ne_of_lt (blk_lt (g := gb306) (o := .cells #[.int .i64 t301, .slice Ao10 t302.length co10] 45 (0, 0)) (bvK BK306.out)) : gb306 ≠ gb318)); have n10_ := Aside0.mk ((by rw [hg]; exact Nat.ne_of_gt (blk_lt (g := gb306) (o := .cells #[.int .i64 t301, .slice Ao10 t302.length co10] 45 (0, 0)) (bvK BK306.out)) : gb318 ≠ gb306)); have n11_ := Aside0.mk ((by rw [hg]; exact Nat.ne_of_lt (blk_lt (g := gb312) (o := .cells #[.int .i64 t307, .slice Ao15 t308.length co15] 25 (0, 0)) (bvK BK312.out)) : gb312 ≠ gb318)); have n12_ := Aside0.mk ((by rw [hg]; exact Nat.ne_of_gt (blk_lt (g := gb312) (o := .cells #[.int .i64 t307, .slice Ao15 t308.length co15] 25 (0, 0)) (bvK BK312.out)) : gb318 ≠ gb312)); clear HO304; clear HO310; clear HO316; clear BK306; clear BK312; clear HB; have HO304 := n0_; have HO310 := n1_; have HO316 := n2_; have BK306 := n3_; have BK312 := n4_; have HB := n5_; have BK318 := n6_; have GW318 := n7_; have GE318 := n8_; have NB306_318 := n9_; have NB318_306 := n10_; have NB312_318 := n11_; have NB318_312 := n12_; clear n0_ n1_ n2_ n3_ n4_ n5_ n6_ n7_ n8_ n9_ n10_ n11_ n12_; clear hb hbox hg; have hnb19 := NB318_306.out; have hnc19 := NB306_318.out; have hnb20 := NB318_312.out; have hnc20 := NB312_318.out; have hcz21_0 : w18.cell? ⟨gb318, 0, none⟩ = some (.int .i64 0) := (blk_cell BK318.out 0).trans rfl; have hcz21_1 : w18.cell? ⟨gb318, 1, none⟩ = some (.slice none 0 0) := (blk_cell BK318.out 1).trans rfl; have hfz21_0 := blk_frozen BK318.out 0; have hfz21_1 := blk_frozen BK318.out 1; obtain ⟨Ao22, co22, eo22⟩ := Kd.R_slice HO316.out; subst eo22))
  (try simp only [Act.put, List.setIfInBounds_toArray, List.set_cons_zero, List.set_cons_succ])
  go_cut [49] (fun v49 wc => ∃ (kq : Nat) (x49_5 : Bool), v49 = .bool x49_5 ∧ Aside0 (laws_FnDiagramOf.j0 kq t305 t311 t317 x49_5 t301 t302 t307 t308 t313 t314 = some r) ∧ Aside0 (kq ≤ k) ∧ Aside0 (Kd.R k121 121 wc w.heap.size (fun _ => True) (.slice Ao10 t302.length co10) t302) ∧ Aside0 (Kd.R k71 71 wc w.heap.size (fun k_ => some k_ ≠ ((.slice Ao22 t314.length co22) : Value).ownBlock) (.slice Ao15 t308.length co15) t308) ∧ Aside0 (Kd.R k71 71 wc w.heap.size (fun k_ => some k_ ≠ ((.slice Ao15 t308.length co15) : Value).ownBlock) (.slice Ao22 t314.length co22) t314) ∧ Aside0 (wc.heap[gb306]? = some (.cells #[.int .i64 t301, (.slice Ao10 t302.length co10)] 45 (0, 0))) ∧ Aside0 (wc.heap[gb312]? = some (.cells #[.int .i64 t307, (.slice Ao15 t308.length co15)] 25 (0, 0))) ∧ Aside0 (wc.heap[gb318]? = some (.cells #[.int .i64 t313, (.slice Ao22 t314.length co22)] 25 (0, 0))) ∧ Aside0 (Below w.heap.size w wc))
  case first =>
   have H := HC6.out
   clear HC6
   by_cases c23 : t311 = t317
   ·rw [if_pos c23] at H
    have c23b0 : (t311 == t317) = true := beq_iff_eq.mpr c23
    have c23b1 : (t311 != t317) = false := bne_eq_false_iff_eq.mpr c23
    clear c23
    (first | rw [c23b0] | (simp only [i64_w, i32_w]; rw [c23b0]) | skip)
    by_cases c24 : (t308.length : Int) = (t314.length : Int)
    ·rw [if_pos c24] at H
     have c24b0 : ((t308.length : Int) == (t314.length : Int)) = true := beq_iff_eq.mpr c24
     have c24b1 : ((t308.length : Int) != (t314.length : Int)) = false := bne_eq_false_iff_eq.mpr c24
     have c24b2 : (t308.length == t314.length) = true := by first | simpa using c24 | (simp at c24 ⊢; omega)
     clear c24
     have H' := Aside0.mk H
     clear H
     have hnb25 := NB312_306.out
     have hnc25 := NB306_312.out
     have hnb26 := NB312_318.out
     have hnc26 := NB318_312.out
     have hcz27_0 : w18.cell? ⟨gb312, 0, none⟩ = some (.int .i64 t307) := (blk_cell BK312.out 0).trans rfl
     have hcz27_1 : w18.cell? ⟨gb312, 1, none⟩ = some (.slice Ao15 t308.length co15) := (blk_cell BK312.out 1).trans rfl
     have hfz27_0 := blk_frozen BK312.out 0
     have hfz27_1 := blk_frozen BK312.out 1
     have hnb28 := NB318_306.out
     have hnc28 := NB306_318.out
     have hcz29_0 : w18.cell? ⟨gb318, 0, none⟩ = some (.int .i64 0) := (blk_cell BK318.out 0).trans rfl
     have hcz29_1 : w18.cell? ⟨gb318, 1, none⟩ = some (.slice none 0 0) := (blk_cell BK318.out 1).trans rfl
     have hfz29_0 := blk_frozen BK318.out 0
     have hfz29_1 := blk_frozen BK318.out 1
     go_wp2
     go_meet
     case rel => exact ⟨_, (decide (t311 < 0)), rsd, H', ⟨by first | omega | exact Nat.le_refl _⟩, ⟨by (with_reducible repeat (first | apply Kd.R_alloc | apply Kd.R_drewN | apply Kd.R_drew)); exact Kd.R_mono (Kd.R_far (p := ⟨gb318, 1, none⟩) (Kd.R_far (p := ⟨gb318, 0, none⟩) (Kd.R_types HO304.out BK318.out (by decide)) (fun _ hk => hk.2) (.int .i64 t313)) (fun _ hk => hk.2) (.slice Ao22 t314.length co22)) (fun _ hk => trivial)⟩, ⟨by (with_reducible repeat (first | apply Kd.R_alloc | apply Kd.R_drewN | apply Kd.R_drew)); exact Kd.R_mono (Kd.R_far (p := ⟨gb318, 1, none⟩) (Kd.R_far (p := ⟨gb318, 0, none⟩) (Kd.R_types HO310.out BK318.out (by decide)) (fun _ hk => hk.2) (.int .i64 t313)) (fun _ hk => hk.2) (.slice Ao22 t314.length co22)) (fun _ hk => hk.1.2)⟩, ⟨by (with_reducible repeat (first | apply Kd.R_alloc | apply Kd.R_drewN | apply Kd.R_drew)); exact Kd.R_mono (Kd.R_far (p := ⟨gb318, 1, none⟩) (Kd.R_far (p := ⟨gb318, 0, none⟩) (Kd.R_types HO316.out BK318.out (by decide)) (fun _ hk => hk.2) (.int .i64 t313)) (fun _ hk => hk.2) (.slice Ao22 t314.length co22)) (fun _ hk => hk.1.2)⟩, ⟨by (with_reducible repeat (first | refine blk_drewN ?_ _ | refine blk_drew ?_ | refine blk_alloc ?_ _)); refine blk_far ?_ NB306_318.out _; (with_reducible repeat (first | refine blk_drewN ?_ _ | refine blk_drew ?_ | refine blk_alloc ?_ _)); refine blk_far ?_ NB306_318.out _; (with_reducible repeat (first | refine blk_drewN ?_ _ | refine blk_drew ?_ | refine blk_alloc ?_ _)); exact BK306.out⟩, ⟨by (with_reducible repeat (first | refine blk_drewN ?_ _ | refine blk_drew ?_ | refine blk_alloc ?_ _)); refine blk_far ?_ NB312_318.out _; (with_reducible repeat (first | refine blk_drewN ?_ _ | refine blk_drew ?_ | refine blk_alloc ?_ _)); refine blk_far ?_ NB312_318.out _; (with_reducible repeat (first | refine blk_drewN ?_ _ | refine blk_drew ?_ | refine blk_alloc ?_ _)); exact BK312.out⟩, ⟨by (with_reducible repeat (first | refine blk_drewN ?_ _ | refine blk_drew ?_ | refine blk_alloc ?_ _)); refine blk_put (cs := #[.int .i64 t313, .slice none 0 0]) ?_ 1 _ rfl; (with_reducible repeat (first | refine blk_drewN ?_ _ | refine blk_drew ?_ | refine blk_alloc ?_ _)); refine blk_put (cs := #[.int .i64 0, .slice none 0 0]) ?_ 0 _ rfl; (with_reducible repeat (first | refine blk_drewN ?_ _ | refine blk_drew ?_ | refine blk_alloc ?_ _)); exact BK318.out⟩, ⟨by repeat (first | (with_reducible first | exact HB.out | apply bwA | apply bwN | apply bwD | refine below_set ?_ GE306.out | refine below_set ?_ GE312.out | refine below_set ?_ GE318.out) | exact HB.out)⟩⟩
    ·rw [if_neg c24] at H
     have c24b0 : ((t308.length : Int) == (t314.length : Int)) = false := beq_eq_false_iff_ne.mpr c24
     have c24b1 : ((t308.length : Int) != (t314.length : Int)) = true := bne_iff_ne.mpr c24
     have c24b2 : (t308.length == t314.length) = false := by first | simpa using c24 | (simp at c24 ⊢; omega)
     have H' := Aside0.mk H
     clear H
     have hnb30 := NB312_306.out
     have hnc30 := NB306_312.out
     have hnb31 := NB312_318.out
     have hnc31 := NB318_312.out
     have hcz32_0 : w18.cell? ⟨gb312, 0, none⟩ = some (.int .i64 t307) := (blk_cell BK312.out 0).trans rfl
     have hcz32_1 : w18.cell? ⟨gb312, 1, none⟩ = some (.slice Ao15 t308.length co15) := (blk_cell BK312.out 1).trans rfl
     have hfz32_0 := blk_frozen BK312.out 0
     have hfz32_1 := blk_frozen BK312.out 1
     have hnb33 := NB318_306.out
     have hnc33 := NB306_318.out
     have hcz34_0 : w18.cell? ⟨gb318, 0, none⟩ = some (.int .i64 0) := (blk_cell BK318.out 0).trans rfl
     have hcz34_1 : w18.cell? ⟨gb318, 1, none⟩ = some (.slice none 0 0) := (blk_cell BK318.out 1).trans rfl
     have hfz34_0 := blk_frozen BK318.out 0
     have hfz34_1 := blk_frozen BK318.out 1
     go_wp2
     go_meet
     case rel => exact ⟨_, (true), rsd, H', ⟨by first | omega | exact Nat.le_refl _⟩, ⟨by (with_reducible repeat (first | apply Kd.R_alloc | apply Kd.R_drewN | apply Kd.R_drew)); exact Kd.R_mono (Kd.R_far (p := ⟨gb318, 1, none⟩) (Kd.R_far (p := ⟨gb318, 0, none⟩) (Kd.R_types HO304.out BK318.out (by decide)) (fun _ hk => hk.2) (.int .i64 t313)) (fun _ hk => hk.2) (.slice Ao22 t314.length co22)) (fun _ hk => trivial)⟩, ⟨by (with_reducible repeat (first | apply Kd.R_alloc | apply Kd.R_drewN | apply Kd.R_drew)); exact Kd.R_mono (Kd.R_far (p := ⟨gb318, 1, none⟩) (Kd.R_far (p := ⟨gb318, 0, none⟩) (Kd.R_types HO310.out BK318.out (by decide)) (fun _ hk => hk.2) (.int .i64 t313)) (fun _ hk => hk.2) (.slice Ao22 t314.length co22)) (fun _ hk => hk.1.2)⟩, ⟨by (with_reducible repeat (first | apply Kd.R_alloc | apply Kd.R_drewN | apply Kd.R_drew)); exact Kd.R_mono (Kd.R_far (p := ⟨gb318, 1, none⟩) (Kd.R_far (p := ⟨gb318, 0, none⟩) (Kd.R_types HO316.out BK318.out (by decide)) (fun _ hk => hk.2) (.int .i64 t313)) (fun _ hk => hk.2) (.slice Ao22 t314.length co22)) (fun _ hk => hk.1.2)⟩, ⟨by (with_reducible repeat (first | refine blk_drewN ?_ _ | refine blk_drew ?_ | refine blk_alloc ?_ _)); refine blk_far ?_ NB306_318.out _; (with_reducible repeat (first | refine blk_drewN ?_ _ | refine blk_drew ?_ | refine blk_alloc ?_ _)); refine blk_far ?_ NB306_318.out _; (with_reducible repeat (first | refine blk_drewN ?_ _ | refine blk_drew ?_ | refine blk_alloc ?_ _)); exact BK306.out⟩, ⟨by (with_reducible repeat (first | refine blk_drewN ?_ _ | refine blk_drew ?_ | refine blk_alloc ?_ _)); refine blk_far ?_ NB312_318.out _; (with_reducible repeat (first | refine blk_drewN ?_ _ | refine blk_drew ?_ | refine blk_alloc ?_ _)); refine blk_far ?_ NB312_318.out _; (with_reducible repeat (first | refine blk_drewN ?_ _ | refine blk_drew ?_ | refine blk_alloc ?_ _)); exact BK312.out⟩, ⟨by (with_reducible repeat (first | refine blk_drewN ?_ _ | refine blk_drew ?_ | refine blk_alloc ?_ _)); refine blk_put (cs := #[.int .i64 t313, .slice none 0 0]) ?_ 1 _ rfl; (with_reducible repeat (first | refine blk_drewN ?_ _ | refine blk_drew ?_ | refine blk_alloc ?_ _)); refine blk_put (cs := #[.int .i64 0, .slice none 0 0]) ?_ 0 _ rfl; (with_reducible repeat (first | refine blk_drewN ?_ _ | refine blk_drew ?_ | refine blk_alloc ?_ _)); exact BK318.out⟩, ⟨by repeat (first | (with_reducible first | exact HB.out | apply bwA | apply bwN | apply bwD | refine below_set ?_ GE306.out | refine below_set ?_ GE312.out | refine below_set ?_ GE318.out) | exact HB.out)⟩⟩
   ·rw [if_neg c23] at H
    have c23b0 : (t311 == t317) = false := beq_eq_false_iff_ne.mpr c23
    have c23b1 : (t311 != t317) = true := bne_iff_ne.mpr c23
    (first | rw [c23b0] | (simp only [i64_w, i32_w]; rw [c23b0]) | skip)
    have H' := Aside0.mk H
    clear H
    go_wp2
    go_meet
    case rel => exact ⟨_, (true), rsd, H', ⟨by first | omega | exact Nat.le_refl _⟩, ⟨by (with_reducible repeat (first | apply Kd.R_alloc | apply Kd.R_drewN | apply Kd.R_drew)); exact Kd.R_mono (Kd.R_far (p := ⟨gb318, 1, none⟩) (Kd.R_far (p := ⟨gb318, 0, none⟩) (Kd.R_types HO304.out BK318.out (by decide)) (fun _ hk => hk.2) (.int .i64 t313)) (fun _ hk => hk.2) (.slice Ao22 t314.length co22)) (fun _ hk => trivial)⟩, ⟨by (with_reducible repeat (first | apply Kd.R_alloc | apply Kd.R_drewN | apply Kd.R_drew)); exact Kd.R_mono (Kd.R_far (p := ⟨gb318, 1, none⟩) (Kd.R_far (p := ⟨gb318, 0, none⟩) (Kd.R_types HO310.out BK318.out (by decide)) (fun _ hk => hk.2) (.int .i64 t313)) (fun _ hk => hk.2) (.slice Ao22 t314.length co22)) (fun _ hk => hk.1.2)⟩, ⟨by (with_reducible repeat (first | apply Kd.R_alloc | apply Kd.R_drewN | apply Kd.R_drew)); exact Kd.R_mono (Kd.R_far (p := ⟨gb318, 1, none⟩) (Kd.R_far (p := ⟨gb318, 0, none⟩) (Kd.R_types HO316.out BK318.out (by decide)) (fun _ hk => hk.2) (.int .i64 t313)) (fun _ hk => hk.2) (.slice Ao22 t314.length co22)) (fun _ hk => hk.1.2)⟩, ⟨by (with_reducible repeat (first | refine blk_drewN ?_ _ | refine blk_drew ?_ | refine blk_alloc ?_ _)); refine blk_far ?_ NB306_318.out _; (with_reducible repeat (first | refine blk_drewN ?_ _ | refine blk_drew ?_ | refine blk_alloc ?_ _)); refine blk_far ?_ NB306_318.out _; (with_reducible repeat (first | refine blk_drewN ?_ _ | refine blk_drew ?_ | refine blk_alloc ?_ _)); exact BK306.out⟩, ⟨by (with_reducible repeat (first | refine blk_drewN ?_ _ | refine blk_drew ?_ | refine blk_alloc ?_ _)); refine blk_far ?_ NB312_318.out _; (with_reducible repeat (first | refine blk_drewN ?_ _ | refine blk_drew ?_ | refine blk_alloc ?_ _)); refine blk_far ?_ NB312_318.out _; (with_reducible repeat (first | refine blk_drewN ?_ _ | refine blk_drew ?_ | refine blk_alloc ?_ _)); exact BK312.out⟩, ⟨by (with_reducible repeat (first | refine blk_drewN ?_ _ | refine blk_drew ?_ | refine blk_alloc ?_ _)); refine blk_put (cs := #[.int .i64 t313, .slice none 0 0]) ?_ 1 _ rfl; (with_reducible repeat (first | refine blk_drewN ?_ _ | refine blk_drew ?_ | refine blk_alloc ?_ _)); refine blk_put (cs := #[.int .i64 0, .slice none 0 0]) ?_ 0 _ rfl; (with_reducible repeat (first | refine blk_drewN ?_ _ | refine blk_drew ?_ | refine blk_alloc ?_ _)); exact BK318.out⟩, ⟨by repeat (first | (with_reducible first | exact HB.out | apply bwA | apply bwN | apply bwD | refine below_set ?_ GE306.out | refine below_set ?_ GE312.out | refine below_set ?_ GE318.out) | exact HB.out)⟩⟩
  case rest =>
   clear HC6
   try clear c1
   try clear c2
   try clear c2b0
   try clear c2b1
   try clear p2
   try clear c3
   try clear c6
   try clear c13
   try clear c19
   try clear c20
   try clear c23
   try clear c23b0
   try clear c23b1
   try clear c24
   try clear c24b0
   try clear c24b1
   try clear c24b2
   try clear c25
   try clear c26
   try clear c28
   try clear c30
   try clear c31
   try clear c32
   try clear c33
   try clear hcz14_0
   try clear hcz14_1
   try clear hcz16_0
   try clear hcz16_1
   try clear hcz21_0
   try clear hcz21_1
   try clear hcz27_0
   try clear hcz27_1
   try clear hcz29_0
   try clear hcz29_1
   try clear hcz32_0
   try clear hcz32_1
   try clear hcz34_0
   try clear hcz34_1
   try clear hcz9_0
   try clear hcz9_1
   try clear hfz14_0
   try clear hfz14_1
   try clear hfz16_0
   try clear hfz16_1
   try clear hfz21_0
   try clear hfz21_1
   try clear hfz27_0
   try clear hfz27_1
   try clear hfz29_0
   try clear hfz29_1
   try clear hfz32_0
   try clear hfz32_1
   try clear hfz34_0
   try clear hfz34_1
   try clear hfz9_0
   try clear hfz9_1
   obtain ⟨kq, x49_5, rfl, HA, HJ5, HO_307001, HO_313001, HO_319001, BK306, BK312, BK318, HB⟩ := hcut
   cases kq with
   | zero => exact absurd HA.out (by simp [laws_FnDiagramOf.j0])
   | succ kj5 =>
    have H := HA.out
    clear HA
    simp only [laws_FnDiagramOf.j0] at H
    by_cases c35 : x49_5 = true
    ·subst c35
     have H1 : (if t311 = t317 then (if (t308.length : Int) = (t314.length : Int) then (some (t311 == (-1))) else (some false)) else (some false)) = some r := by rw [if_pos rfl] at H; exact H
     clear H
     have H := H1
     clear H1
     by_cases c36 : t311 = t317
     ·rw [if_pos c36] at H
      have c36b0 : (t311 == t317) = true := beq_iff_eq.mpr c36
      have c36b1 : (t311 != t317) = false := bne_eq_false_iff_eq.mpr c36
      clear c36
      by_cases c37 : (t308.length : Int) = (t314.length : Int)
      ·rw [if_pos c37] at H
       have c37b0 : ((t308.length : Int) == (t314.length : Int)) = true := beq_iff_eq.mpr c37
       have c37b1 : ((t308.length : Int) != (t314.length : Int)) = false := bne_eq_false_iff_eq.mpr c37
       have c37b2 : (t308.length == t314.length) = true := by first | simpa using c37 | (simp at c37 ⊢; omega)
       clear c37
       obtain rfl := Option.some.inj H
       have hnb38 := NB312_306.out
       have hnc38 := NB306_312.out
       have hnb39 := NB312_318.out
       have hnc39 := NB318_312.out
       have hcz40_0 : wc.cell? ⟨gb312, 0, none⟩ = some (.int .i64 t307) := (blk_cell BK312.out 0).trans rfl
       have hcz40_1 : wc.cell? ⟨gb312, 1, none⟩ = some (.slice Ao15 t308.length co15) := (blk_cell BK312.out 1).trans rfl
       have hfz40_0 := blk_frozen BK312.out 0
       have hfz40_1 := blk_frozen BK312.out 1
       have hnb41 := NB318_306.out
       have hnc41 := NB306_318.out
       have hcz42_0 : wc.cell? ⟨gb318, 0, none⟩ = some (.int .i64 t313) := (blk_cell BK318.out 0).trans rfl
       have hcz42_1 : wc.cell? ⟨gb318, 1, none⟩ = some (.slice Ao22 t314.length co22) := (blk_cell BK318.out 1).trans rfl
       have hfz42_0 := blk_frozen BK318.out 0
       have hfz42_1 := blk_frozen BK318.out 1
       go_wp2
       go_ret
       exact ⟨ers, by repeat (first | (with_reducible first | exact HB.out | apply bwA | apply bwN | apply bwD | refine below_set ?_ GE306.out | refine below_set ?_ GE312.out | refine below_set ?_ GE318.out) | exact HB.out)⟩
      ·rw [if_neg c37] at H
       have c37b0 : ((t308.length : Int) == (t314.length : Int)) = false := beq_eq_false_iff_ne.mpr c37
       have c37b1 : ((t308.length : Int) != (t314.length : Int)) = true := bne_iff_ne.mpr c37
       have c37b2 : (t308.length == t314.length) = false := by first | simpa using c37 | (simp at c37 ⊢; omega)
       obtain rfl := Option.some.inj H
       have hnb43 := NB312_306.out
       have hnc43 := NB306_312.out
       have hnb44 := NB312_318.out
       have hnc44 := NB318_312.out
       have hcz45_0 : wc.cell? ⟨gb312, 0, none⟩ = some (.int .i64 t307) := (blk_cell BK312.out 0).trans rfl
       have hcz45_1 : wc.cell? ⟨gb312, 1, none⟩ = some (.slice Ao15 t308.length co15) := (blk_cell BK312.out 1).trans rfl
       have hfz45_0 := blk_frozen BK312.out 0
       have hfz45_1 := blk_frozen BK312.out 1
       have hnb46 := NB318_306.out
       have hnc46 := NB306_318.out
       have hcz47_0 : wc.cell? ⟨gb318, 0, none⟩ = some (.int .i64 t313) := (blk_cell BK318.out 0).trans rfl
       have hcz47_1 : wc.cell? ⟨gb318, 1, none⟩ = some (.slice Ao22 t314.length co22) := (blk_cell BK318.out 1).trans rfl
       have hfz47_0 := blk_frozen BK318.out 0
       have hfz47_1 := blk_frozen BK318.out 1
       go_wp2
       go_ret
       exact ⟨ers, by repeat (first | (with_reducible first | exact HB.out | apply bwA | apply bwN | apply bwD | refine below_set ?_ GE306.out | refine below_set ?_ GE312.out | refine below_set ?_ GE318.out) | exact HB.out)⟩
     ·rw [if_neg c36] at H
      have c36b0 : (t311 == t317) = false := beq_eq_false_iff_ne.mpr c36
      have c36b1 : (t311 != t317) = true := bne_iff_ne.mpr c36
      obtain rfl := Option.some.inj H
      go_wp2
      go_ret
      exact ⟨ers, by repeat (first | (with_reducible first | exact HB.out | apply bwA | apply bwN | apply bwD | refine below_set ?_ GE306.out | refine below_set ?_ GE312.out | refine below_set ?_ GE318.out) | exact HB.out)⟩
    ·replace c35 := Bool.eq_false_iff.mpr c35
     subst c35
     have H1 : (if 0 ≤ t301 then (laws_FnDiagramOf.l0 kj5 t305 t311 0 (shl .i64 1 t301) 0 t301 t302 t307 t308) else (none)) = some r := by rw [if_neg (show ¬ (false = true) by decide)] at H; exact H
     clear H
     have H := H1
     clear H1
     by_cases c48 : 0 ≤ t301
     ·rw [if_pos c48] at H
      have c48b0 := eq_true c48
      have c48b1 : decide (0 ≤ t301) = true := decide_eq_true c48
      clear c48
      obtain ⟨ji49, hji49⟩ : ∃ j_ : Int, (shl .i64 1 t301) = j_ := ⟨_, rfl⟩
      replace H : (laws_FnDiagramOf.l0 kj5 t305 t311 0 ji49 0 t301 t302 t307 t308) = some r := by first | (rw [hji49] at H; exact H) | (simp only [hji49] at H ⊢; exact H)
      have hji49_ : (IntKind.i64.wrap (1 * 2 ^ min t301.toNat 64)) = ji49 := hji49
      have hji49z : t301 ≤ 64 → (IntKind.i64.wrap (1 * 2 ^ t301.toNat)) = ji49 := shl_small hji49
      have hji49u : (IntKind.i64.wrap (2 ^ min t301.toNat 64)) = ji49 := by have h_ := hji49_; rw [Int.one_mul] at h_; exact h_
      have hji49v : t301 ≤ 64 → (IntKind.i64.wrap (2 ^ t301.toNat)) = ji49 := fun hle_ => by have h_ := hji49z hle_; rw [Int.one_mul] at h_; exact h_
      have hji49y : (wrap64 (1 * 2 ^ min t301.toNat 64)) = ji49 := (i64_w _).symm.trans hji49_
      have hji49x : t301 ≤ 64 → (wrap64 (1 * 2 ^ t301.toNat)) = ji49 := fun h_ => (i64_w _).symm.trans (hji49z h_)
      have H' := Aside0.mk H
      clear H
      have hnb50 := NB306_312.out
      have hnc50 := NB312_306.out
      have hnb51 := NB306_318.out
      have hnc51 := NB318_306.out
      have hcz52_0 : wc.cell? ⟨gb306, 0, none⟩ = some (.int .i64 t301) := (blk_cell BK306.out 0).trans rfl
      have hcz52_1 : wc.cell? ⟨gb306, 1, none⟩ = some (.slice Ao10 t302.length co10) := (blk_cell BK306.out 1).trans rfl
      have hfz52_0 := blk_frozen BK306.out 0
      have hfz52_1 := blk_frozen BK306.out 1
      go_wp2
      go_loopg [9, 69] kj5 (fun kq v9 v69 w' => ∃ (x9_2 : Int) (x69_2 : Int), v9 = .int .i64 x9_2 ∧ v69 = .int .i64 x69_2 ∧ Aside0 (laws_FnDiagramOf.l0 kq t305 t311 x9_2 ji49 x69_2 t301 t302 t307 t308 = some r) ∧ Aside0 (kq ≤ kj5) ∧ Aside0 (Kd.R k121 121 w' w.heap.size (fun _ => True) (.slice Ao10 t302.length co10) t302) ∧ Aside0 (Kd.R k71 71 w' w.heap.size (fun k_ => some k_ ≠ ((.slice Ao22 t314.length co22) : Value).ownBlock) (.slice Ao15 t308.length co15) t308) ∧ Aside0 (Kd.R k71 71 w' w.heap.size (fun k_ => some k_ ≠ ((.slice Ao15 t308.length co15) : Value).ownBlock) (.slice Ao22 t314.length co22) t314) ∧ Aside0 (w'.heap[gb306]? = some (.cells #[.int .i64 t301, (.slice Ao10 t302.length co10)] 45 (0, 0))) ∧ Aside0 (w'.heap[gb312]? = some (.cells #[.int .i64 t307, (.slice Ao15 t308.length co15)] 25 (0, 0))) ∧ Aside0 (w'.heap[gb318]? = some (.cells #[.int .i64 t313, (.slice Ao22 t314.length co22)] 25 (0, 0))) ∧ Aside0 (Below w.heap.size w w'))
      case atStart => exact ⟨(0), (0), rsd, rsd, H', ⟨Nat.le_refl _⟩, ⟨rvR HO_307001.out⟩, ⟨rvR HO_313001.out⟩, ⟨rvR HO_319001.out⟩, ⟨bvK BK306.out⟩, ⟨bvK BK312.out⟩, ⟨bvK BK318.out⟩, ⟨by repeat (first | (with_reducible first | exact HB.out | apply bwA | apply bwN | apply bwD | refine below_set ?_ GE306.out | refine below_set ?_ GE312.out | refine below_set ?_ GE318.out) | exact HB.out)⟩⟩
      case round =>
       clear H'
       try clear c1
       try clear c2
       try clear c2b0
       try clear c2b1
       try clear p2
       try clear c3
       try clear c4
       try clear c5
       try clear c6
       try clear p6
       try clear c13
       try clear c19
       try clear c20
       try clear c23
       try clear c23b0
       try clear c23b1
       try clear c24
       try clear c24b0
       try clear c24b1
       try clear c24b2
       try clear c25
       try clear c26
       try clear c28
       try clear c30
       try clear c31
       try clear c32
       try clear c33
       try clear c35
       try clear c36
       try clear c36b0
       try clear c36b1
       try clear c37
       try clear c37b0
       try clear c37b1
       try clear c37b2
       try clear c38
       try clear c39
       try clear c41
       try clear c43
       try clear c44
       try clear c46
       try clear c48
       try clear c48b0
       try clear c48b1
       try clear c50
       try clear c51
       try clear hcz14_0
       try clear hcz14_1
       try clear hcz16_0
       try clear hcz16_1
       try clear hcz21_0
       try clear hcz21_1
       try clear hcz27_0
       try clear hcz27_1
       try clear hcz29_0
       try clear hcz29_1
       try clear hcz32_0
       try clear hcz32_1
       try clear hcz34_0
       try clear hcz34_1
       try clear hcz40_0
       try clear hcz40_1
       try clear hcz42_0
       try clear hcz42_1
       try clear hcz45_0
       try clear hcz45_1
       try clear hcz47_0
       try clear hcz47_1
       try clear hcz52_0
       try clear hcz52_1
       try clear hcz9_0
       try clear hcz9_1
       try clear hfz14_0
       try clear hfz14_1
       try clear hfz16_0
       try clear hfz16_1
       try clear hfz21_0
       try clear hfz21_1
       try clear hfz27_0
       try clear hfz27_1
       try clear hfz29_0
       try clear hfz29_1
       try clear hfz32_0
       try clear hfz32_1
       try clear hfz34_0
       try clear hfz34_1
       try clear hfz40_0
       try clear hfz40_1
       try clear hfz42_0
       try clear hfz42_1
       try clear hfz45_0
       try clear hfz45_1
       try clear hfz47_0
       try clear hfz47_1
       try clear hfz52_0
       try clear hfz52_1
       try clear hfz9_0
       try clear hfz9_1
       try clear p2
       obtain ⟨x9_2, x69_2, rfl, rfl, HA, HK2, HO_307001, HO_313001, HO_319001, BK306, BK312, BK318, HB⟩ := hrel
       cases gk with
       | zero => exact absurd HA.out (by simp [laws_FnDiagramOf.l0])
       | succ k2 =>
        have H := HA.out
        clear HA
        simp only [laws_FnDiagramOf.l0] at H
        by_cases c53 : x69_2 < ji49
        ·rw [if_pos c53] at H
         have c53b0 : decide (x69_2 < ji49) = true := decide_eq_true c53
         clear c53
         obtain ⟨y321, hy321⟩ : ∃ y_ : List Int, y_ = (([] : List Int)) := ⟨_, rfl⟩
         replace H : (laws_FnDiagramOf.l1 k2 t305 t311 x9_2 x69_2 y321 ji49 x69_2 t301 0 t301 t302 t307 t308) = some r := by first | (rw [hy321]; with_reducible exact H) | (have H2_ := (Option.bind_some _ _).symm.trans H; rw [hy321]; with_reducible exact H2_) | (have H2_ := (Option.bind_some _ _).symm.trans H; with_reducible exact H2_) | with_reducible exact H | (rw [hy321]; exact H) | exact H
         have Ny321 := Aside0.mk hy321
         clear hy321
         have H' := Aside0.mk H
         clear H
         go_wp2_with (first | ((with_reducible refine gate_dst (N := 72) rfl ?_); (try (refine gate_guard (by rfl) ?_; dsimp only)); refine Kd.R_lit (Kd.int .i64) _ 3 ?hg (N := 72) ?hd (xs := ([] : List Int)) (inner := []) (ok := fun _ => True) (okp := fun _ => True) ?hr ?hp (fun _ hk => hk) trivial (Below.refl _ _) (Nat.le_refl _) (by simp) ?_; (case hd => rfl); (case hg => rfl); (case hr => first | (go_simp; done) | (go_simp; rfl)); (case hp => exact (Reps.none _ _)); intro v322 w54 ho55 hb hg_ hnew_; clear hg_ hnew_; (first | rw [← Ny321.out] at ho55 | (simp only [Int.reduceToNat] at ho55; rw [← Ny321.out] at ho55)); have n0_ := Aside0.mk (Kd.R_below (rvR HO_307001.out) hb); have n1_ := Aside0.mk (Kd.R_below (rvR HO_313001.out) hb); have n2_ := Aside0.mk (Kd.R_below (rvR HO_319001.out) hb); have n3_ := Aside0.mk (Kd.R_lower ho55 (below_size (by repeat (first | (with_reducible first | exact HB.out | apply bwA | apply bwN | apply bwD | refine below_set ?_ GE306.out | refine below_set ?_ GE312.out | refine below_set ?_ GE318.out) | exact HB.out)))); have n4_ := Aside0.mk (blk_below (g := gb306) (o := .cells #[.int .i64 t301, .slice Ao10 t302.length co10] 45 (0, 0)) (bvK BK306.out) hb); have n5_ := Aside0.mk (blk_below (g := gb312) (o := .cells #[.int .i64 t307, .slice Ao15 t308.length co15] 25 (0, 0)) (bvK BK312.out) hb); have n6_ := Aside0.mk (blk_below (g := gb318) (o := .cells #[.int .i64 t313, .slice Ao22 t314.length co22] 25 (0, 0)) (bvK BK318.out) hb); have n7_ := Aside0.mk (below_step (by repeat (first | (with_reducible first | exact HB.out | apply bwA | apply bwN | apply bwD | refine below_set ?_ GE306.out | refine below_set ?_ GE312.out | refine below_set ?_ GE318.out) | exact HB.out)) hb); clear HO_307001; clear HO_313001; clear HO_319001; clear BK306; clear BK312; clear BK318; clear HB; have HO_307001 := n0_; have HO_313001 := n1_; have HO_319001 := n2_; have HO323 := n3_; have BK306 := n4_; have BK312 := n5_; have BK318 := n6_; have HB := n7_; clear n0_ n1_ n2_ n3_ n4_ n5_ n6_ n7_; clear hb ho55; have hnb56 := NB306_312.out; have hnc56 := NB312_306.out; have hnb57 := NB306_318.out; have hnc57 := NB318_306.out; have hcz58_0 : w54.cell? ⟨gb306, 0, none⟩ = some (.int .i64 t301) := (blk_cell BK306.out 0).trans rfl; have hcz58_1 : w54.cell? ⟨gb306, 1, none⟩ = some (.slice Ao10 t302.length co10) := (blk_cell BK306.out 1).trans rfl; have hfz58_0 := blk_frozen BK306.out 0; have hfz58_1 := blk_frozen BK306.out 1))
         go_loopg [11, 75] k2 (fun kq v11 v75 w' => ∃ (x11_3 : List Int) (x75_3 : Int), v75 = .int .i64 x75_3 ∧ Aside0 (laws_FnDiagramOf.l1 kq t305 t311 x9_2 x69_2 x11_3 ji49 x69_2 t301 x75_3 t301 t302 t307 t308 = some r) ∧ Aside0 (kq ≤ k2) ∧ Aside0 (Kd.R (Kd.int .i64) 3 w' w.heap.size (fun _ => True) v11 x11_3) ∧ Aside0 (Kd.R k121 121 w' w.heap.size (fun _ => True) (.slice Ao10 t302.length co10) t302) ∧ Aside0 (Kd.R k71 71 w' w.heap.size (fun k_ => some k_ ≠ ((.slice Ao22 t314.length co22) : Value).ownBlock) (.slice Ao15 t308.length co15) t308) ∧ Aside0 (Kd.R k71 71 w' w.heap.size (fun k_ => some k_ ≠ ((.slice Ao15 t308.length co15) : Value).ownBlock) (.slice Ao22 t314.length co22) t314) ∧ Aside0 (w'.heap[gb306]? = some (.cells #[.int .i64 t301, (.slice Ao10 t302.length co10)] 45 (0, 0))) ∧ Aside0 (w'.heap[gb312]? = some (.cells #[.int .i64 t307, (.slice Ao15 t308.length co15)] 25 (0, 0))) ∧ Aside0 (w'.heap[gb318]? = some (.cells #[.int .i64 t313, (.slice Ao22 t314.length co22)] 25 (0, 0))) ∧ Aside0 (Below w.heap.size w w'))
         case atStart => exact ⟨(y321), (0), rsd, H', ⟨Nat.le_refl _⟩, ⟨rvR HO323.out⟩, ⟨rvR HO_307001.out⟩, ⟨rvR HO_313001.out⟩, ⟨rvR HO_319001.out⟩, ⟨bvK BK306.out⟩, ⟨bvK BK312.out⟩, ⟨bvK BK318.out⟩, ⟨by repeat (first | (with_reducible first | exact HB.out | apply bwA | apply bwN | apply bwD | refine below_set ?_ GE306.out | refine below_set ?_ GE312.out | refine below_set ?_ GE318.out) | exact HB.out)⟩⟩
         case round =>
          clear H'
          try clear c1
          try clear c2
          try clear c2b0
          try clear c2b1
          try clear p2
          try clear c3
          try clear c4
          try clear c5
          try clear c6
          try clear p6
          try clear c13
          try clear c19
          try clear c20
          try clear c23
          try clear c23b0
          try clear c23b1
          try clear c24
          try clear c24b0
          try clear c24b1
          try clear c24b2
          try clear c25
          try clear c26
          try clear c28
          try clear c30
          try clear c31
          try clear c32
          try clear c33
          try clear c35
          try clear c36
          try clear c36b0
          try clear c36b1
          try clear c37
          try clear c37b0
          try clear c37b1
          try clear c37b2
          try clear c38
          try clear c39
          try clear c41
          try clear c43
          try clear c44
          try clear c46
          try clear c48
          try clear c48b0
          try clear c48b1
          try clear c50
          try clear c51
          try clear c53
          try clear c53b0
          try clear c56
          try clear c57
          try clear hcz14_0
          try clear hcz14_1
          try clear hcz16_0
          try clear hcz16_1
          try clear hcz21_0
          try clear hcz21_1
          try clear hcz27_0
          try clear hcz27_1
          try clear hcz29_0
          try clear hcz29_1
          try clear hcz32_0
          try clear hcz32_1
          try clear hcz34_0
          try clear hcz34_1
          try clear hcz40_0
          try clear hcz40_1
          try clear hcz42_0
          try clear hcz42_1
          try clear hcz45_0
          try clear hcz45_1
          try clear hcz47_0
          try clear hcz47_1
          try clear hcz52_0
          try clear hcz52_1
          try clear hcz58_0
          try clear hcz58_1
          try clear hcz9_0
          try clear hcz9_1
          try clear hfz14_0
          try clear hfz14_1
          try clear hfz16_0
          try clear hfz16_1
          try clear hfz21_0
          try clear hfz21_1
          try clear hfz27_0
          try clear hfz27_1
          try clear hfz29_0
          try clear hfz29_1
          try clear hfz32_0
          try clear hfz32_1
          try clear hfz34_0
          try clear hfz34_1
          try clear hfz40_0
          try clear hfz40_1
          try clear hfz42_0
          try clear hfz42_1
          try clear hfz45_0
          try clear hfz45_1
          try clear hfz47_0
          try clear hfz47_1
          try clear hfz52_0
          try clear hfz52_1
          try clear hfz58_0
          try clear hfz58_1
          try clear hfz9_0
          try clear hfz9_1
          try clear p2
          try clear p6
          obtain ⟨x11_3, x75_3, rfl, HA, HK3, HO_11, HO_307001, HO_313001, HO_319001, BK306, BK312, BK318, HB⟩ := hrel
          cases gk with
          | zero => exact absurd HA.out (by simp [laws_FnDiagramOf.l1])
          | succ k3 =>
           have H := HA.out
           clear HA
           simp only [laws_FnDiagramOf.l1] at H
           by_cases c59 : x75_3 < t301
           ·rw [if_pos c59] at H
            have c59b0 : decide (x75_3 < t301) = true := decide_eq_true c59
            clear c59
            by_cases c60 : 0 ≤ x75_3
            ·rw [if_pos c60] at H
             have c60b0 := eq_true c60
             have c60b1 : decide (0 ≤ x75_3) = true := decide_eq_true c60
             clear c60
             obtain ⟨ji61, hji61⟩ : ∃ j_ : Int, (shr .i64 x69_2 x75_3) = j_ := ⟨_, rfl⟩
             replace H : (if x11_3.length < 17592186044416 then (laws_FnDiagramOf.l1 k3 t305 t311 x9_2 x69_2 (x11_3 ++ [Int.tmod (ji61) 2]) ji49 x69_2 t301 (wrap64 (x75_3 + 1)) t301 t302 t307 t308) else (none)) = some r := by first | (rw [hji61] at H; exact H) | (simp only [hji61] at H ⊢; exact H)
             have hji61_ : (x69_2 / 2 ^ min x75_3.toNat 64) = ji61 := hji61
             have hji61z : x75_3 ≤ 64 → (x69_2 / 2 ^ x75_3.toNat) = ji61 := shr_small hji61
             by_cases c62 : x11_3.length < 17592186044416
             ·rw [if_pos c62] at H
              have LMc62 := Aside0.mk c62
              clear c62
              obtain ⟨y324, hy324⟩ : ∃ y_ : List Int, y_ = (x11_3 ++ [Int.tmod (ji61) 2]) := ⟨_, rfl⟩
              replace H : (laws_FnDiagramOf.l1 k3 t305 t311 x9_2 x69_2 y324 ji49 x69_2 t301 (wrap64 (x75_3 + 1)) t301 t302 t307 t308) = some r := by first | (rw [hy324]; with_reducible exact H) | (have H2_ := (Option.bind_some _ _).symm.trans H; rw [hy324]; with_reducible exact H2_) | (have H2_ := (Option.bind_some _ _).symm.trans H; with_reducible exact H2_) | with_reducible exact H | (rw [hy324]; exact H) | exact H
              have Ny324 := Aside0.mk hy324
              clear hy324
              have H' := Aside0.mk H
              clear H
              go_wp2_with (first | ((with_reducible refine gate_builtin (b := .append) (xs := #[.tmp 78, .tmp 83]) rfl ?_); (try (refine gate_guard (by rfl) ?_; dsimp only)); at_builtin; refine Kd.R_append (Kd.int .i64) (w0 := w) w.heap.size rfl (.tmp 78) (.tmp 83) 49 3 (.int .i64 0) 8 rfl Try.underlying49 info3 rfl (by decide) (by omega) u11 x11_3 (Int.tmod (ji61) 2) [.int .i64 (Int.tmod (ji61) 2)] (fun _ => True) (fun _ => False) rfl rfl ?aP (fun _ hk => hk.elim) ?aF ?aO ?aB ?aS ?aL ?_; (case aP => exact rfl); (case aB => exact (by repeat (first | (with_reducible first | exact HB.out | apply bwA | apply bwN | apply bwD | refine below_set ?_ GE306.out | refine below_set ?_ GE312.out | refine below_set ?_ GE318.out) | exact HB.out))); (case aF => exact (fun _ _ => trivial)); (case aO => exact (rvR HO_11.out)); (case aS => exact (below_size (by repeat (first | (with_reducible first | exact HB.out | apply bwA | apply bwN | apply bwD | refine below_set ?_ GE306.out | refine below_set ?_ GE312.out | refine below_set ?_ GE318.out) | exact HB.out)))); (case aL => have := LMc62.out; omega); intro v325 w63 ho hb hg hat; rw [← Ny324.out] at ho; have n0_ := Aside0.mk (Kd.R_over' (rvR HO_307001.out) (Kd.R_typed (rvR HO_11.out)) (by decide) hg); have n1_ := Aside0.mk (Kd.R_over' (rvR HO_313001.out) (Kd.R_typed (rvR HO_11.out)) (by decide) hg); have n2_ := Aside0.mk (Kd.R_over' (rvR HO_319001.out) (Kd.R_typed (rvR HO_11.out)) (by decide) hg); have n3_ := Aside0.mk (blk_grown (g := gb306) (o := .cells #[.int .i64 t301, .slice Ao10 t302.length co10] 45 (0, 0)) (bvK BK306.out) hg (Kd.R_ne HO_11.out BK306.out (by decide))); have n4_ := Aside0.mk (blk_grown (g := gb312) (o := .cells #[.int .i64 t307, .slice Ao15 t308.length co15] 25 (0, 0)) (bvK BK312.out) hg (Kd.R_ne HO_11.out BK312.out (by decide))); have n5_ := Aside0.mk (blk_grown (g := gb318) (o := .cells #[.int .i64 t313, .slice Ao22 t314.length co22] 25 (0, 0)) (bvK BK318.out) hg (Kd.R_ne HO_11.out BK318.out (by decide))); have n6_ := Aside0.mk (hb); have n7_ := Aside0.mk (ho); clear HO_307001; clear HO_313001; clear HO_319001; clear BK306; clear BK312; clear BK318; clear HB; clear HO_11; have HO_307001 := n0_; have HO_313001 := n1_; have HO_319001 := n2_; have BK306 := n3_; have BK312 := n4_; have BK318 := n5_; have HB := n6_; have HO326 := n7_; clear n0_ n1_ n2_ n3_ n4_ n5_ n6_ n7_; clear ho hb hg hat))
              go_roundg k3
              case measure => have := HJ5.out; have := HK2.out; have := HK3.out; omega
              case rel => exact ⟨(y324), (wrap64 (x75_3 + 1)), rsd, H', ⟨by have := HJ5.out; have := HK2.out; have := HK3.out; omega⟩, ⟨rvR HO326.out⟩, ⟨rvR HO_307001.out⟩, ⟨rvR HO_313001.out⟩, ⟨rvR HO_319001.out⟩, ⟨bvK BK306.out⟩, ⟨bvK BK312.out⟩, ⟨bvK BK318.out⟩, ⟨by repeat (first | (with_reducible first | exact HB.out | apply bwA | apply bwN | apply bwD | refine below_set ?_ GE306.out | refine below_set ?_ GE312.out | refine below_set ?_ GE318.out) | exact HB.out)⟩⟩
             ·rw [if_neg c62] at H
              exact absurd H (by simp)
            ·rw [if_neg c60] at H
             exact absurd H (by simp)
           ·rw [if_neg c59] at H
            have c59b0 : decide (x75_3 < t301) = false := decide_eq_false c59
            clear c59
            replace H := Option.bind_eq_some_iff.mp H
            obtain ⟨t327, A640, H⟩ := H
            replace H : ((impl_DiagramValue.f k3 t307 t308 t311 x11_3).bind fun t328 => (if t328 = t327 then (laws_FnDiagramOf.l0 k3 t305 t311 (wrap64 (x9_2 + t327)) ji49 (wrap64 (x69_2 + 1)) t301 t302 t307 t308) else (some false))) = some r := H
            have A64 := Aside0.mk A640
            clear A640
            replace H := Option.bind_eq_some_iff.mp H
            obtain ⟨t328, A650, H⟩ := H
            replace H : (if t328 = t327 then (laws_FnDiagramOf.l0 k3 t305 t311 (wrap64 (x9_2 + t327)) ji49 (wrap64 (x69_2 + 1)) t301 t302 t307 t308) else (some false)) = some r := H
            have A65 := Aside0.mk A650
            clear A650
            by_cases c66 : t328 = t327
            ·rw [if_pos c66] at H
             have c66b0 : (t328 == t327) = true := beq_iff_eq.mpr c66
             have c66b1 : (t328 != t327) = false := bne_eq_false_iff_eq.mpr c66
             clear c66
             have H' := Aside0.mk H
             clear H
             have hnb67 := NB306_312.out
             have hnc67 := NB312_306.out
             have hnb68 := NB306_318.out
             have hnc68 := NB318_306.out
             have hcz69_0 : wr.cell? ⟨gb306, 0, none⟩ = some (.int .i64 t301) := (blk_cell BK306.out 0).trans rfl
             have hcz69_1 : wr.cell? ⟨gb306, 1, none⟩ = some (.slice Ao10 t302.length co10) := (blk_cell BK306.out 1).trans rfl
             have hfz69_0 := blk_frozen BK306.out 0
             have hfz69_1 := blk_frozen BK306.out 1
             obtain ⟨Ao70, co70, eo70⟩ := Kd.R_slice HO_11.out
             subst eo70
             go_wp2_with (first | ((with_reducible refine gate_callee (f := 33) rfl ?_); refine goesL_ (some 89) rfl rfl Try.func33 (by kernel_rfl) rfl #[.agg #[.int .i64 t301, .slice Ao10 t302.length co10], .slice Ao70 x11_3.length co70, .int .i64 t305] rfl lmB ?_; (with_reducible refine (impl_EdgeValue.calls k3 t301 _ _ t302 _ _ x11_3 t305 t327 _ ?side1 ?side2 ?side3 ?side4 A64.out).mono ?_); (case side1 => repeat (first | exact (Kd.R_reads' HO_307001.out).2.2 | (with_reducible refine Kd.C_alloc ?_ _) | (with_reducible refine Kd.C_drewN ?_ _) | (with_reducible refine Kd.C_drew ?_))); (case side2 => exact (Kd.R_reads' HO_307001.out).2.1); (case side3 => repeat (first | exact (Kd.R_reads' HO_11.out).2.2 | (with_reducible refine Kd.C_alloc ?_ _) | (with_reducible refine Kd.C_drewN ?_ _) | (with_reducible refine Kd.C_drew ?_))); (case side4 => exact (Kd.R_reads' HO_11.out).2.1); rintro e w71 ⟨rfl, hb⟩; refine ⟨_, rfl, ?_⟩; have n0_ := Aside0.mk (Kd.R_below (rvR HO_11.out) hb); have n1_ := Aside0.mk (Kd.R_below (rvR HO_307001.out) hb); have n2_ := Aside0.mk (Kd.R_below (rvR HO_313001.out) hb); have n3_ := Aside0.mk (Kd.R_below (rvR HO_319001.out) hb); have n4_ := Aside0.mk (blk_below (g := gb306) (o := .cells #[.int .i64 t301, .slice Ao10 t302.length co10] 45 (0, 0)) (bvK BK306.out) hb); have n5_ := Aside0.mk (blk_below (g := gb312) (o := .cells #[.int .i64 t307, .slice Ao15 t308.length co15] 25 (0, 0)) (bvK BK312.out) hb); have n6_ := Aside0.mk (blk_below (g := gb318) (o := .cells #[.int .i64 t313, .slice Ao22 t314.length co22] 25 (0, 0)) (bvK BK318.out) hb); have n7_ := Aside0.mk (below_step (by repeat (first | (with_reducible first | exact HB.out | apply bwA | apply bwN | apply bwD | refine below_set ?_ GE306.out | refine below_set ?_ GE312.out | refine below_set ?_ GE318.out) | exact HB.out)) hb); clear HO_11; clear HO_307001; clear HO_313001; clear HO_319001; clear BK306; clear BK312; clear BK318; clear HB; have HO_11 := n0_; have HO_307001 := n1_; have HO_313001 := n2_; have HO_319001 := n3_; have BK306 := n4_; have BK312 := n5_; have BK318 := n6_; have HB := n7_; clear n0_ n1_ n2_ n3_ n4_ n5_ n6_ n7_; (try clear hb); (try clear hb2); (try clear hk); (try clear hi); have hnb72 := NB312_318.out; have hnc72 := NB318_312.out; have hcz73_0 : w71.cell? ⟨gb312, 0, none⟩ = some (.int .i64 t307) := (blk_cell BK312.out 0).trans rfl; have hcz73_1 : w71.cell? ⟨gb312, 1, none⟩ = some (.slice Ao15 t308.length co15) := (blk_cell BK312.out 1).trans rfl; have hfz73_0 := blk_frozen BK312.out 0; have hfz73_1 := blk_frozen BK312.out 1) | ((with_reducible refine gate_callee (f := 34) rfl ?_); refine goesL_ (some 93) rfl rfl Try.func34 (by kernel_rfl) rfl #[.agg #[.int .i64 t307, .slice Ao15 t308.length co15], .int .i64 t311, .slice Ao70 x11_3.length co70] rfl lmB ?_; (with_reducible refine (impl_DiagramValue.calls k3 t307 _ _ t308 t311 _ _ x11_3 t328 _ ?side1 ?side2 ?side3 ?side4 A65.out).mono ?_); (case side1 => repeat (first | exact (Kd.R_reads' HO_313001.out).2.2 | (with_reducible refine Kd.C_alloc ?_ _) | (with_reducible refine Kd.C_drewN ?_ _) | (with_reducible refine Kd.C_drew ?_))); (case side2 => exact (Kd.R_reads' HO_313001.out).2.1); (case side3 => repeat (first | exact (Kd.R_reads' HO_11.out).2.2 | (with_reducible refine Kd.C_alloc ?_ _) | (with_reducible refine Kd.C_drewN ?_ _) | (with_reducible refine Kd.C_drew ?_))); (case side4 => exact (Kd.R_reads' HO_11.out).2.1); rintro e w74 ⟨rfl, hb⟩; refine ⟨_, rfl, ?_⟩; have n0_ := Aside0.mk (Kd.R_below (rvR HO_11.out) hb); have n1_ := Aside0.mk (Kd.R_below (rvR HO_307001.out) hb); have n2_ := Aside0.mk (Kd.R_below (rvR HO_313001.out) hb); have n3_ := Aside0.mk (Kd.R_below (rvR HO_319001.out) hb); have n4_ := Aside0.mk (blk_below (g := gb306) (o := .cells #[.int .i64 t301, .slice Ao10 t302.length co10] 45 (0, 0)) (bvK BK306.out) hb); have n5_ := Aside0.mk (blk_below (g := gb312) (o := .cells #[.int .i64 t307, .slice Ao15 t308.length co15] 25 (0, 0)) (bvK BK312.out) hb); have n6_ := Aside0.mk (blk_below (g := gb318) (o := .cells #[.int .i64 t313, .slice Ao22 t314.length co22] 25 (0, 0)) (bvK BK318.out) hb); have n7_ := Aside0.mk (below_step (by repeat (first | (with_reducible first | exact HB.out | apply bwA | apply bwN | apply bwD | refine below_set ?_ GE306.out | refine below_set ?_ GE312.out | refine below_set ?_ GE318.out) | exact HB.out)) hb); clear HO_11; clear HO_307001; clear HO_313001; clear HO_319001; clear BK306; clear BK312; clear BK318; clear HB; have HO_11 := n0_; have HO_307001 := n1_; have HO_313001 := n2_; have HO_319001 := n3_; have BK306 := n4_; have BK312 := n5_; have BK318 := n6_; have HB := n7_; clear n0_ n1_ n2_ n3_ n4_ n5_ n6_ n7_; (try clear hb); (try clear hb2); (try clear hk); (try clear hi)))
             go_roundg k3
             case measure => have := HJ5.out; have := HK2.out; have := HK3.out; omega
             case rel => exact ⟨(wrap64 (x9_2 + t327)), (wrap64 (x69_2 + 1)), rsd, rsd, H', ⟨by have := HJ5.out; have := HK2.out; have := HK3.out; omega⟩, ⟨rvR HO_307001.out⟩, ⟨rvR HO_313001.out⟩, ⟨rvR HO_319001.out⟩, ⟨bvK BK306.out⟩, ⟨bvK BK312.out⟩, ⟨bvK BK318.out⟩, ⟨by repeat (first | (with_reducible first | exact HB.out | apply bwA | apply bwN | apply bwD | refine below_set ?_ GE306.out | refine below_set ?_ GE312.out | refine below_set ?_ GE318.out) | exact HB.out)⟩⟩
            ·rw [if_neg c66] at H
             have c66b0 : (t328 == t327) = false := beq_eq_false_iff_ne.mpr c66
             have c66b1 : (t328 != t327) = true := bne_iff_ne.mpr c66
             obtain rfl := Option.some.inj H
             have hnb75 := NB306_312.out
             have hnc75 := NB312_306.out
             have hnb76 := NB306_318.out
             have hnc76 := NB318_306.out
             have hcz77_0 : wr.cell? ⟨gb306, 0, none⟩ = some (.int .i64 t301) := (blk_cell BK306.out 0).trans rfl
             have hcz77_1 : wr.cell? ⟨gb306, 1, none⟩ = some (.slice Ao10 t302.length co10) := (blk_cell BK306.out 1).trans rfl
             have hfz77_0 := blk_frozen BK306.out 0
             have hfz77_1 := blk_frozen BK306.out 1
             obtain ⟨Ao78, co78, eo78⟩ := Kd.R_slice HO_11.out
             subst eo78
             go_wp2_with (first | ((with_reducible refine gate_callee (f := 33) rfl ?_); refine goesL_ (some 89) rfl rfl Try.func33 (by kernel_rfl) rfl #[.agg #[.int .i64 t301, .slice Ao10 t302.length co10], .slice Ao78 x11_3.length co78, .int .i64 t305] rfl lmB ?_; (with_reducible refine (impl_EdgeValue.calls k3 t301 _ _ t302 _ _ x11_3 t305 t327 _ ?side1 ?side2 ?side3 ?side4 A64.out).mono ?_); (case side1 => repeat (first | exact (Kd.R_reads' HO_307001.out).2.2 | (with_reducible refine Kd.C_alloc ?_ _) | (with_reducible refine Kd.C_drewN ?_ _) | (with_reducible refine Kd.C_drew ?_))); (case side2 => exact (Kd.R_reads' HO_307001.out).2.1); (case side3 => repeat (first | exact (Kd.R_reads' HO_11.out).2.2 | (with_reducible refine Kd.C_alloc ?_ _) | (with_reducible refine Kd.C_drewN ?_ _) | (with_reducible refine Kd.C_drew ?_))); (case side4 => exact (Kd.R_reads' HO_11.out).2.1); rintro e w79 ⟨rfl, hb⟩; refine ⟨_, rfl, ?_⟩; have n0_ := Aside0.mk (Kd.R_below (rvR HO_11.out) hb); have n1_ := Aside0.mk (Kd.R_below (rvR HO_307001.out) hb); have n2_ := Aside0.mk (Kd.R_below (rvR HO_313001.out) hb); have n3_ := Aside0.mk (Kd.R_below (rvR HO_319001.out) hb); have n4_ := Aside0.mk (blk_below (g := gb306) (o := .cells #[.int .i64 t301, .slice Ao10 t302.length co10] 45 (0, 0)) (bvK BK306.out) hb); have n5_ := Aside0.mk (blk_below (g := gb312) (o := .cells #[.int .i64 t307, .slice Ao15 t308.length co15] 25 (0, 0)) (bvK BK312.out) hb); have n6_ := Aside0.mk (blk_below (g := gb318) (o := .cells #[.int .i64 t313, .slice Ao22 t314.length co22] 25 (0, 0)) (bvK BK318.out) hb); have n7_ := Aside0.mk (below_step (by repeat (first | (with_reducible first | exact HB.out | apply bwA | apply bwN | apply bwD | refine below_set ?_ GE306.out | refine below_set ?_ GE312.out | refine below_set ?_ GE318.out) | exact HB.out)) hb); clear HO_11; clear HO_307001; clear HO_313001; clear HO_319001; clear BK306; clear BK312; clear BK318; clear HB; have HO_11 := n0_; have HO_307001 := n1_; have HO_313001 := n2_; have HO_319001 := n3_; have BK306 := n4_; have BK312 := n5_; have BK318 := n6_; have HB := n7_; clear n0_ n1_ n2_ n3_ n4_ n5_ n6_ n7_; (try clear hb); (try clear hb2); (try clear hk); (try clear hi); have hnb80 := NB312_318.out; have hnc80 := NB318_312.out; have hcz81_0 : w79.cell? ⟨gb312, 0, none⟩ = some (.int .i64 t307) := (blk_cell BK312.out 0).trans rfl; have hcz81_1 : w79.cell? ⟨gb312, 1, none⟩ = some (.slice Ao15 t308.length co15) := (blk_cell BK312.out 1).trans rfl; have hfz81_0 := blk_frozen BK312.out 0; have hfz81_1 := blk_frozen BK312.out 1) | ((with_reducible refine gate_callee (f := 34) rfl ?_); refine goesL_ (some 93) rfl rfl Try.func34 (by kernel_rfl) rfl #[.agg #[.int .i64 t307, .slice Ao15 t308.length co15], .int .i64 t311, .slice Ao78 x11_3.length co78] rfl lmB ?_; (with_reducible refine (impl_DiagramValue.calls k3 t307 _ _ t308 t311 _ _ x11_3 t328 _ ?side1 ?side2 ?side3 ?side4 A65.out).mono ?_); (case side1 => repeat (first | exact (Kd.R_reads' HO_313001.out).2.2 | (with_reducible refine Kd.C_alloc ?_ _) | (with_reducible refine Kd.C_drewN ?_ _) | (with_reducible refine Kd.C_drew ?_))); (case side2 => exact (Kd.R_reads' HO_313001.out).2.1); (case side3 => repeat (first | exact (Kd.R_reads' HO_11.out).2.2 | (with_reducible refine Kd.C_alloc ?_ _) | (with_reducible refine Kd.C_drewN ?_ _) | (with_reducible refine Kd.C_drew ?_))); (case side4 => exact (Kd.R_reads' HO_11.out).2.1); rintro e w82 ⟨rfl, hb⟩; refine ⟨_, rfl, ?_⟩; have n0_ := Aside0.mk (Kd.R_below (rvR HO_11.out) hb); have n1_ := Aside0.mk (Kd.R_below (rvR HO_307001.out) hb); have n2_ := Aside0.mk (Kd.R_below (rvR HO_313001.out) hb); have n3_ := Aside0.mk (Kd.R_below (rvR HO_319001.out) hb); have n4_ := Aside0.mk (blk_below (g := gb306) (o := .cells #[.int .i64 t301, .slice Ao10 t302.length co10] 45 (0, 0)) (bvK BK306.out) hb); have n5_ := Aside0.mk (blk_below (g := gb312) (o := .cells #[.int .i64 t307, .slice Ao15 t308.length co15] 25 (0, 0)) (bvK BK312.out) hb); have n6_ := Aside0.mk (blk_below (g := gb318) (o := .cells #[.int .i64 t313, .slice Ao22 t314.length co22] 25 (0, 0)) (bvK BK318.out) hb); have n7_ := Aside0.mk (below_step (by repeat (first | (with_reducible first | exact HB.out | apply bwA | apply bwN | apply bwD | refine below_set ?_ GE306.out | refine below_set ?_ GE312.out | refine below_set ?_ GE318.out) | exact HB.out)) hb); clear HO_11; clear HO_307001; clear HO_313001; clear HO_319001; clear BK306; clear BK312; clear BK318; clear HB; have HO_11 := n0_; have HO_307001 := n1_; have HO_313001 := n2_; have HO_319001 := n3_; have BK306 := n4_; have BK312 := n5_; have BK318 := n6_; have HB := n7_; clear n0_ n1_ n2_ n3_ n4_ n5_ n6_ n7_; (try clear hb); (try clear hb2); (try clear hk); (try clear hi)))
             go_ret
             exact ⟨by first | rfl | (simp [errW_none, errW_some] <;> rfl) | (simp only [← hji49]; first | rfl | (simp [errW_none, errW_some] <;> rfl)) | (simp [*, errW_none, errW_some] <;> rfl), by repeat (first | (with_reducible first | exact HB.out | apply bwA | apply bwN | apply bwD | refine below_set ?_ GE306.out | refine below_set ?_ GE312.out | refine below_set ?_ GE318.out) | exact HB.out)⟩
        ·rw [if_neg c53] at H
         have c53b0 : decide (x69_2 < ji49) = false := decide_eq_false c53
         clear c53
         replace H := Option.bind_eq_some_iff.mp H
         obtain ⟨t319, A830, H⟩ := H
         replace H : (if t319 = true then ((impl_DiagramCount.f k2 t307 t308 t311).bind fun t320 => (some (t320 == x9_2))) else (some false)) = some r := H
         have A83 := Aside0.mk A830
         clear A830
         by_cases c84 : t319 = true
         ·subst c84
          have H1 : ((impl_DiagramCount.f k2 t307 t308 t311).bind fun t320 => (some (t320 == x9_2))) = some r := by rw [if_pos rfl] at H; exact H
          clear H
          have H := H1
          clear H1
          replace H := Option.bind_eq_some_iff.mp H
          obtain ⟨t320, A850, H⟩ := H
          replace H : (some (t320 == x9_2)) = some r := H
          have A85 := Aside0.mk A850
          clear A850
          obtain rfl := Option.some.inj H
          have hnb86 := NB312_306.out
          have hnc86 := NB306_312.out
          have hnb87 := NB312_318.out
          have hnc87 := NB318_312.out
          have hcz88_0 : wr.cell? ⟨gb312, 0, none⟩ = some (.int .i64 t307) := (blk_cell BK312.out 0).trans rfl
          have hcz88_1 : wr.cell? ⟨gb312, 1, none⟩ = some (.slice Ao15 t308.length co15) := (blk_cell BK312.out 1).trans rfl
          have hfz88_0 := blk_frozen BK312.out 0
          have hfz88_1 := blk_frozen BK312.out 1
          go_wp2_with (first | ((with_reducible refine gate_callee (f := 17) rfl ?_); refine goesL_ (some 101) rfl rfl Try.func17 (by kernel_rfl) rfl #[.agg #[.int .i64 t307, .slice Ao15 t308.length co15]] rfl lmB ?_; (with_reducible refine (impl_DiagramValid.calls t307 _ _ t308 true _ ?side1 ?side2 A83.out).mono ?_); (case side1 => repeat (first | exact (Kd.R_reads' HO_313001.out).2.2 | (with_reducible refine Kd.C_alloc ?_ _) | (with_reducible refine Kd.C_drewN ?_ _) | (with_reducible refine Kd.C_drew ?_))); (case side2 => exact (Kd.R_reads' HO_313001.out).2.1); rintro e w89 ⟨rfl, hb⟩; refine ⟨_, rfl, ?_⟩; have n0_ := Aside0.mk (Kd.R_below (rvR HO_307001.out) hb); have n1_ := Aside0.mk (Kd.R_below (rvR HO_313001.out) hb); have n2_ := Aside0.mk (Kd.R_below (rvR HO_319001.out) hb); have n3_ := Aside0.mk (blk_below (g := gb306) (o := .cells #[.int .i64 t301, .slice Ao10 t302.length co10] 45 (0, 0)) (bvK BK306.out) hb); have n4_ := Aside0.mk (blk_below (g := gb312) (o := .cells #[.int .i64 t307, .slice Ao15 t308.length co15] 25 (0, 0)) (bvK BK312.out) hb); have n5_ := Aside0.mk (blk_below (g := gb318) (o := .cells #[.int .i64 t313, .slice Ao22 t314.length co22] 25 (0, 0)) (bvK BK318.out) hb); have n6_ := Aside0.mk (below_step (by repeat (first | (with_reducible first | exact HB.out | apply bwA | apply bwN | apply bwD | refine below_set ?_ GE306.out | refine below_set ?_ GE312.out | refine below_set ?_ GE318.out) | exact HB.out)) hb); clear HO_307001; clear HO_313001; clear HO_319001; clear BK306; clear BK312; clear BK318; clear HB; have HO_307001 := n0_; have HO_313001 := n1_; have HO_319001 := n2_; have BK306 := n3_; have BK312 := n4_; have BK318 := n5_; have HB := n6_; clear n0_ n1_ n2_ n3_ n4_ n5_ n6_; (try clear hb); (try clear hb2); (try clear hk); (try clear hi); have hcz90_0 : w89.cell? ⟨gb312, 0, none⟩ = some (.int .i64 t307) := (blk_cell BK312.out 0).trans rfl; have hcz90_1 : w89.cell? ⟨gb312, 1, none⟩ = some (.slice Ao15 t308.length co15) := (blk_cell BK312.out 1).trans rfl; have hfz90_0 := blk_frozen BK312.out 0; have hfz90_1 := blk_frozen BK312.out 1) | (go_at_call 29; (with_reducible refine (impl_DiagramCount.calls k2 t307 _ _ t308 t311 t320 _ ?side1 ?side2 A85.out).mono ?_); (case side1 => repeat (first | exact (Kd.R_reads' HO_313001.out).2.2 | (with_reducible refine Kd.C_alloc ?_ _) | (with_reducible refine Kd.C_drewN ?_ _) | (with_reducible refine Kd.C_drew ?_))); (case side2 => exact (Kd.R_reads' HO_313001.out).2.1); rintro e w91 ⟨rfl, hb⟩; have n0_ := Aside0.mk (Kd.R_below (rvR HO_307001.out) hb); have n1_ := Aside0.mk (Kd.R_below (rvR HO_313001.out) hb); have n2_ := Aside0.mk (Kd.R_below (rvR HO_319001.out) hb); have n3_ := Aside0.mk (blk_below (g := gb306) (o := .cells #[.int .i64 t301, .slice Ao10 t302.length co10] 45 (0, 0)) (bvK BK306.out) hb); have n4_ := Aside0.mk (blk_below (g := gb312) (o := .cells #[.int .i64 t307, .slice Ao15 t308.length co15] 25 (0, 0)) (bvK BK312.out) hb); have n5_ := Aside0.mk (blk_below (g := gb318) (o := .cells #[.int .i64 t313, .slice Ao22 t314.length co22] 25 (0, 0)) (bvK BK318.out) hb); have n6_ := Aside0.mk (below_step (by repeat (first | (with_reducible first | exact HB.out | apply bwA | apply bwN | apply bwD | refine below_set ?_ GE306.out | refine below_set ?_ GE312.out | refine below_set ?_ GE318.out) | exact HB.out)) hb); clear HO_307001; clear HO_313001; clear HO_319001; clear BK306; clear BK312; clear BK318; clear HB; have HO_307001 := n0_; have HO_313001 := n1_; have HO_319001 := n2_; have BK306 := n3_; have BK312 := n4_; have BK318 := n5_; have HB := n6_; clear n0_ n1_ n2_ n3_ n4_ n5_ n6_; (try clear hb); (try clear hb2); (try clear hk); (try clear hi)))
          go_ret
          exact ⟨by first | rfl | (simp [errW_none, errW_some] <;> rfl) | (simp only [← hji49]; first | rfl | (simp [errW_none, errW_some] <;> rfl)) | (simp [*, errW_none, errW_some] <;> rfl), by repeat (first | (with_reducible first | exact HB.out | apply bwA | apply bwN | apply bwD | refine below_set ?_ GE306.out | refine below_set ?_ GE312.out | refine below_set ?_ GE318.out) | exact HB.out)⟩
         ·replace c84 := Bool.eq_false_iff.mpr c84
          subst c84
          have H1 : (some false) = some r := by rw [if_neg (show ¬ (false = true) by decide)] at H; exact H
          clear H
          have H := H1
          clear H1
          obtain rfl := Option.some.inj H
          have hnb92 := NB312_306.out
          have hnc92 := NB306_312.out
          have hnb93 := NB312_318.out
          have hnc93 := NB318_312.out
          have hcz94_0 : wr.cell? ⟨gb312, 0, none⟩ = some (.int .i64 t307) := (blk_cell BK312.out 0).trans rfl
          have hcz94_1 : wr.cell? ⟨gb312, 1, none⟩ = some (.slice Ao15 t308.length co15) := (blk_cell BK312.out 1).trans rfl
          have hfz94_0 := blk_frozen BK312.out 0
          have hfz94_1 := blk_frozen BK312.out 1
          go_wp2_with (first | ((with_reducible refine gate_callee (f := 17) rfl ?_); refine goesL_ (some 101) rfl rfl Try.func17 (by kernel_rfl) rfl #[.agg #[.int .i64 t307, .slice Ao15 t308.length co15]] rfl lmB ?_; (with_reducible refine (impl_DiagramValid.calls t307 _ _ t308 false _ ?side1 ?side2 A83.out).mono ?_); (case side1 => repeat (first | exact (Kd.R_reads' HO_313001.out).2.2 | (with_reducible refine Kd.C_alloc ?_ _) | (with_reducible refine Kd.C_drewN ?_ _) | (with_reducible refine Kd.C_drew ?_))); (case side2 => exact (Kd.R_reads' HO_313001.out).2.1); rintro e w95 ⟨rfl, hb⟩; refine ⟨_, rfl, ?_⟩; have n0_ := Aside0.mk (Kd.R_below (rvR HO_307001.out) hb); have n1_ := Aside0.mk (Kd.R_below (rvR HO_313001.out) hb); have n2_ := Aside0.mk (Kd.R_below (rvR HO_319001.out) hb); have n3_ := Aside0.mk (blk_below (g := gb306) (o := .cells #[.int .i64 t301, .slice Ao10 t302.length co10] 45 (0, 0)) (bvK BK306.out) hb); have n4_ := Aside0.mk (blk_below (g := gb312) (o := .cells #[.int .i64 t307, .slice Ao15 t308.length co15] 25 (0, 0)) (bvK BK312.out) hb); have n5_ := Aside0.mk (blk_below (g := gb318) (o := .cells #[.int .i64 t313, .slice Ao22 t314.length co22] 25 (0, 0)) (bvK BK318.out) hb); have n6_ := Aside0.mk (below_step (by repeat (first | (with_reducible first | exact HB.out | apply bwA | apply bwN | apply bwD | refine below_set ?_ GE306.out | refine below_set ?_ GE312.out | refine below_set ?_ GE318.out) | exact HB.out)) hb); clear HO_307001; clear HO_313001; clear HO_319001; clear BK306; clear BK312; clear BK318; clear HB; have HO_307001 := n0_; have HO_313001 := n1_; have HO_319001 := n2_; have BK306 := n3_; have BK312 := n4_; have BK318 := n5_; have HB := n6_; clear n0_ n1_ n2_ n3_ n4_ n5_ n6_; (try clear hb); (try clear hb2); (try clear hk); (try clear hi)))
          go_ret
          exact ⟨by first | rfl | (simp [errW_none, errW_some] <;> rfl) | (simp only [← hji49]; first | rfl | (simp [errW_none, errW_some] <;> rfl)) | (simp [*, errW_none, errW_some] <;> rfl), by repeat (first | (with_reducible first | exact HB.out | apply bwA | apply bwN | apply bwD | refine below_set ?_ GE306.out | refine below_set ?_ GE312.out | refine below_set ?_ GE318.out) | exact HB.out)⟩
     ·rw [if_neg c48] at H
      exact absurd H (by simp)

/-- THE ONE PURE STATEMENT of laws_FnDiagramOf: yours. -/
def laws_FnDiagramOf.Pure : Prop := ∀ (l0 : List Int), l0.length ≤ maxLen → l0.length * 1 ≤ 140737488351232 → (∀ x ∈ l0, (Lit.int .u8 x).wf = true) → ∃ k, laws_FnDiagramOf.f k l0 = some true
theorem laws_FnDiagramOf.walk (P : laws_FnDiagramOf.Pure) (a0 : Option Addr) (len0 cap0 : Nat) (z0 : List Int) (w : World) (w0 : (a0 = none ∧ len0 = 0 ∧ cap0 = 0 ∧ z0 = []) ∨ ∃ x, a0 = some x ∧ len0 ≤ cap0 ∧ cap0 ≤ maxLen ∧ z0.length = cap0 ∧ (∀ i, i < z0.length → w.cell? (x.add i) = some (.int .u8 (z0.getD i 0))) ∧ ∀ n ∈ z0, (Lit.int .u8 n).wf = true) (y0 : len0 * 1 ≤ 140737488351232) :
  Calls Try.prog 6 #[.slice a0 len0 cap0] w fun e w' => e = .returned (.bool true) ∧ Below w.heap.size w w' := by
 obtain ⟨l0, rfl, hr0, hm0, hw0, hc0⟩ := ReadsInt.ofRowC w0
 obtain ⟨k, h⟩ := P l0 hm0 y0 hw0
 refine (laws_FnDiagramOf.calls k _ _ l0 true w (Kd.C_of_reads (d := (0 : Int)) (h1 := fun _ => rfl) hr0) hc0 h).mono ?_
 rintro e w' ⟨rfl, hd⟩
 exact ⟨rfl, hd⟩

end Go.Proofs.Ytpcompnmadpljaa.QFnDiagramOf
