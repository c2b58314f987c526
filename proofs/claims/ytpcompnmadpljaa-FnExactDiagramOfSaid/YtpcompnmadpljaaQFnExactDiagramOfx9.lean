-- Written by a program of this session (mk.py). Lean checks it.
import Derived.Test.YtpcompnmadpljaaQFnExactDiagramOfx0
import Derived.Test.YtpcompnmadpljaaQFnExactDiagramOfx1
import Derived.Test.YtpcompnmadpljaaQFnExactDiagramOfx2
import Derived.Test.YtpcompnmadpljaaQFnExactDiagramOfx4
import Derived.Test.YtpcompnmadpljaaQFnExactDiagramOfx7
import Derived.Test.YtpcompnmadpljaaQFnExactDiagramOfx8
namespace Go.Proofs.Ytpcompnmadpljaa.QFnExactDiagramOf
open Go.RowKit Go.Proofs.YtpcompnmadpljaaW.PrintWords Go.Proofs.YtpcompnmadpljaaW.PrintLast Go.Proofs.YtpcompnmadpljaaW.PrintMore
attribute [local go_sem] max2_int min2_int max_two min_two max_three min_three max_four min_four   -- for this text's walks alone
set_option linter.unusedVariables false
set_option linter.unusedSimpArgs false

/-! ### laws_FnExactDiagramOf: function 11 -/
mutual
def laws_FnExactDiagramOf.j0 : Nat → Int → Int → Int → Bool → Int → List (S126) → Int → List (S71) → Int → List (S121) → Int → List (S71) → Option (Bool)
 | 0, _, _, _, _, _, _, _, _, _, _, _, _ => none
 | k + 1, x1, x7, x10, x44, x244000, x244001, x255000, x255001, x260000, x260001, x266000, x266001 => if x44 = true then (some false) else ((laws_toCircuit.f k x244000 x244001).bind fun bt267 => ((laws_eqCircuit.f k x260000 x260001 bt267.1 bt267.2).bind fun t271 => (if t271 = true then ((laws_markCircuit.f k x260000 x260001 1).bind fun bt272 => (if bt272.1 < 0 then (laws_FnExactDiagramOf.j1 k x1 x7 true x244000 x244001 x255000 x255001 x266000 x266001) else ((laws_eqDiagram.f k x266000 x266001 x255000 x255001).bind fun t274 => (if t274 = true then (laws_FnExactDiagramOf.j1 k x1 x7 (x10 != x7) x244000 x244001 x255000 x255001 x266000 x266001) else (laws_FnExactDiagramOf.j1 k x1 x7 true x244000 x244001 x255000 x255001 x266000 x266001))))) else (some false))))
def laws_FnExactDiagramOf.j1 : Nat → Int → Int → Bool → Int → List (S126) → Int → List (S71) → Int → List (S71) → Option (Bool)
 | 0, _, _, _, _, _, _, _, _, _ => none
 | k + 1, x1, x7, x65, x244000, x244001, x255000, x255001, x266000, x266001 => if x65 = true then (some false) else ((laws_markDiagram.f k x266000 x266001 1).bind fun bt275 => ((laws_heldDiagram.f k x266000 bt275.2 1).bind fun t277 => (if t277 < 0 then (some false) else (if t277 = bt275.1 then ((laws_toCircuit.f k x244000 x244001).bind fun bt278 => ((impl_DiagramOf.f k bt278.1 bt278.2 x1).bind fun bt282 => ((laws_eqDiagram.f k bt282.1 bt282.2.1 x255000 x255001).bind fun t288 => (if t288 = true then (laws_FnExactDiagramOf.j2 k bt275.1 (bt282.2.2 != x7) x266000 bt275.2) else (laws_FnExactDiagramOf.j2 k bt275.1 true x266000 bt275.2))))) else (some false)))))
def laws_FnExactDiagramOf.j2 : Nat → Int → Bool → Int → List (S71) → Option (Bool)
 | 0, _, _, _, _ => none
 | k + 1, x12, x92, x266000, x266001 => if x92 = true then (some false) else ((laws_heldDiagram.f k x266000 x266001 1).bind fun t289 => (if t289 < 0 then (some false) else (if t289 = x12 then (some true) else (some false))))
end
def laws_FnExactDiagramOf.f (k : Nat) (a0_0 : Int) (l0_1 : List (S126)) (a1 : Int) : Option (Bool) := (laws_szCircuit.f a0_0 l0_1 1048576).bind fun t244 => (if t244 < 0 then (some true) else ((laws_toCircuit.f k a0_0 l0_1).bind fun bt245 => ((spec_DiagramOf.f k bt245.1 bt245.2 a1).bind fun bt249 => ((laws_toCircuit.f k a0_0 l0_1).bind fun bt255 => ((impl_DiagramOf.f k bt255.1 bt255.2 a1).bind fun bt260 => ((laws_eqDiagram.f k bt260.1 bt260.2.1 bt249.1 bt249.2.1).bind fun t266 => (if t266 = true then (laws_FnExactDiagramOf.j0 k a1 bt249.2.2 bt260.2.2 (bt260.2.2 != bt249.2.2) a0_0 l0_1 bt249.1 bt249.2.1 bt255.1 bt255.2 bt260.1 bt260.2.1) else (laws_FnExactDiagramOf.j0 k a1 bt249.2.2 bt260.2.2 true a0_0 l0_1 bt249.1 bt249.2.1 bt255.1 bt255.2 bt260.1 bt260.2.1))))))))
theorem laws_FnExactDiagramOf.mono_l : ∀ k, (∀ y0 y1 y2 y3 y4 y5 y6 y7 y8 y9 y10 y11, LeO (laws_FnExactDiagramOf.j0 k y0 y1 y2 y3 y4 y5 y6 y7 y8 y9 y10 y11) (laws_FnExactDiagramOf.j0 (k + 1) y0 y1 y2 y3 y4 y5 y6 y7 y8 y9 y10 y11)) ∧ (∀ y0 y1 y2 y3 y4 y5 y6 y7 y8, LeO (laws_FnExactDiagramOf.j1 k y0 y1 y2 y3 y4 y5 y6 y7 y8) (laws_FnExactDiagramOf.j1 (k + 1) y0 y1 y2 y3 y4 y5 y6 y7 y8)) ∧ (∀ y0 y1 y2 y3, LeO (laws_FnExactDiagramOf.j2 k y0 y1 y2 y3) (laws_FnExactDiagramOf.j2 (k + 1) y0 y1 y2 y3))
 | 0 => ⟨fun _ _ _ _ _ _ _ _ _ _ _ _ r h => by simp [laws_FnExactDiagramOf.j0] at h, fun _ _ _ _ _ _ _ _ _ r h => by simp [laws_FnExactDiagramOf.j1] at h, fun _ _ _ _ r h => by simp [laws_FnExactDiagramOf.j2] at h⟩
 | k + 1 => by
  obtain ⟨ih0, ih1, ih2⟩ := laws_FnExactDiagramOf.mono_l k
  refine ⟨?_, ?_, ?_⟩
  ·intro y0 y1 y2 y3 y4 y5 y6 y7 y8 y9 y10 y11
   unfold laws_FnExactDiagramOf.j0
   repeat' first
   | (with_reducible exact ih0 _ _ _ _ _ _ _ _ _ _ _ _)
   | (with_reducible exact ih1 _ _ _ _ _ _ _ _ _)
   | (with_reducible exact ih2 _ _ _ _)
   | (with_reducible exact impl_DiagramOf.mono _ _ _ _)
   | (with_reducible exact laws_eqCircuit.mono _ _ _ _ _)
   | (with_reducible exact laws_eqDiagram.mono _ _ _ _ _)
   | (with_reducible exact laws_heldDiagram.mono _ _ _ _)
   | (with_reducible exact laws_markCircuit.mono _ _ _ _)
   | (with_reducible exact laws_markDiagram.mono _ _ _ _)
   | (with_reducible exact laws_toCircuit.mono _ _ _)
   | (with_reducible exact spec_DiagramOf.mono _ _ _ _)
   | (with_reducible exact LeO.refl _)
   | (with_reducible exact LeO.none _)
   | (with_reducible refine LeO.ite ?_ ?_)
   | (with_reducible refine LeO.bind ?_ (fun _ => ?_))
   | exact ih0 _ _ _ _ _ _ _ _ _ _ _ _
   | exact ih1 _ _ _ _ _ _ _ _ _
   | exact ih2 _ _ _ _
   | exact impl_DiagramOf.mono _ _ _ _
   | exact laws_eqCircuit.mono _ _ _ _ _
   | exact laws_eqDiagram.mono _ _ _ _ _
   | exact laws_heldDiagram.mono _ _ _ _
   | exact laws_markCircuit.mono _ _ _ _
   | exact laws_markDiagram.mono _ _ _ _
   | exact laws_toCircuit.mono _ _ _
   | exact spec_DiagramOf.mono _ _ _ _
   | exact LeO.none _
   | refine LeO.ite ?_ ?_
   | refine LeO.bind ?_ (fun _ => ?_)
  ·intro y0 y1 y2 y3 y4 y5 y6 y7 y8
   unfold laws_FnExactDiagramOf.j1
   repeat' first
   | (with_reducible exact ih0 _ _ _ _ _ _ _ _ _ _ _ _)
   | (with_reducible exact ih1 _ _ _ _ _ _ _ _ _)
   | (with_reducible exact ih2 _ _ _ _)
   | (with_reducible exact impl_DiagramOf.mono _ _ _ _)
   | (with_reducible exact laws_eqCircuit.mono _ _ _ _ _)
   | (with_reducible exact laws_eqDiagram.mono _ _ _ _ _)
   | (with_reducible exact laws_heldDiagram.mono _ _ _ _)
   | (with_reducible exact laws_markCircuit.mono _ _ _ _)
   | (with_reducible exact laws_markDiagram.mono _ _ _ _)
   | (with_reducible exact laws_toCircuit.mono _ _ _)
   | (with_reducible exact spec_DiagramOf.mono _ _ _ _)
   | (with_reducible exact LeO.refl _)
   | (with_reducible exact LeO.none _)
   | (with_reducible refine LeO.ite ?_ ?_)
   | (with_reducible refine LeO.bind ?_ (fun _ => ?_))
   | exact ih0 _ _ _ _ _ _ _ _ _ _ _ _
   | exact ih1 _ _ _ _ _ _ _ _ _
   | exact ih2 _ _ _ _
   | exact impl_DiagramOf.mono _ _ _ _
   | exact laws_eqCircuit.mono _ _ _ _ _
   | exact laws_eqDiagram.mono _ _ _ _ _
   | exact laws_heldDiagram.mono _ _ _ _
   | exact laws_markCircuit.mono _ _ _ _
   | exact laws_markDiagram.mono _ _ _ _
   | exact laws_toCircuit.mono _ _ _
   | exact spec_DiagramOf.mono _ _ _ _
   | exact LeO.none _
   | refine LeO.ite ?_ ?_
   | refine LeO.bind ?_ (fun _ => ?_)
  ·intro y0 y1 y2 y3
   unfold laws_FnExactDiagramOf.j2
   repeat' first
   | (with_reducible exact ih0 _ _ _ _ _ _ _ _ _ _ _ _)
   | (with_reducible exact ih1 _ _ _ _ _ _ _ _ _)
   | (with_reducible exact ih2 _ _ _ _)
   | (with_reducible exact impl_DiagramOf.mono _ _ _ _)
   | (with_reducible exact laws_eqCircuit.mono _ _ _ _ _)
   | (with_reducible exact laws_eqDiagram.mono _ _ _ _ _)
   | (with_reducible exact laws_heldDiagram.mono _ _ _ _)
   | (with_reducible exact laws_markCircuit.mono _ _ _ _)
   | (with_reducible exact laws_markDiagram.mono _ _ _ _)
   | (with_reducible exact laws_toCircuit.mono _ _ _)
   | (with_reducible exact spec_DiagramOf.mono _ _ _ _)
   | (with_reducible exact LeO.refl _)
   | (with_reducible exact LeO.none _)
   | (with_reducible refine LeO.ite ?_ ?_)
   | (with_reducible refine LeO.bind ?_ (fun _ => ?_))
   | exact ih0 _ _ _ _ _ _ _ _ _ _ _ _
   | exact ih1 _ _ _ _ _ _ _ _ _
   | exact ih2 _ _ _ _
   | exact impl_DiagramOf.mono _ _ _ _
   | exact laws_eqCircuit.mono _ _ _ _ _
   | exact laws_eqDiagram.mono _ _ _ _ _
   | exact laws_heldDiagram.mono _ _ _ _
   | exact laws_markCircuit.mono _ _ _ _
   | exact laws_markDiagram.mono _ _ _ _
   | exact laws_toCircuit.mono _ _ _
   | exact spec_DiagramOf.mono _ _ _ _
   | exact LeO.none _
   | refine LeO.ite ?_ ?_
   | refine LeO.bind ?_ (fun _ => ?_)
theorem laws_FnExactDiagramOf.mono : ∀ a0 a1 a2 k, LeO (laws_FnExactDiagramOf.f k a0 a1 a2) (laws_FnExactDiagramOf.f (k + 1) a0 a1 a2) := by
 intro a0 a1 a2 k
 obtain ⟨ih0, ih1, ih2⟩ := laws_FnExactDiagramOf.mono_l k
 unfold laws_FnExactDiagramOf.f
 repeat' first
   | (with_reducible exact ih0 _ _ _ _ _ _ _ _ _ _ _ _)
   | (with_reducible exact ih1 _ _ _ _ _ _ _ _ _)
   | (with_reducible exact ih2 _ _ _ _)
   | (with_reducible exact impl_DiagramOf.mono _ _ _ _)
   | (with_reducible exact laws_eqCircuit.mono _ _ _ _ _)
   | (with_reducible exact laws_eqDiagram.mono _ _ _ _ _)
   | (with_reducible exact laws_heldDiagram.mono _ _ _ _)
   | (with_reducible exact laws_markCircuit.mono _ _ _ _)
   | (with_reducible exact laws_markDiagram.mono _ _ _ _)
   | (with_reducible exact laws_toCircuit.mono _ _ _)
   | (with_reducible exact spec_DiagramOf.mono _ _ _ _)
   | (with_reducible exact LeO.refl _)
   | (with_reducible exact LeO.none _)
   | (with_reducible refine LeO.ite ?_ ?_)
   | (with_reducible refine LeO.bind ?_ (fun _ => ?_))
   | exact ih0 _ _ _ _ _ _ _ _ _ _ _ _
   | exact ih1 _ _ _ _ _ _ _ _ _
   | exact ih2 _ _ _ _
   | exact impl_DiagramOf.mono _ _ _ _
   | exact laws_eqCircuit.mono _ _ _ _ _
   | exact laws_eqDiagram.mono _ _ _ _ _
   | exact laws_heldDiagram.mono _ _ _ _
   | exact laws_markCircuit.mono _ _ _ _
   | exact laws_markDiagram.mono _ _ _ _
   | exact laws_toCircuit.mono _ _ _
   | exact spec_DiagramOf.mono _ _ _ _
   | exact LeO.none _
   | refine LeO.ite ?_ ?_
   | refine LeO.bind ?_ (fun _ => ?_)
set_option maxHeartbeats 8000000 in
set_option maxRecDepth 100000 in
theorem laws_FnExactDiagramOf.calls (k : Nat) (a0_0 : Int) (A0_1 : Option Addr) (c0_1 : Nat) (l0_1 : List (S126)) (a1 : Int) (r : Bool) (w : World) (hr0_1 : Kd.C k126 w A0_1 l0_1.length l0_1) (hc0_1 : l0_1.length ≤ c0_1) (h : laws_FnExactDiagramOf.f k a0_0 l0_1 a1 = some r) :
  Calls Try.prog 11 #[.agg #[.int .i64 a0_0, .slice A0_1 l0_1.length c0_1], .int .i64 a1] w fun e w' => e = .returned (.bool r) ∧ Below w.heap.size w w' := by
 have hu58 := Try.underlying58
 have hu25 := Try.underlying25
 have hu45 := Try.underlying45
 have HR0_1 := Aside0.mk hr0_1
 have HC0_1 := Aside0.mk hc0_1
 clear hr0_1 hc0_1
 have HB := Aside0.mk (Below.refl w.heap.size w)
 have H : ((laws_szCircuit.f a0_0 l0_1 1048576).bind fun t244 => (if t244 < 0 then (some true) else ((laws_toCircuit.f k a0_0 l0_1).bind fun bt245 => ((spec_DiagramOf.f k bt245.1 bt245.2 a1).bind fun bt249 => ((laws_toCircuit.f k a0_0 l0_1).bind fun bt255 => ((impl_DiagramOf.f k bt255.1 bt255.2 a1).bind fun bt260 => ((laws_eqDiagram.f k bt260.1 bt260.2.1 bt249.1 bt249.2.1).bind fun t266 => (if t266 = true then (laws_FnExactDiagramOf.j0 k a1 bt249.2.2 bt260.2.2 (bt260.2.2 != bt249.2.2) a0_0 l0_1 bt249.1 bt249.2.1 bt255.1 bt255.2 bt260.1 bt260.2.1) else (laws_FnExactDiagramOf.j0 k a1 bt249.2.2 bt260.2.2 true a0_0 l0_1 bt249.1 bt249.2.1 bt255.1 bt255.2 bt260.1 bt260.2.1))))))))) = some r := h
 clear h
 replace H := Option.bind_eq_some_iff.mp H
 obtain ⟨t244, A30, H⟩ := H
 replace H : (if t244 < 0 then (some true) else ((laws_toCircuit.f k a0_0 l0_1).bind fun bt245 => ((spec_DiagramOf.f k bt245.1 bt245.2 a1).bind fun bt249 => ((laws_toCircuit.f k a0_0 l0_1).bind fun bt255 => ((impl_DiagramOf.f k bt255.1 bt255.2 a1).bind fun bt260 => ((laws_eqDiagram.f k bt260.1 bt260.2.1 bt249.1 bt249.2.1).bind fun t266 => (if t266 = true then (laws_FnExactDiagramOf.j0 k a1 bt249.2.2 bt260.2.2 (bt260.2.2 != bt249.2.2) a0_0 l0_1 bt249.1 bt249.2.1 bt255.1 bt255.2 bt260.1 bt260.2.1) else (laws_FnExactDiagramOf.j0 k a1 bt249.2.2 bt260.2.2 true a0_0 l0_1 bt249.1 bt249.2.1 bt255.1 bt255.2 bt260.1 bt260.2.1)))))))) = some r := H
 have A3 := Aside0.mk A30
 clear A30
 by_cases c4 : t244 < 0
 ·rw [if_pos c4] at H
  have c4b0 : decide (t244 < 0) = true := decide_eq_true c4
  clear c4
  obtain rfl := Option.some.inj H
  go_enter Try.func11, Try.ntmps11
  go_wp2_with (first | ((with_reducible refine gate_dst (N := 2) rfl ?_); refine box_event ?hg (N := 2) ?hd (cs := #[.int .i64 a0_0, .slice A0_1 l0_1.length c0_1]) (t := 58) ?hr ?_; (case hd => rfl); (case hg => rfl); (case hr => first | (go_simp; done) | (go_simp; rfl)); intro gb243 hg w5 hbox hb; have n0_ := Aside0.mk (below_step (by repeat (first | (with_reducible first | exact HB.out | apply bwA | apply bwN | apply bwD) | exact HB.out)) hb); have n1_ := Aside0.mk (hbox); have n2_ := Aside0.mk ((by rw [hg]; exact (below_size (by repeat (first | (with_reducible first | exact HB.out | apply bwA | apply bwN | apply bwD) | exact HB.out))) : w.heap.size ≤ gb243)); have n3_ := Aside0.mk ((by rw [hg]; exact (below_size (by repeat (first | (with_reducible first | exact HB.out | apply bwA | apply bwN | apply bwD) | exact HB.out))) : w.heap.size ≤ gb243)); clear HB; have HB := n0_; have BK243 := n1_; have GW243 := n2_; have GE243 := n3_; clear n0_ n1_ n2_ n3_; clear hb hbox hg; have hcz6_0 : w5.cell? ⟨gb243, 0, none⟩ = some (.int .i64 a0_0) := (blk_cell BK243.out 0).trans rfl; have hcz6_1 : w5.cell? ⟨gb243, 1, none⟩ = some (.slice A0_1 l0_1.length c0_1) := (blk_cell BK243.out 1).trans rfl; have hfz6_0 := blk_frozen BK243.out 0; have hfz6_1 := blk_frozen BK243.out 1) | ((with_reducible refine gate_callee (f := 38) rfl ?_); refine goesL_ (some 18) rfl rfl Try.func38 (by kernel_rfl) rfl #[.agg #[.int .i64 a0_0, .slice A0_1 l0_1.length c0_1], .int .i64 1048576] rfl (by (try simp only [List.map_toArray, List.map_cons, List.map_nil]); first | done | rfl | (simp only [List.length_drop, List.length_take]; rfl)) ?_; (with_reducible refine (laws_szCircuit.calls a0_0 _ _ l0_1 1048576 t244 _ ?side1 ?side2 A3.out).mono ?_); (case side1 => repeat (first | exact (Kd.C_below HR0_1.out HB.out) | (with_reducible refine Kd.C_alloc ?_ _) | (with_reducible refine Kd.C_drewN ?_ _) | (with_reducible refine Kd.C_drew ?_))); (case side2 => exact HC0_1.out); rintro e w7 ⟨rfl, hb⟩; refine ⟨_, rfl, ?_⟩; have n0_ := Aside0.mk (blk_below (g := gb243) (o := .cells #[.int .i64 a0_0, .slice A0_1 l0_1.length c0_1] 58 (0, 0)) (by (with_reducible repeat (first | refine blk_drewN ?_ _ | refine blk_drew ?_ | refine blk_alloc ?_ _)); exact BK243.out) hb); have n1_ := Aside0.mk (below_step (by repeat (first | (with_reducible first | exact HB.out | apply bwA | apply bwN | apply bwD | refine below_set ?_ GE243.out) | exact HB.out)) hb); clear BK243; clear HB; have BK243 := n0_; have HB := n1_; clear n0_ n1_; (try clear hb); (try clear hb2); (try clear hk); (try clear hi)))
  go_ret
  exact ⟨by first | rfl | (simp [errW_none, errW_some] <;> rfl) | (simp [*, errW_none, errW_some] <;> rfl), by repeat (first | (with_reducible first | exact HB.out | apply bwA | apply bwN | apply bwD | refine below_set ?_ GE243.out) | exact HB.out)⟩
 ·rw [if_neg c4] at H
  have c4b0 : decide (t244 < 0) = false := decide_eq_false c4
  clear c4
  replace H := Option.bind_eq_some_iff.mp H
  obtain ⟨⟨t245, t246⟩, A80, H⟩ := H
  replace H : ((spec_DiagramOf.f k t245 t246 a1).bind fun bt249 => ((laws_toCircuit.f k a0_0 l0_1).bind fun bt255 => ((impl_DiagramOf.f k bt255.1 bt255.2 a1).bind fun bt260 => ((laws_eqDiagram.f k bt260.1 bt260.2.1 bt249.1 bt249.2.1).bind fun t266 => (if t266 = true then (laws_FnExactDiagramOf.j0 k a1 bt249.2.2 bt260.2.2 (bt260.2.2 != bt249.2.2) a0_0 l0_1 bt249.1 bt249.2.1 bt255.1 bt255.2 bt260.1 bt260.2.1) else (laws_FnExactDiagramOf.j0 k a1 bt249.2.2 bt260.2.2 true a0_0 l0_1 bt249.1 bt249.2.1 bt255.1 bt255.2 bt260.1 bt260.2.1)))))) = some r := H
  have A8 := Aside0.mk A80
  clear A80
  replace H := Option.bind_eq_some_iff.mp H
  obtain ⟨⟨t249, t250, t253⟩, A90, H⟩ := H
  replace H : ((laws_toCircuit.f k a0_0 l0_1).bind fun bt255 => ((impl_DiagramOf.f k bt255.1 bt255.2 a1).bind fun bt260 => ((laws_eqDiagram.f k bt260.1 bt260.2.1 t249 t250).bind fun t266 => (if t266 = true then (laws_FnExactDiagramOf.j0 k a1 t253 bt260.2.2 (bt260.2.2 != t253) a0_0 l0_1 t249 t250 bt255.1 bt255.2 bt260.1 bt260.2.1) else (laws_FnExactDiagramOf.j0 k a1 t253 bt260.2.2 true a0_0 l0_1 t249 t250 bt255.1 bt255.2 bt260.1 bt260.2.1))))) = some r := H
  have A9 := Aside0.mk A90
  clear A90
  replace H := Option.bind_eq_some_iff.mp H
  obtain ⟨⟨t255, t256⟩, A100, H⟩ := H
  replace H : ((impl_DiagramOf.f k t255 t256 a1).bind fun bt260 => ((laws_eqDiagram.f k bt260.1 bt260.2.1 t249 t250).bind fun t266 => (if t266 = true then (laws_FnExactDiagramOf.j0 k a1 t253 bt260.2.2 (bt260.2.2 != t253) a0_0 l0_1 t249 t250 t255 t256 bt260.1 bt260.2.1) else (laws_FnExactDiagramOf.j0 k a1 t253 bt260.2.2 true a0_0 l0_1 t249 t250 t255 t256 bt260.1 bt260.2.1)))) = some r := H
  have A10 := Aside0.mk A100
  clear A100
  replace H := Option.bind_eq_some_iff.mp H
  obtain ⟨⟨t260, t261, t264⟩, A110, H⟩ := H
  replace H : ((laws_eqDiagram.f k t260 t261 t249 t250).bind fun t266 => (if t266 = true then (laws_FnExactDiagramOf.j0 k a1 t253 t264 (t264 != t253) a0_0 l0_1 t249 t250 t255 t256 t260 t261) else (laws_FnExactDiagramOf.j0 k a1 t253 t264 true a0_0 l0_1 t249 t250 t255 t256 t260 t261))) = some r := H
  have A11 := Aside0.mk A110
  clear A110
  have HC12 := Aside0.mk H
  clear H
  go_enter Try.func11, Try.ntmps11
  go_upto_region 8 with (first | ((with_reducible refine gate_dst (N := 2) rfl ?_); refine box_event ?hg (N := 2) ?hd (cs := #[.int .i64 a0_0, .slice A0_1 l0_1.length c0_1]) (t := 58) ?hr ?_; (case hd => rfl); (case hg => rfl); (case hr => first | (go_simp; done) | (go_simp; rfl)); intro gb243 hg w13 hbox hb; have n0_ := Aside0.mk (below_step (by repeat (first | (with_reducible first | exact HB.out | apply bwA | apply bwN | apply bwD) | exact HB.out)) hb); have n1_ := Aside0.mk (hbox); have n2_ := Aside0.mk ((by rw [hg]; exact (below_size (by repeat (first | (with_reducible first | exact HB.out | apply bwA | apply bwN | apply bwD) | exact HB.out))) : w.heap.size ≤ gb243)); have n3_ := Aside0.mk ((by rw [hg]; exact (below_size (by repeat (first | (with_reducible first | exact HB.out | apply bwA | apply bwN | apply bwD) | exact HB.out))) : w.heap.size ≤ gb243)); clear HB; have HB := n0_; have BK243 := n1_; have GW243 := n2_; have GE243 := n3_; clear n0_ n1_ n2_ n3_; clear hb hbox hg; have hcz14_0 : w13.cell? ⟨gb243, 0, none⟩ = some (.int .i64 a0_0) := (blk_cell BK243.out 0).trans rfl; have hcz14_1 : w13.cell? ⟨gb243, 1, none⟩ = some (.slice A0_1 l0_1.length c0_1) := (blk_cell BK243.out 1).trans rfl; have hfz14_0 := blk_frozen BK243.out 0; have hfz14_1 := blk_frozen BK243.out 1) | ((with_reducible refine gate_callee (f := 38) rfl ?_); refine goesL_ (some 18) rfl rfl Try.func38 (by kernel_rfl) rfl #[.agg #[.int .i64 a0_0, .slice A0_1 l0_1.length c0_1], .int .i64 1048576] rfl (by (try simp only [List.map_toArray, List.map_cons, List.map_nil]); first | done | rfl | (simp only [List.length_drop, List.length_take]; rfl)) ?_; (with_reducible refine (laws_szCircuit.calls a0_0 _ _ l0_1 1048576 t244 _ ?side1 ?side2 A3.out).mono ?_); (case side1 => repeat (first | exact (Kd.C_below HR0_1.out HB.out) | (with_reducible refine Kd.C_alloc ?_ _) | (with_reducible refine Kd.C_drewN ?_ _) | (with_reducible refine Kd.C_drew ?_))); (case side2 => exact HC0_1.out); rintro e w15 ⟨rfl, hb⟩; refine ⟨_, rfl, ?_⟩; have n0_ := Aside0.mk (blk_below (g := gb243) (o := .cells #[.int .i64 a0_0, .slice A0_1 l0_1.length c0_1] 58 (0, 0)) (by (with_reducible repeat (first | refine blk_drewN ?_ _ | refine blk_drew ?_ | refine blk_alloc ?_ _)); exact BK243.out) hb); have n1_ := Aside0.mk (below_step (by repeat (first | (with_reducible first | exact HB.out | apply bwA | apply bwN | apply bwD | refine below_set ?_ GE243.out) | exact HB.out)) hb); clear BK243; clear HB; have BK243 := n0_; have HB := n1_; clear n0_ n1_; (try clear hb); (try clear hb2); (try clear hk); (try clear hi); have hcz16_0 : w15.cell? ⟨gb243, 0, none⟩ = some (.int .i64 a0_0) := (blk_cell BK243.out 0).trans rfl; have hcz16_1 : w15.cell? ⟨gb243, 1, none⟩ = some (.slice A0_1 l0_1.length c0_1) := (blk_cell BK243.out 1).trans rfl; have hfz16_0 := blk_frozen BK243.out 0; have hfz16_1 := blk_frozen BK243.out 1) | ((with_reducible refine gate_callee (f := 39) rfl ?_); refine goesL_ (some 23) rfl rfl Try.func39 (by kernel_rfl) rfl #[.agg #[.int .i64 a0_0, .slice A0_1 l0_1.length c0_1]] rfl (by (try simp only [List.map_toArray, List.map_cons, List.map_nil]); first | done | rfl | (simp only [List.length_drop, List.length_take]; rfl)) ?_; (with_reducible refine (laws_toCircuit.calls k a0_0 _ _ l0_1 t245 t246 _ ?side1 ?side2 A8.out).mono ?_); (case side1 => repeat (first | exact (Kd.C_below HR0_1.out HB.out) | (with_reducible refine Kd.C_alloc ?_ _) | (with_reducible refine Kd.C_drewN ?_ _) | (with_reducible refine Kd.C_drew ?_))); (case side2 => exact HC0_1.out); rintro e w17 ⟨v247, rfl, ho0, hb⟩; refine ⟨_, rfl, ?_⟩; have n0_ := Aside0.mk (Kd.R_lower ho0 (below_size (by repeat (first | (with_reducible first | exact HB.out | apply bwA | apply bwN | apply bwD | refine below_set ?_ GE243.out) | exact HB.out)))); have n1_ := Aside0.mk (blk_below (g := gb243) (o := .cells #[.int .i64 a0_0, .slice A0_1 l0_1.length c0_1] 58 (0, 0)) (by (with_reducible repeat (first | refine blk_drewN ?_ _ | refine blk_drew ?_ | refine blk_alloc ?_ _)); exact BK243.out) hb); have n2_ := Aside0.mk (below_step (by repeat (first | (with_reducible first | exact HB.out | apply bwA | apply bwN | apply bwD | refine below_set ?_ GE243.out) | exact HB.out)) hb); clear BK243; clear HB; have HO248 := n0_; have BK243 := n1_; have HB := n2_; clear n0_ n1_ n2_; (try clear hb); (try clear hb2); (try clear hk); (try clear hi); (try clear ho0); obtain ⟨Ao18, co18, eo18⟩ := Kd.R_slice HO248.out; subst eo18) | ((with_reducible refine gate_callee (f := 32) rfl ?_); refine goesL_ (some 25) rfl rfl Try.func32 (by kernel_rfl) rfl #[.agg #[.int .i64 t245, .slice Ao18 t246.length co18], .int .i64 a1] rfl (by (try simp only [List.map_toArray, List.map_cons, List.map_nil]); first | done | rfl | (simp only [List.length_drop, List.length_take]; rfl)) ?_; (with_reducible refine (spec_DiagramOf.calls k t245 _ _ t246 a1 t249 t250 t253 _ ?side1 ?side2 A9.out).mono ?_); (case side1 => repeat (first | exact (Kd.R_reads' HO248.out).2.2 | (with_reducible refine Kd.C_alloc ?_ _) | (with_reducible refine Kd.C_drewN ?_ _) | (with_reducible refine Kd.C_drew ?_))); (case side2 => exact (Kd.R_reads' HO248.out).2.1); rintro e w19 ⟨v251, rfl, ho0, hb⟩; refine ⟨_, rfl, ?_⟩; have n0_ := Aside0.mk (Kd.R_below (by (with_reducible repeat (first | apply Kd.R_alloc | apply Kd.R_drewN | apply Kd.R_drew)); exact HO248.out) hb); have n1_ := Aside0.mk (Kd.R_lower ho0 (below_size (by repeat (first | (with_reducible first | exact HB.out | apply bwA | apply bwN | apply bwD | refine below_set ?_ GE243.out) | exact HB.out)))); have n2_ := Aside0.mk (blk_below (g := gb243) (o := .cells #[.int .i64 a0_0, .slice A0_1 l0_1.length c0_1] 58 (0, 0)) (by (with_reducible repeat (first | refine blk_drewN ?_ _ | refine blk_drew ?_ | refine blk_alloc ?_ _)); exact BK243.out) hb); have n3_ := Aside0.mk (below_step (by repeat (first | (with_reducible first | exact HB.out | apply bwA | apply bwN | apply bwD | refine below_set ?_ GE243.out) | exact HB.out)) hb); clear HO248; clear BK243; clear HB; have HO248 := n0_; have HO252 := n1_; have BK243 := n2_; have HB := n3_; clear n0_ n1_ n2_ n3_; (try clear hb); (try clear hb2); (try clear hk); (try clear hi); (try clear ho0)) | ((with_reducible refine gate_dst (N := 6) rfl ?_); refine box_event ?hg (N := 6) ?hd (cs := #[.int .i64 0, .slice none 0 0]) (t := 25) ?hr ?_; (case hd => rfl); (case hg => rfl); (case hr => first | (go_simp; done) | (go_simp; rfl)); intro gb254 hg w20 hbox hb; have n0_ := Aside0.mk (Kd.R_below (by (with_reducible repeat (first | apply Kd.R_alloc | apply Kd.R_drewN | apply Kd.R_drew)); exact HO248.out) hb); have n1_ := Aside0.mk (Kd.R_below (by (with_reducible repeat (first | apply Kd.R_alloc | apply Kd.R_drewN | apply Kd.R_drew)); exact HO252.out) hb); have n2_ := Aside0.mk (blk_below (g := gb243) (o := .cells #[.int .i64 a0_0, .slice A0_1 l0_1.length c0_1] 58 (0, 0)) (by (with_reducible repeat (first | refine blk_drewN ?_ _ | refine blk_drew ?_ | refine blk_alloc ?_ _)); exact BK243.out) hb); have n3_ := Aside0.mk (below_step (by repeat (first | (with_reducible first | exact HB.out | apply bwA | apply bwN | apply bwD | refine below_set ?_ GE243.out) | exact HB.out)) hb); have n4_ := Aside0.mk (hbox); have n5_ := Aside0.mk ((by rw [hg]; exact (below_size (by repeat (first | (with_reducible first | exact HB.out | apply bwA | apply bwN | apply bwD | refine below_set ?_ GE243.out) | exact HB.out))) : w.heap.size ≤ gb254)); have n6_ := Aside0.mk ((by rw [hg]; exact (below_size (by repeat (first | (with_reducible first | exact HB.out | apply bwA | apply bwN | apply bwD | refine below_set ?_ GE243.out) | exact HB.out))) : w.heap.size ≤ gb254)); have n7_ := Aside0.mk ((by rw [hg]; exact Nat.ne_of_lt (blk_lt (g := gb243) (o := .cells #[.int .i64 a0_0, .slice A0_1 l0_1.length c0_1] 58 (0, 0)) (by (with_reducible repeat (first | refine blk_drewN ?_ _ | refine blk_drew ?_ | refine blk_alloc ?_ _)); exact BK243.out)) : gb243 ≠ gb254)); have n8_ := Aside0.mk ((by rw [hg]; exact Nat.ne_of_gt (blk_lt (g := gb243) (o := .cells #[.int .i64 a0_0, .slice A0_1 l0_1.length c0_1] 58 (0, 0)) (by (with_reducible repeat (first | refine blk_drewN ?_ _ | refine blk_drew ?_ | refine blk_alloc ?_ _)); exact BK243.out)) : gb254 ≠ gb243)); clear HO248; clear HO252; clear BK243; clear HB; have HO248 := n0_; have HO252 := n1_; have BK243 := n2_; have HB := n3_; have BK254 := n4_; have GW254 := n5_; have GE254 := n6_; have NB243_254 := n7_; have NB254_243 := n8_; clear n0_ n1_ n2_ n3_ n4_ n5_ n6_ n7_ n8_; clear hb hbox hg; have hnb21 := NB254_243.out; have hnc21 := NB243_254.out; have hcz22_0 : w20.cell? ⟨gb254, 0, none⟩ = some (.int .i64 0) := (blk_cell BK254.out 0).trans rfl; have hcz22_1 : w20.cell? ⟨gb254, 1, none⟩ = some (.slice none 0 0) := (blk_cell BK254.out 1).trans rfl; have hfz22_0 := blk_frozen BK254.out 0; have hfz22_1 := blk_frozen BK254.out 1; obtain ⟨Ao23, co23, eo23⟩ := Kd.R_slice HO252.out; subst eo23; have hcz24_0 : w20.cell? ⟨gb243, 0, none⟩ = some (.int .i64 a0_0) := (blk_cell BK243.out 0).trans rfl; have hcz24_1 : w20.cell? ⟨gb243, 1, none⟩ = some (.slice A0_1 l0_1.length c0_1) := (blk_cell BK243.out 1).trans rfl; have hfz24_0 := blk_frozen BK243.out 0; have hfz24_1 := blk_frozen BK243.out 1) | ((with_reducible refine gate_callee (f := 39) rfl ?_); refine goesL_ (some 29) rfl rfl Try.func39 (by kernel_rfl) rfl #[.agg #[.int .i64 a0_0, .slice A0_1 l0_1.length c0_1]] rfl (by (try simp only [List.map_toArray, List.map_cons, List.map_nil]); first | done | rfl | (simp only [List.length_drop, List.length_take]; rfl)) ?_; (with_reducible refine (laws_toCircuit.calls k a0_0 _ _ l0_1 t255 t256 _ ?side1 ?side2 A10.out).mono ?_); (case side1 => exact Kd.C_below HR0_1.out (by repeat (first | (with_reducible first | exact HB.out | apply bwA | apply bwN | apply bwD | refine below_set ?_ GE243.out | refine below_set ?_ GE254.out) | exact HB.out))); (case side2 => exact HC0_1.out); rintro e w25 ⟨v257, rfl, ho0, hb⟩; refine ⟨_, rfl, ?_⟩; have n0_ := Aside0.mk (Kd.R_elder' (by (with_reducible repeat (first | apply Kd.R_alloc | apply Kd.R_drewN | apply Kd.R_drew)); exact (Kd.R_mono (Kd.R_far (p := ⟨gb254, 1, none⟩) (Kd.R_far (p := ⟨gb254, 0, none⟩) (Kd.R_types HO248.out BK254.out (by decide)) (fun _ hk => hk.2) (.int .i64 t249)) (fun _ hk => hk.2) (.slice Ao23 t250.length co23)) (fun _ h_ => h_.1))) (Kd.R_base ho0) hb); have n1_ := Aside0.mk (Kd.R_below (by (with_reducible repeat (first | apply Kd.R_alloc | apply Kd.R_drewN | apply Kd.R_drew)); exact (Kd.R_mono (Kd.R_far (p := ⟨gb254, 1, none⟩) (Kd.R_far (p := ⟨gb254, 0, none⟩) (Kd.R_types HO252.out BK254.out (by decide)) (fun _ hk => hk.2) (.int .i64 t249)) (fun _ hk => hk.2) (.slice Ao23 t250.length co23)) (fun _ h_ => h_.1))) hb); have n2_ := Aside0.mk (Kd.R_lower (Kd.R_new' ho0 (Kd.R_lt (by (with_reducible repeat (first | apply Kd.R_alloc | apply Kd.R_drewN | apply Kd.R_drew)); exact (Kd.R_mono (Kd.R_far (p := ⟨gb254, 1, none⟩) (Kd.R_far (p := ⟨gb254, 0, none⟩) (Kd.R_types HO248.out BK254.out (by decide)) (fun _ hk => hk.2) (.int .i64 t249)) (fun _ hk => hk.2) (.slice Ao23 t250.length co23)) (fun _ h_ => h_.1))))) (below_size (by repeat (first | (with_reducible first | exact HB.out | apply bwA | apply bwN | apply bwD | refine below_set ?_ GE243.out | refine below_set ?_ GE254.out) | exact HB.out)))); have n3_ := Aside0.mk (blk_below (g := gb243) (o := .cells #[.int .i64 a0_0, .slice A0_1 l0_1.length c0_1] 58 (0, 0)) (by (with_reducible repeat (first | refine blk_drewN ?_ _ | refine blk_drew ?_ | refine blk_alloc ?_ _)); refine blk_far ?_ NB243_254.out _; (with_reducible repeat (first | refine blk_drewN ?_ _ | refine blk_drew ?_ | refine blk_alloc ?_ _)); refine blk_far ?_ NB243_254.out _; (with_reducible repeat (first | refine blk_drewN ?_ _ | refine blk_drew ?_ | refine blk_alloc ?_ _)); exact BK243.out) hb); have n4_ := Aside0.mk (blk_below (g := gb254) (o := .cells #[.int .i64 t249, .slice Ao23 t250.length co23] 25 (0, 0)) (by (with_reducible repeat (first | refine blk_drewN ?_ _ | refine blk_drew ?_ | refine blk_alloc ?_ _)); refine blk_put (cs := #[.int .i64 t249, .slice none 0 0]) ?_ 1 _ rfl; (with_reducible repeat (first | refine blk_drewN ?_ _ | refine blk_drew ?_ | refine blk_alloc ?_ _)); refine blk_put (cs := #[.int .i64 0, .slice none 0 0]) ?_ 0 _ rfl; (with_reducible repeat (first | refine blk_drewN ?_ _ | refine blk_drew ?_ | refine blk_alloc ?_ _)); exact BK254.out) hb); have n5_ := Aside0.mk (below_step (by repeat (first | (with_reducible first | exact HB.out | apply bwA | apply bwN | apply bwD | refine below_set ?_ GE243.out | refine below_set ?_ GE254.out) | exact HB.out)) hb); clear HO248; clear HO252; clear BK243; clear BK254; clear HB; have HO248 := n0_; have HO252 := n1_; have HO258 := n2_; have BK243 := n3_; have BK254 := n4_; have HB := n5_; clear n0_ n1_ n2_ n3_ n4_ n5_; (try clear hb); (try clear hb2); (try clear hk); (try clear hi); (try clear ho0)) | ((with_reducible refine gate_dst (N := 8) rfl ?_); refine box_event ?hg (N := 8) ?hd (cs := #[.int .i64 0, .slice none 0 0]) (t := 45) ?hr ?_; (case hd => rfl); (case hg => rfl); (case hr => first | (go_simp; done) | (go_simp; rfl)); intro gb259 hg w26 hbox hb; have n0_ := Aside0.mk (Kd.R_below (by (with_reducible repeat (first | apply Kd.R_alloc | apply Kd.R_drewN | apply Kd.R_drew)); exact HO248.out) hb); have n1_ := Aside0.mk (Kd.R_below (by (with_reducible repeat (first | apply Kd.R_alloc | apply Kd.R_drewN | apply Kd.R_drew)); exact HO252.out) hb); have n2_ := Aside0.mk (Kd.R_below (by (with_reducible repeat (first | apply Kd.R_alloc | apply Kd.R_drewN | apply Kd.R_drew)); exact HO258.out) hb); have n3_ := Aside0.mk (blk_below (g := gb243) (o := .cells #[.int .i64 a0_0, .slice A0_1 l0_1.length c0_1] 58 (0, 0)) (by (with_reducible repeat (first | refine blk_drewN ?_ _ | refine blk_drew ?_ | refine blk_alloc ?_ _)); exact BK243.out) hb); have n4_ := Aside0.mk (blk_below (g := gb254) (o := .cells #[.int .i64 t249, .slice Ao23 t250.length co23] 25 (0, 0)) (by (with_reducible repeat (first | refine blk_drewN ?_ _ | refine blk_drew ?_ | refine blk_alloc ?_ _)); exact BK254.out) hb); have n5_ := Aside0.mk (below_step (by repeat (first | (with_reducible first | exact HB.out | apply bwA | apply bwN | apply bwD | refine below_set ?_ GE243.out | refine below_set ?_ GE254.out) | exact HB.out)) hb); have n6_ := Aside0.mk (hbox); have n7_ := Aside0.mk ((by rw [hg]; exact (below_size (by repeat (first | (with_reducible first | exact HB.out | apply bwA | apply bwN | apply bwD | refine below_set ?_ GE243.out | refine below_set ?_ GE254.out) | exact HB.out))) : w.heap.size ≤ gb259)); have n8_ := Aside0.mk ((by rw [hg]; exact (below_size (by repeat (first | (with_reducible first | exact HB.out | apply bwA | apply bwN | apply bwD | refine below_set ?_ GE243.out | refine below_set ?_ GE254.out) | exact HB.out))) : w.heap.size ≤ gb259)); have n9_ := Aside0.mk ((by rw [hg]; exact Nat.ne_of_lt (blk_lt (g := gb243) (o := .cells #[.int .i64 a0_0, .slice A0_1 l0_1.length c0_1] 58 (0, 0)) (by (with_reducible repeat (first | refine blk_drewN ?_ _ | refine blk_drew ?_ | refine blk_alloc ?_ _)); exact BK243.out)) : gb243 ≠ gb259)); have n10_ := Aside0.mk ((by rw [hg]; exact Nat.ne_of_gt (blk_lt (g := gb243) (o := .cells #[.int .i64 a0_0, .slice A0_1 l0_1.length c0_1] 58 (0, 0)) (by (with_reducible repeat (first | refine blk_drewN ?_ _ | refine blk_drew ?_ | refine blk_alloc ?_ _)); exact BK243.out)) : gb259 ≠ gb243)); have n11_ := Aside0.mk ((by rw [hg]; exact Nat.ne_of_lt (blk_lt (g := gb254) (o := .cells #[.int .i64 t249, .slice Ao23 t250.length co23] 25 (0, 0)) (by (with_reducible repeat (first | refine blk_drewN ?_ _ | refine blk_drew ?_ | refine blk_alloc ?_ _)); exact BK254.out)) : gb254 ≠ gb259)); have n12_ := Aside0.mk ((by rw [hg]; exact Nat.ne_of_gt (blk_lt (g := gb254) (o := .cells #[.int .i64 t249, .slice Ao23 t250.length co23] 25 (0, 0)) (by (with_reducible repeat (first | refine blk_drewN ?_ _ | refine blk_drew ?_ | refine blk_alloc ?_ _)); exact BK254.out)) : gb259 ≠ gb254)); clear HO248; clear HO252; clear HO258; clear BK243; clear BK254; clear HB; have HO248 := n0_; have HO252 := n1_; have HO258 := n2_; have BK243 := n3_; have BK254 := n4_; have HB := n5_; have BK259 := n6_; have GW259 := n7_; have GE259 := n8_; have NB243_259 := n9_; have NB259_243 := n10_; have NB254_259 := n11_; have NB259_254 := n12_; clear n0_ n1_ n2_ n3_ n4_ n5_ n6_ n7_ n8_ n9_ n10_ n11_ n12_; clear hb hbox hg; have hnb27 := NB259_243.out; have hnc27 := NB243_259.out; have hnb28 := NB259_254.out; have hnc28 := NB254_259.out; have hcz29_0 : w26.cell? ⟨gb259, 0, none⟩ = some (.int .i64 0) := (blk_cell BK259.out 0).trans rfl; have hcz29_1 : w26.cell? ⟨gb259, 1, none⟩ = some (.slice none 0 0) := (blk_cell BK259.out 1).trans rfl; have hfz29_0 := blk_frozen BK259.out 0; have hfz29_1 := blk_frozen BK259.out 1; obtain ⟨Ao30, co30, eo30⟩ := Kd.R_slice HO258.out; subst eo30) | ((with_reducible refine gate_callee (f := 31) rfl ?_); refine goesL_ (some 33) rfl rfl Try.func31 (by kernel_rfl) rfl #[.agg #[.int .i64 t255, .slice Ao30 t256.length co30], .int .i64 a1] rfl (by (try simp only [List.map_toArray, List.map_cons, List.map_nil]); first | done | rfl | (simp only [List.length_drop, List.length_take]; rfl)) ?_; (with_reducible refine (impl_DiagramOf.calls k t255 _ _ t256 a1 t260 t261 t264 _ ?side1 ?side2 A11.out).mono ?_); (case side1 => refine (Kd.R_reads' (e := 121) (base := w.heap.size) (ok := fun k_ => (True ∧ some k_ ≠ (.slice Ao18 t246.length co18 : Value).ownBlock)) (n := t256.length) (c := co30) ?_).2.2; exact (by (with_reducible repeat (first | apply Kd.R_alloc | apply Kd.R_drewN | apply Kd.R_drew)); exact (Kd.R_mono (Kd.R_far (p := ⟨gb259, 1, none⟩) (Kd.R_far (p := ⟨gb259, 0, none⟩) (Kd.R_types HO258.out BK259.out (by decide)) (fun _ hk => hk.2) (.int .i64 t255)) (fun _ hk => hk.2) (.slice Ao30 t256.length co30)) (fun _ h_ => h_.1)))); (case side2 => exact (Kd.R_reads' HO258.out).2.1); rintro e w31 ⟨v262, rfl, ho0, hb⟩; refine ⟨_, rfl, ?_⟩; have n0_ := Aside0.mk (Kd.R_below (by (with_reducible repeat (first | apply Kd.R_alloc | apply Kd.R_drewN | apply Kd.R_drew)); exact (Kd.R_mono (Kd.R_far (p := ⟨gb259, 1, none⟩) (Kd.R_far (p := ⟨gb259, 0, none⟩) (Kd.R_types HO248.out BK259.out (by decide)) (fun _ hk => hk.2) (.int .i64 t255)) (fun _ hk => hk.2) (.slice Ao30 t256.length co30)) (fun _ h_ => h_.1))) hb); have n1_ := Aside0.mk (Kd.R_elder' (by (with_reducible repeat (first | apply Kd.R_alloc | apply Kd.R_drewN | apply Kd.R_drew)); exact (Kd.R_mono (Kd.R_far (p := ⟨gb259, 1, none⟩) (Kd.R_far (p := ⟨gb259, 0, none⟩) (Kd.R_types HO252.out BK259.out (by decide)) (fun _ hk => hk.2) (.int .i64 t255)) (fun _ hk => hk.2) (.slice Ao30 t256.length co30)) (fun _ h_ => h_.1))) (Kd.R_base ho0) hb); have n2_ := Aside0.mk (Kd.R_below (by (with_reducible repeat (first | apply Kd.R_alloc | apply Kd.R_drewN | apply Kd.R_drew)); exact (Kd.R_mono (Kd.R_far (p := ⟨gb259, 1, none⟩) (Kd.R_far (p := ⟨gb259, 0, none⟩) (Kd.R_types HO258.out BK259.out (by decide)) (fun _ hk => hk.2) (.int .i64 t255)) (fun _ hk => hk.2) (.slice Ao30 t256.length co30)) (fun _ h_ => h_.1))) hb); have n3_ := Aside0.mk (Kd.R_lower (Kd.R_new' ho0 (Kd.R_lt (by (with_reducible repeat (first | apply Kd.R_alloc | apply Kd.R_drewN | apply Kd.R_drew)); exact (Kd.R_mono (Kd.R_far (p := ⟨gb259, 1, none⟩) (Kd.R_far (p := ⟨gb259, 0, none⟩) (Kd.R_types HO252.out BK259.out (by decide)) (fun _ hk => hk.2) (.int .i64 t255)) (fun _ hk => hk.2) (.slice Ao30 t256.length co30)) (fun _ h_ => h_.1))))) (below_size (by repeat (first | (with_reducible first | exact HB.out | apply bwA | apply bwN | apply bwD | refine below_set ?_ GE243.out | refine below_set ?_ GE254.out | refine below_set ?_ GE259.out) | exact HB.out)))); have n4_ := Aside0.mk (blk_below (g := gb243) (o := .cells #[.int .i64 a0_0, .slice A0_1 l0_1.length c0_1] 58 (0, 0)) (by (with_reducible repeat (first | refine blk_drewN ?_ _ | refine blk_drew ?_ | refine blk_alloc ?_ _)); refine blk_far ?_ NB243_259.out _; (with_reducible repeat (first | refine blk_drewN ?_ _ | refine blk_drew ?_ | refine blk_alloc ?_ _)); refine blk_far ?_ NB243_259.out _; (with_reducible repeat (first | refine blk_drewN ?_ _ | refine blk_drew ?_ | refine blk_alloc ?_ _)); exact BK243.out) hb); have n5_ := Aside0.mk (blk_below (g := gb254) (o := .cells #[.int .i64 t249, .slice Ao23 t250.length co23] 25 (0, 0)) (by (with_reducible repeat (first | refine blk_drewN ?_ _ | refine blk_drew ?_ | refine blk_alloc ?_ _)); refine blk_far ?_ NB254_259.out _; (with_reducible repeat (first | refine blk_drewN ?_ _ | refine blk_drew ?_ | refine blk_alloc ?_ _)); refine blk_far ?_ NB254_259.out _; (with_reducible repeat (first | refine blk_drewN ?_ _ | refine blk_drew ?_ | refine blk_alloc ?_ _)); exact BK254.out) hb); have n6_ := Aside0.mk (blk_below (g := gb259) (o := .cells #[.int .i64 t255, .slice Ao30 t256.length co30] 45 (0, 0)) (by (with_reducible repeat (first | refine blk_drewN ?_ _ | refine blk_drew ?_ | refine blk_alloc ?_ _)); refine blk_put (cs := #[.int .i64 t255, .slice none 0 0]) ?_ 1 _ rfl; (with_reducible repeat (first | refine blk_drewN ?_ _ | refine blk_drew ?_ | refine blk_alloc ?_ _)); refine blk_put (cs := #[.int .i64 0, .slice none 0 0]) ?_ 0 _ rfl; (with_reducible repeat (first | refine blk_drewN ?_ _ | refine blk_drew ?_ | refine blk_alloc ?_ _)); exact BK259.out) hb); have n7_ := Aside0.mk (below_step (by repeat (first | (with_reducible first | exact HB.out | apply bwA | apply bwN | apply bwD | refine below_set ?_ GE243.out | refine below_set ?_ GE254.out | refine below_set ?_ GE259.out) | exact HB.out)) hb); clear HO248; clear HO252; clear HO258; clear BK243; clear BK254; clear BK259; clear HB; have HO248 := n0_; have HO252 := n1_; have HO258 := n2_; have HO263 := n3_; have BK243 := n4_; have BK254 := n5_; have BK259 := n6_; have HB := n7_; clear n0_ n1_ n2_ n3_ n4_ n5_ n6_ n7_; (try clear hb); (try clear hb2); (try clear hk); (try clear hi); (try clear ho0)) | ((with_reducible refine gate_dst (N := 9) rfl ?_); refine box_event ?hg (N := 9) ?hd (cs := #[.int .i64 0, .slice none 0 0]) (t := 25) ?hr ?_; (case hd => rfl); (case hg => rfl); (case hr => first | (go_simp; done) | (go_simp; rfl)); intro gb265 hg w32 hbox hb; have n0_ := Aside0.mk (Kd.R_below (by (with_reducible repeat (first | apply Kd.R_alloc | apply Kd.R_drewN | apply Kd.R_drew)); exact HO248.out) hb); have n1_ := Aside0.mk (Kd.R_below (by (with_reducible repeat (first | apply Kd.R_alloc | apply Kd.R_drewN | apply Kd.R_drew)); exact HO252.out) hb); have n2_ := Aside0.mk (Kd.R_below (by (with_reducible repeat (first | apply Kd.R_alloc | apply Kd.R_drewN | apply Kd.R_drew)); exact HO258.out) hb); have n3_ := Aside0.mk (Kd.R_below (by (with_reducible repeat (first | apply Kd.R_alloc | apply Kd.R_drewN | apply Kd.R_drew)); exact HO263.out) hb); have n4_ := Aside0.mk (blk_below (g := gb243) (o := .cells #[.int .i64 a0_0, .slice A0_1 l0_1.length c0_1] 58 (0, 0)) (by (with_reducible repeat (first | refine blk_drewN ?_ _ | refine blk_drew ?_ | refine blk_alloc ?_ _)); exact BK243.out) hb); have n5_ := Aside0.mk (blk_below (g := gb254) (o := .cells #[.int .i64 t249, .slice Ao23 t250.length co23] 25 (0, 0)) (by (with_reducible repeat (first | refine blk_drewN ?_ _ | refine blk_drew ?_ | refine blk_alloc ?_ _)); exact BK254.out) hb); have n6_ := Aside0.mk (blk_below (g := gb259) (o := .cells #[.int .i64 t255, .slice Ao30 t256.length co30] 45 (0, 0)) (by (with_reducible repeat (first | refine blk_drewN ?_ _ | refine blk_drew ?_ | refine blk_alloc ?_ _)); exact BK259.out) hb); have n7_ := Aside0.mk (below_step (by repeat (first | (with_reducible first | exact HB.out | apply bwA | apply bwN | apply bwD | refine below_set ?_ GE243.out | refine below_set ?_ GE254.out | refine below_set ?_ GE259.out) | exact HB.out)) hb); have n8_ := Aside0.mk (hbox); have n9_ := Aside0.mk ((by rw [hg]; exact (below_size (by repeat (first | (with_reducible first | exact HB.out | apply bwA | apply bwN | apply bwD | refine below_set ?_ GE243.out | refine below_set ?_ GE254.out | refine below_set ?_ GE259.out) | exact HB.out))) : w.heap.size ≤ gb265)); have n10_ := Aside0.mk ((by rw [hg]; exact (below_size (by repeat (first | (with_reducible first | exact HB.out | apply bwA | apply bwN | apply bwD | refine below_set ?_ GE243.out | refine below_set ?_ GE254.out | refine below_set ?_ GE259.out) | exact HB.out))) : w.heap.size ≤ gb265)); have n11_ := Aside0.mk ((by rw [hg]; exact Nat.ne_of_lt (blk_lt (g := gb243) (o := .cells #[.int .i64 a0_0, .slice A0_1 l0_1.length c0_1] 58 (0, 0)) (by (with_reducible repeat (first | refine blk_drewN ?_ _ | refine blk_drew ?_ | refine blk_alloc ?_ _)); exact BK243.out)) : gb243 ≠ gb265)); have n12_ := Aside0.mk ((by rw [hg]; exact Nat.ne_of_gt (blk_lt (g := gb243) (o := .cells #[.int .i64 a0_0, .slice A0_1 l0_1.length c0_1] 58 (0, 0)) (by (with_reducible repeat (first | refine blk_drewN ?_ _ | refine blk_drew ?_ | refine blk_alloc ?_ _)); exact BK243.out)) : gb265 ≠ gb243)); have n13_ := Aside0.mk ((by rw [hg]; exact Nat.ne_of_lt (blk_lt (g := gb254) (o := .cells #[.int .i64 t249, .slice Ao23 t250.length co23] 25 (0, 0)) (by (with_reducible repeat (first | refine blk_drewN ?_ _ | refine blk_drew ?_ | refine blk_alloc ?_ _)); exact BK254.out)) : gb254 ≠ gb265)); have n14_ := Aside0.mk ((by rw [hg]; exact Nat.ne_of_gt (blk_lt (g := gb254) (o := .cells #[.int .i64 t249, .slice Ao23 t250.length co23] 25 (0, 0)) (by (with_reducible repeat (first | refine blk_drewN ?_ _ | refine blk_drew ?_ | refine blk_alloc ?_ _)); exact BK254.out)) : gb265 ≠ gb254)); have n15_ := Aside0.mk ((by rw [hg]; exact Nat.ne_of_lt (blk_lt (g := gb259) (o := .cells #[.int .i64 t255, .slice Ao30 t256.length co30] 45 (0, 0)) (by (with_reducible repeat (first | refine blk_drewN ?_ _ | refine blk_drew ?_ | refine blk_alloc ?_ _)); exact BK259.out)) : gb259 ≠ gb265)); have n16_ := Aside0.mk ((by rw [hg]; exact Nat.ne_of_gt (blk_lt (g := gb259) (o := .cells #[.int .i64 t255, .slice Ao30 t256.length co30] 45 (0, 0)) (by (with_reducible repeat (first | refine blk_drewN ?_ _ | refine blk_drew ?_ | refine blk_alloc ?_ _)); exact BK259.out)) : gb265 ≠ gb259)); clear HO248; clear HO252; clear HO258; clear HO263; clear BK243; clear BK254; clear BK259; clear HB; have HO248 := n0_; have HO252 := n1_; have HO258 := n2_; have HO263 := n3_; have BK243 := n4_; have BK254 := n5_; have BK259 := n6_; have HB := n7_; have BK265 := n8_; have GW265 := n9_; have GE265 := n10_; have NB243_265 := n11_; have NB265_243 := n12_; have NB254_265 := n13_; have NB265_254 := n14_; have NB259_265 := n15_; have NB265_259 := n16_; clear n0_ n1_ n2_ n3_ n4_ n5_ n6_ n7_ n8_ n9_ n10_ n11_ n12_ n13_ n14_ n15_ n16_; clear hb hbox hg; have hnb33 := NB265_243.out; have hnc33 := NB243_265.out; have hnb34 := NB265_254.out; have hnc34 := NB254_265.out; have hnb35 := NB265_259.out; have hnc35 := NB259_265.out; have hcz36_0 : w32.cell? ⟨gb265, 0, none⟩ = some (.int .i64 0) := (blk_cell BK265.out 0).trans rfl; have hcz36_1 : w32.cell? ⟨gb265, 1, none⟩ = some (.slice none 0 0) := (blk_cell BK265.out 1).trans rfl; have hfz36_0 := blk_frozen BK265.out 0; have hfz36_1 := blk_frozen BK265.out 1; obtain ⟨Ao37, co37, eo37⟩ := Kd.R_slice HO263.out; subst eo37))
  (try simp only [Act.put, List.setIfInBounds_toArray, List.set_cons_zero, List.set_cons_succ])
  go_cut [44] (fun v44 wc => ∃ (kq : Nat) (x44_11 : Bool), v44 = .bool x44_11 ∧ Aside0 (laws_FnExactDiagramOf.j0 kq a1 t253 t264 x44_11 a0_0 l0_1 t249 t250 t255 t256 t260 t261 = some r) ∧ Aside0 (kq ≤ k) ∧ Aside0 (Kd.R k71 71 wc w.heap.size (fun k_ => some k_ ≠ ((.slice Ao37 t261.length co37) : Value).ownBlock) (.slice Ao23 t250.length co23) t250) ∧ Aside0 (Kd.R k121 121 wc w.heap.size (fun _ => True) (.slice Ao30 t256.length co30) t256) ∧ Aside0 (Kd.R k71 71 wc w.heap.size (fun k_ => some k_ ≠ ((.slice Ao23 t250.length co23) : Value).ownBlock) (.slice Ao37 t261.length co37) t261) ∧ Aside0 (wc.heap[gb243]? = some (.cells #[.int .i64 a0_0, (.slice A0_1 l0_1.length c0_1)] 58 (0, 0))) ∧ Aside0 (wc.heap[gb254]? = some (.cells #[.int .i64 t249, (.slice Ao23 t250.length co23)] 25 (0, 0))) ∧ Aside0 (wc.heap[gb259]? = some (.cells #[.int .i64 t255, (.slice Ao30 t256.length co30)] 45 (0, 0))) ∧ Aside0 (wc.heap[gb265]? = some (.cells #[.int .i64 t260, (.slice Ao37 t261.length co37)] 25 (0, 0))) ∧ Aside0 (Below w.heap.size w wc))
  case first =>
   have H := HC12.out
   clear HC12
   replace H := Option.bind_eq_some_iff.mp H
   obtain ⟨t266, A380, H⟩ := H
   replace H : (if t266 = true then (laws_FnExactDiagramOf.j0 k a1 t253 t264 (t264 != t253) a0_0 l0_1 t249 t250 t255 t256 t260 t261) else (laws_FnExactDiagramOf.j0 k a1 t253 t264 true a0_0 l0_1 t249 t250 t255 t256 t260 t261)) = some r := H
   have A38 := Aside0.mk A380
   clear A380
   by_cases c39 : t266 = true
   ·subst c39
    have H1 : (laws_FnExactDiagramOf.j0 k a1 t253 t264 (t264 != t253) a0_0 l0_1 t249 t250 t255 t256 t260 t261) = some r := by rw [if_pos rfl] at H; exact H
    clear H
    have H := H1
    clear H1
    have H' := Aside0.mk H
    clear H
    have hnb40 := NB265_243.out
    have hnc40 := NB243_265.out
    have hnb41 := NB265_254.out
    have hnc41 := NB254_265.out
    have hnb42 := NB265_259.out
    have hnc42 := NB259_265.out
    have hcz43_0 : w32.cell? ⟨gb265, 0, none⟩ = some (.int .i64 0) := (blk_cell BK265.out 0).trans rfl
    have hcz43_1 : w32.cell? ⟨gb265, 1, none⟩ = some (.slice none 0 0) := (blk_cell BK265.out 1).trans rfl
    have hfz43_0 := blk_frozen BK265.out 0
    have hfz43_1 := blk_frozen BK265.out 1
    have hnb44 := NB254_243.out
    have hnc44 := NB243_254.out
    have hnb45 := NB254_259.out
    have hnc45 := NB259_254.out
    have hcz46_0 : w32.cell? ⟨gb254, 0, none⟩ = some (.int .i64 t249) := (blk_cell BK254.out 0).trans rfl
    have hcz46_1 : w32.cell? ⟨gb254, 1, none⟩ = some (.slice Ao23 t250.length co23) := (blk_cell BK254.out 1).trans rfl
    have hfz46_0 := blk_frozen BK254.out 0
    have hfz46_1 := blk_frozen BK254.out 1
    go_wp2_with (first | ((with_reducible refine gate_callee (f := 21) rfl ?_); refine goesL_ (some 38) rfl rfl Try.func21 (by kernel_rfl) rfl #[.agg #[.int .i64 t260, .slice Ao37 t261.length co37], .agg #[.int .i64 t249, .slice Ao23 t250.length co23]] rfl (by (try simp only [List.map_toArray, List.map_cons, List.map_nil]); first | done | rfl | (simp only [List.length_drop, List.length_take]; rfl)) ?_; (with_reducible refine (laws_eqDiagram.calls k t260 _ _ t261 t249 _ _ t250 true _ ?side1 ?side2 ?side3 ?side4 A38.out).mono ?_); (case side1 => refine (Kd.R_reads' (e := 71) (base := w.heap.size) (ok := fun k_ => (True ∧ some k_ ≠ (.slice Ao23 t250.length co23 : Value).ownBlock)) (n := t261.length) (c := co37) ?_).2.2; exact (by (with_reducible repeat (first | apply Kd.R_alloc | apply Kd.R_drewN | apply Kd.R_drew)); exact (Kd.R_mono (Kd.R_far (p := ⟨gb265, 1, none⟩) (Kd.R_far (p := ⟨gb265, 0, none⟩) (Kd.R_types HO263.out BK265.out (by decide)) (fun _ hk => hk.2) (.int .i64 t260)) (fun _ hk => hk.2) (.slice Ao37 t261.length co37)) (fun _ h_ => h_.1)))); (case side2 => exact (Kd.R_reads' HO263.out).2.1); (case side3 => refine (Kd.R_reads' (e := 71) (base := w.heap.size) (ok := fun k_ => (True ∧ some k_ ≠ (.slice Ao37 t261.length co37 : Value).ownBlock)) (n := t250.length) (c := co23) ?_).2.2; exact (by (with_reducible repeat (first | apply Kd.R_alloc | apply Kd.R_drewN | apply Kd.R_drew)); exact (Kd.R_mono (Kd.R_far (p := ⟨gb265, 1, none⟩) (Kd.R_far (p := ⟨gb265, 0, none⟩) (Kd.R_types HO252.out BK265.out (by decide)) (fun _ hk => hk.2) (.int .i64 t260)) (fun _ hk => hk.2) (.slice Ao37 t261.length co37)) (fun _ h_ => h_.1)))); (case side4 => exact (Kd.R_reads' HO252.out).2.1); rintro e w47 ⟨rfl, hb⟩; refine ⟨_, rfl, ?_⟩; have n0_ := Aside0.mk (Kd.R_below (by (with_reducible repeat (first | apply Kd.R_alloc | apply Kd.R_drewN | apply Kd.R_drew)); exact (Kd.R_mono (Kd.R_far (p := ⟨gb265, 1, none⟩) (Kd.R_far (p := ⟨gb265, 0, none⟩) (Kd.R_types HO248.out BK265.out (by decide)) (fun _ hk => hk.2) (.int .i64 t260)) (fun _ hk => hk.2) (.slice Ao37 t261.length co37)) (fun _ h_ => h_.1))) hb); have n1_ := Aside0.mk (Kd.R_below (by (with_reducible repeat (first | apply Kd.R_alloc | apply Kd.R_drewN | apply Kd.R_drew)); exact (Kd.R_mono (Kd.R_far (p := ⟨gb265, 1, none⟩) (Kd.R_far (p := ⟨gb265, 0, none⟩) (Kd.R_types HO252.out BK265.out (by decide)) (fun _ hk => hk.2) (.int .i64 t260)) (fun _ hk => hk.2) (.slice Ao37 t261.length co37)) (fun _ h_ => h_.1))) hb); have n2_ := Aside0.mk (Kd.R_below (by (with_reducible repeat (first | apply Kd.R_alloc | apply Kd.R_drewN | apply Kd.R_drew)); exact (Kd.R_mono (Kd.R_far (p := ⟨gb265, 1, none⟩) (Kd.R_far (p := ⟨gb265, 0, none⟩) (Kd.R_types HO258.out BK265.out (by decide)) (fun _ hk => hk.2) (.int .i64 t260)) (fun _ hk => hk.2) (.slice Ao37 t261.length co37)) (fun _ h_ => h_.1))) hb); have n3_ := Aside0.mk (Kd.R_below (by (with_reducible repeat (first | apply Kd.R_alloc | apply Kd.R_drewN | apply Kd.R_drew)); exact (Kd.R_mono (Kd.R_far (p := ⟨gb265, 1, none⟩) (Kd.R_far (p := ⟨gb265, 0, none⟩) (Kd.R_types HO263.out BK265.out (by decide)) (fun _ hk => hk.2) (.int .i64 t260)) (fun _ hk => hk.2) (.slice Ao37 t261.length co37)) (fun _ h_ => h_.1))) hb); have n4_ := Aside0.mk (blk_below (g := gb243) (o := .cells #[.int .i64 a0_0, .slice A0_1 l0_1.length c0_1] 58 (0, 0)) (by (with_reducible repeat (first | refine blk_drewN ?_ _ | refine blk_drew ?_ | refine blk_alloc ?_ _)); refine blk_far ?_ NB243_265.out _; (with_reducible repeat (first | refine blk_drewN ?_ _ | refine blk_drew ?_ | refine blk_alloc ?_ _)); refine blk_far ?_ NB243_265.out _; (with_reducible repeat (first | refine blk_drewN ?_ _ | refine blk_drew ?_ | refine blk_alloc ?_ _)); exact BK243.out) hb); have n5_ := Aside0.mk (blk_below (g := gb254) (o := .cells #[.int .i64 t249, .slice Ao23 t250.length co23] 25 (0, 0)) (by (with_reducible repeat (first | refine blk_drewN ?_ _ | refine blk_drew ?_ | refine blk_alloc ?_ _)); refine blk_far ?_ NB254_265.out _; (with_reducible repeat (first | refine blk_drewN ?_ _ | refine blk_drew ?_ | refine blk_alloc ?_ _)); refine blk_far ?_ NB254_265.out _; (with_reducible repeat (first | refine blk_drewN ?_ _ | refine blk_drew ?_ | refine blk_alloc ?_ _)); exact BK254.out) hb); have n6_ := Aside0.mk (blk_below (g := gb259) (o := .cells #[.int .i64 t255, .slice Ao30 t256.length co30] 45 (0, 0)) (by (with_reducible repeat (first | refine blk_drewN ?_ _ | refine blk_drew ?_ | refine blk_alloc ?_ _)); refine blk_far ?_ NB259_265.out _; (with_reducible repeat (first | refine blk_drewN ?_ _ | refine blk_drew ?_ | refine blk_alloc ?_ _)); refine blk_far ?_ NB259_265.out _; (with_reducible repeat (first | refine blk_drewN ?_ _ | refine blk_drew ?_ | refine blk_alloc ?_ _)); exact BK259.out) hb); have n7_ := Aside0.mk (blk_below (g := gb265) (o := .cells #[.int .i64 t260, .slice Ao37 t261.length co37] 25 (0, 0)) (by (with_reducible repeat (first | refine blk_drewN ?_ _ | refine blk_drew ?_ | refine blk_alloc ?_ _)); refine blk_put (cs := #[.int .i64 t260, .slice none 0 0]) ?_ 1 _ rfl; (with_reducible repeat (first | refine blk_drewN ?_ _ | refine blk_drew ?_ | refine blk_alloc ?_ _)); refine blk_put (cs := #[.int .i64 0, .slice none 0 0]) ?_ 0 _ rfl; (with_reducible repeat (first | refine blk_drewN ?_ _ | refine blk_drew ?_ | refine blk_alloc ?_ _)); exact BK265.out) hb); have n8_ := Aside0.mk (below_step (by repeat (first | (with_reducible first | exact HB.out | apply bwA | apply bwN | apply bwD | refine below_set ?_ GE243.out | refine below_set ?_ GE254.out | refine below_set ?_ GE259.out | refine below_set ?_ GE265.out) | exact HB.out)) hb); clear HO248; clear HO252; clear HO258; clear HO263; clear BK243; clear BK254; clear BK259; clear BK265; clear HB; have HO248 := n0_; have HO252 := n1_; have HO258 := n2_; have HO263 := n3_; have BK243 := n4_; have BK254 := n5_; have BK259 := n6_; have BK265 := n7_; have HB := n8_; clear n0_ n1_ n2_ n3_ n4_ n5_ n6_ n7_ n8_; (try clear hb); (try clear hb2); (try clear hk); (try clear hi)))
    go_meet
    case rel => exact ⟨_, ((t264 != t253)), (by first | rfl | (simp; done) | (simp [*]; done)), H', ⟨by first | omega | exact Nat.le_refl _⟩, ⟨by (with_reducible repeat (first | apply Kd.R_alloc | apply Kd.R_drewN | apply Kd.R_drew)); exact Kd.R_mono HO252.out (fun _ hk => by first | exact hk.2 | exact trivial | exact hk)⟩, ⟨by (with_reducible repeat (first | apply Kd.R_alloc | apply Kd.R_drewN | apply Kd.R_drew)); exact Kd.R_mono HO258.out (fun _ hk => trivial)⟩, ⟨by (with_reducible repeat (first | apply Kd.R_alloc | apply Kd.R_drewN | apply Kd.R_drew)); exact Kd.R_mono HO263.out (fun _ hk => by first | exact hk.2 | exact trivial | exact hk)⟩, ⟨by (with_reducible repeat (first | refine blk_drewN ?_ _ | refine blk_drew ?_ | refine blk_alloc ?_ _)); exact BK243.out⟩, ⟨by (with_reducible repeat (first | refine blk_drewN ?_ _ | refine blk_drew ?_ | refine blk_alloc ?_ _)); exact BK254.out⟩, ⟨by (with_reducible repeat (first | refine blk_drewN ?_ _ | refine blk_drew ?_ | refine blk_alloc ?_ _)); exact BK259.out⟩, ⟨by (with_reducible repeat (first | refine blk_drewN ?_ _ | refine blk_drew ?_ | refine blk_alloc ?_ _)); exact BK265.out⟩, ⟨by repeat (first | (with_reducible first | exact HB.out | apply bwA | apply bwN | apply bwD | refine below_set ?_ GE243.out | refine below_set ?_ GE254.out | refine below_set ?_ GE259.out | refine below_set ?_ GE265.out) | exact HB.out)⟩⟩
   ·replace c39 := Bool.eq_false_iff.mpr c39
    subst c39
    have H1 : (laws_FnExactDiagramOf.j0 k a1 t253 t264 true a0_0 l0_1 t249 t250 t255 t256 t260 t261) = some r := by rw [if_neg (show ¬ (false = true) by decide)] at H; exact H
    clear H
    have H := H1
    clear H1
    have H' := Aside0.mk H
    clear H
    have hnb48 := NB265_243.out
    have hnc48 := NB243_265.out
    have hnb49 := NB265_254.out
    have hnc49 := NB254_265.out
    have hnb50 := NB265_259.out
    have hnc50 := NB259_265.out
    have hcz51_0 : w32.cell? ⟨gb265, 0, none⟩ = some (.int .i64 0) := (blk_cell BK265.out 0).trans rfl
    have hcz51_1 : w32.cell? ⟨gb265, 1, none⟩ = some (.slice none 0 0) := (blk_cell BK265.out 1).trans rfl
    have hfz51_0 := blk_frozen BK265.out 0
    have hfz51_1 := blk_frozen BK265.out 1
    have hnb52 := NB254_243.out
    have hnc52 := NB243_254.out
    have hnb53 := NB254_259.out
    have hnc53 := NB259_254.out
    have hcz54_0 : w32.cell? ⟨gb254, 0, none⟩ = some (.int .i64 t249) := (blk_cell BK254.out 0).trans rfl
    have hcz54_1 : w32.cell? ⟨gb254, 1, none⟩ = some (.slice Ao23 t250.length co23) := (blk_cell BK254.out 1).trans rfl
    have hfz54_0 := blk_frozen BK254.out 0
    have hfz54_1 := blk_frozen BK254.out 1
    go_wp2_with (first | ((with_reducible refine gate_callee (f := 21) rfl ?_); refine goesL_ (some 38) rfl rfl Try.func21 (by kernel_rfl) rfl #[.agg #[.int .i64 t260, .slice Ao37 t261.length co37], .agg #[.int .i64 t249, .slice Ao23 t250.length co23]] rfl (by (try simp only [List.map_toArray, List.map_cons, List.map_nil]); first | done | rfl | (simp only [List.length_drop, List.length_take]; rfl)) ?_; (with_reducible refine (laws_eqDiagram.calls k t260 _ _ t261 t249 _ _ t250 false _ ?side1 ?side2 ?side3 ?side4 A38.out).mono ?_); (case side1 => refine (Kd.R_reads' (e := 71) (base := w.heap.size) (ok := fun k_ => (True ∧ some k_ ≠ (.slice Ao23 t250.length co23 : Value).ownBlock)) (n := t261.length) (c := co37) ?_).2.2; exact (by (with_reducible repeat (first | apply Kd.R_alloc | apply Kd.R_drewN | apply Kd.R_drew)); exact (Kd.R_mono (Kd.R_far (p := ⟨gb265, 1, none⟩) (Kd.R_far (p := ⟨gb265, 0, none⟩) (Kd.R_types HO263.out BK265.out (by decide)) (fun _ hk => hk.2) (.int .i64 t260)) (fun _ hk => hk.2) (.slice Ao37 t261.length co37)) (fun _ h_ => h_.1)))); (case side2 => exact (Kd.R_reads' HO263.out).2.1); (case side3 => refine (Kd.R_reads' (e := 71) (base := w.heap.size) (ok := fun k_ => (True ∧ some k_ ≠ (.slice Ao37 t261.length co37 : Value).ownBlock)) (n := t250.length) (c := co23) ?_).2.2; exact (by (with_reducible repeat (first | apply Kd.R_alloc | apply Kd.R_drewN | apply Kd.R_drew)); exact (Kd.R_mono (Kd.R_far (p := ⟨gb265, 1, none⟩) (Kd.R_far (p := ⟨gb265, 0, none⟩) (Kd.R_types HO252.out BK265.out (by decide)) (fun _ hk => hk.2) (.int .i64 t260)) (fun _ hk => hk.2) (.slice Ao37 t261.length co37)) (fun _ h_ => h_.1)))); (case side4 => exact (Kd.R_reads' HO252.out).2.1); rintro e w55 ⟨rfl, hb⟩; refine ⟨_, rfl, ?_⟩; have n0_ := Aside0.mk (Kd.R_below (by (with_reducible repeat (first | apply Kd.R_alloc | apply Kd.R_drewN | apply Kd.R_drew)); exact (Kd.R_mono (Kd.R_far (p := ⟨gb265, 1, none⟩) (Kd.R_far (p := ⟨gb265, 0, none⟩) (Kd.R_types HO248.out BK265.out (by decide)) (fun _ hk => hk.2) (.int .i64 t260)) (fun _ hk => hk.2) (.slice Ao37 t261.length co37)) (fun _ h_ => h_.1))) hb); have n1_ := Aside0.mk (Kd.R_below (by (with_reducible repeat (first | apply Kd.R_alloc | apply Kd.R_drewN | apply Kd.R_drew)); exact (Kd.R_mono (Kd.R_far (p := ⟨gb265, 1, none⟩) (Kd.R_far (p := ⟨gb265, 0, none⟩) (Kd.R_types HO252.out BK265.out (by decide)) (fun _ hk => hk.2) (.int .i64 t260)) (fun _ hk => hk.2) (.slice Ao37 t261.length co37)) (fun _ h_ => h_.1))) hb); have n2_ := Aside0.mk (Kd.R_below (by (with_reducible repeat (first | apply Kd.R_alloc | apply Kd.R_drewN | apply Kd.R_drew)); exact (Kd.R_mono (Kd.R_far (p := ⟨gb265, 1, none⟩) (Kd.R_far (p := ⟨gb265, 0, none⟩) (Kd.R_types HO258.out BK265.out (by decide)) (fun _ hk => hk.2) (.int .i64 t260)) (fun _ hk => hk.2) (.slice Ao37 t261.length co37)) (fun _ h_ => h_.1))) hb); have n3_ := Aside0.mk (Kd.R_below (by (with_reducible repeat (first | apply Kd.R_alloc | apply Kd.R_drewN | apply Kd.R_drew)); exact (Kd.R_mono (Kd.R_far (p := ⟨gb265, 1, none⟩) (Kd.R_far (p := ⟨gb265, 0, none⟩) (Kd.R_types HO263.out BK265.out (by decide)) (fun _ hk => hk.2) (.int .i64 t260)) (fun _ hk => hk.2) (.slice Ao37 t261.length co37)) (fun _ h_ => h_.1))) hb); have n4_ := Aside0.mk (blk_below (g := gb243) (o := .cells #[.int .i64 a0_0, .slice A0_1 l0_1.length c0_1] 58 (0, 0)) (by (with_reducible repeat (first | refine blk_drewN ?_ _ | refine blk_drew ?_ | refine blk_alloc ?_ _)); refine blk_far ?_ NB243_265.out _; (with_reducible repeat (first | refine blk_drewN ?_ _ | refine blk_drew ?_ | refine blk_alloc ?_ _)); refine blk_far ?_ NB243_265.out _; (with_reducible repeat (first | refine blk_drewN ?_ _ | refine blk_drew ?_ | refine blk_alloc ?_ _)); exact BK243.out) hb); have n5_ := Aside0.mk (blk_below (g := gb254) (o := .cells #[.int .i64 t249, .slice Ao23 t250.length co23] 25 (0, 0)) (by (with_reducible repeat (first | refine blk_drewN ?_ _ | refine blk_drew ?_ | refine blk_alloc ?_ _)); refine blk_far ?_ NB254_265.out _; (with_reducible repeat (first | refine blk_drewN ?_ _ | refine blk_drew ?_ | refine blk_alloc ?_ _)); refine blk_far ?_ NB254_265.out _; (with_reducible repeat (first | refine blk_drewN ?_ _ | refine blk_drew ?_ | refine blk_alloc ?_ _)); exact BK254.out) hb); have n6_ := Aside0.mk (blk_below (g := gb259) (o := .cells #[.int .i64 t255, .slice Ao30 t256.length co30] 45 (0, 0)) (by (with_reducible repeat (first | refine blk_drewN ?_ _ | refine blk_drew ?_ | refine blk_alloc ?_ _)); refine blk_far ?_ NB259_265.out _; (with_reducible repeat (first | refine blk_drewN ?_ _ | refine blk_drew ?_ | refine blk_alloc ?_ _)); refine blk_far ?_ NB259_265.out _; (with_reducible repeat (first | refine blk_drewN ?_ _ | refine blk_drew ?_ | refine blk_alloc ?_ _)); exact BK259.out) hb); have n7_ := Aside0.mk (blk_below (g := gb265) (o := .cells #[.int .i64 t260, .slice Ao37 t261.length co37] 25 (0, 0)) (by (with_reducible repeat (first | refine blk_drewN ?_ _ | refine blk_drew ?_ | refine blk_alloc ?_ _)); refine blk_put (cs := #[.int .i64 t260, .slice none 0 0]) ?_ 1 _ rfl; (with_reducible repeat (first | refine blk_drewN ?_ _ | refine blk_drew ?_ | refine blk_alloc ?_ _)); refine blk_put (cs := #[.int .i64 0, .slice none 0 0]) ?_ 0 _ rfl; (with_reducible repeat (first | refine blk_drewN ?_ _ | refine blk_drew ?_ | refine blk_alloc ?_ _)); exact BK265.out) hb); have n8_ := Aside0.mk (below_step (by repeat (first | (with_reducible first | exact HB.out | apply bwA | apply bwN | apply bwD | refine below_set ?_ GE243.out | refine below_set ?_ GE254.out | refine below_set ?_ GE259.out | refine below_set ?_ GE265.out) | exact HB.out)) hb); clear HO248; clear HO252; clear HO258; clear HO263; clear BK243; clear BK254; clear BK259; clear BK265; clear HB; have HO248 := n0_; have HO252 := n1_; have HO258 := n2_; have HO263 := n3_; have BK243 := n4_; have BK254 := n5_; have BK259 := n6_; have BK265 := n7_; have HB := n8_; clear n0_ n1_ n2_ n3_ n4_ n5_ n6_ n7_ n8_; (try clear hb); (try clear hb2); (try clear hk); (try clear hi)))
    go_meet
    case rel => exact ⟨_, (true), (by first | rfl | (simp; done) | (simp [*]; done)), H', ⟨by first | omega | exact Nat.le_refl _⟩, ⟨by (with_reducible repeat (first | apply Kd.R_alloc | apply Kd.R_drewN | apply Kd.R_drew)); exact Kd.R_mono HO252.out (fun _ hk => by first | exact hk.2 | exact trivial | exact hk)⟩, ⟨by (with_reducible repeat (first | apply Kd.R_alloc | apply Kd.R_drewN | apply Kd.R_drew)); exact Kd.R_mono HO258.out (fun _ hk => trivial)⟩, ⟨by (with_reducible repeat (first | apply Kd.R_alloc | apply Kd.R_drewN | apply Kd.R_drew)); exact Kd.R_mono HO263.out (fun _ hk => by first | exact hk.2 | exact trivial | exact hk)⟩, ⟨by (with_reducible repeat (first | refine blk_drewN ?_ _ | refine blk_drew ?_ | refine blk_alloc ?_ _)); exact BK243.out⟩, ⟨by (with_reducible repeat (first | refine blk_drewN ?_ _ | refine blk_drew ?_ | refine blk_alloc ?_ _)); exact BK254.out⟩, ⟨by (with_reducible repeat (first | refine blk_drewN ?_ _ | refine blk_drew ?_ | refine blk_alloc ?_ _)); exact BK259.out⟩, ⟨by (with_reducible repeat (first | refine blk_drewN ?_ _ | refine blk_drew ?_ | refine blk_alloc ?_ _)); exact BK265.out⟩, ⟨by repeat (first | (with_reducible first | exact HB.out | apply bwA | apply bwN | apply bwD | refine below_set ?_ GE243.out | refine below_set ?_ GE254.out | refine below_set ?_ GE259.out | refine below_set ?_ GE265.out) | exact HB.out)⟩⟩
  case rest =>
   clear HC12
   try clear c1
   try clear c2
   try clear p2
   try clear c3
   try clear c4
   try clear c4b0
   try clear c5
   try clear c11
   try clear c21
   try clear c27
   try clear c28
   try clear c31
   try clear c32
   try clear c33
   try clear c34
   try clear c35
   try clear c38
   try clear c39
   try clear c40
   try clear c41
   try clear c42
   try clear c44
   try clear c45
   try clear c48
   try clear c49
   try clear c50
   try clear c52
   try clear c53
   try clear hcz14_0
   try clear hcz14_1
   try clear hcz16_0
   try clear hcz16_1
   try clear hcz22_0
   try clear hcz22_1
   try clear hcz24_0
   try clear hcz24_1
   try clear hcz29_0
   try clear hcz29_1
   try clear hcz36_0
   try clear hcz36_1
   try clear hcz43_0
   try clear hcz43_1
   try clear hcz46_0
   try clear hcz46_1
   try clear hcz51_0
   try clear hcz51_1
   try clear hcz54_0
   try clear hcz54_1
   try clear hcz6_0
   try clear hcz6_1
   try clear hfz14_0
   try clear hfz14_1
   try clear hfz16_0
   try clear hfz16_1
   try clear hfz22_0
   try clear hfz22_1
   try clear hfz24_0
   try clear hfz24_1
   try clear hfz29_0
   try clear hfz29_1
   try clear hfz36_0
   try clear hfz36_1
   try clear hfz43_0
   try clear hfz43_1
   try clear hfz46_0
   try clear hfz46_1
   try clear hfz51_0
   try clear hfz51_1
   try clear hfz54_0
   try clear hfz54_1
   try clear hfz6_0
   try clear hfz6_1
   obtain ⟨kq, x44_11, rfl, HA, HJ11, HO_255001, HO_260001, HO_266001, BK243, BK254, BK259, BK265, HB⟩ := hcut
   cases kq with
   | zero => exact absurd HA.out (by simp [laws_FnExactDiagramOf.j0])
   | succ kj11 =>
    have H := HA.out
    clear HA
    simp only [laws_FnExactDiagramOf.j0] at H
    by_cases c56 : x44_11 = true
    ·subst c56
     have H1 : (some false) = some r := by rw [if_pos rfl] at H; exact H
     clear H
     have H := H1
     clear H1
     obtain rfl := Option.some.inj H
     go_wp2
     go_ret
     exact ⟨by first | rfl | (simp [errW_none, errW_some] <;> rfl) | (simp [*, errW_none, errW_some] <;> rfl), by repeat (first | (with_reducible first | exact HB.out | apply bwA | apply bwN | apply bwD | refine below_set ?_ GE243.out | refine below_set ?_ GE254.out | refine below_set ?_ GE259.out | refine below_set ?_ GE265.out) | exact HB.out)⟩
    ·replace c56 := Bool.eq_false_iff.mpr c56
     subst c56
     have H1 : ((laws_toCircuit.f kj11 a0_0 l0_1).bind fun bt267 => ((laws_eqCircuit.f kj11 t255 t256 bt267.1 bt267.2).bind fun t271 => (if t271 = true then ((laws_markCircuit.f kj11 t255 t256 1).bind fun bt272 => (if bt272.1 < 0 then (laws_FnExactDiagramOf.j1 kj11 a1 t253 true a0_0 l0_1 t249 t250 t260 t261) else ((laws_eqDiagram.f kj11 t260 t261 t249 t250).bind fun t274 => (if t274 = true then (laws_FnExactDiagramOf.j1 kj11 a1 t253 (t264 != t253) a0_0 l0_1 t249 t250 t260 t261) else (laws_FnExactDiagramOf.j1 kj11 a1 t253 true a0_0 l0_1 t249 t250 t260 t261))))) else (some false)))) = some r := by rw [if_neg (show ¬ (false = true) by decide)] at H; exact H
     clear H
     have H := H1
     clear H1
     replace H := Option.bind_eq_some_iff.mp H
     obtain ⟨⟨t267, t268⟩, A570, H⟩ := H
     replace H : ((laws_eqCircuit.f kj11 t255 t256 t267 t268).bind fun t271 => (if t271 = true then ((laws_markCircuit.f kj11 t255 t256 1).bind fun bt272 => (if bt272.1 < 0 then (laws_FnExactDiagramOf.j1 kj11 a1 t253 true a0_0 l0_1 t249 t250 t260 t261) else ((laws_eqDiagram.f kj11 t260 t261 t249 t250).bind fun t274 => (if t274 = true then (laws_FnExactDiagramOf.j1 kj11 a1 t253 (t264 != t253) a0_0 l0_1 t249 t250 t260 t261) else (laws_FnExactDiagramOf.j1 kj11 a1 t253 true a0_0 l0_1 t249 t250 t260 t261))))) else (some false))) = some r := H
     have A57 := Aside0.mk A570
     clear A570
     replace H := Option.bind_eq_some_iff.mp H
     obtain ⟨t271, A580, H⟩ := H
     replace H : (if t271 = true then ((laws_markCircuit.f kj11 t255 t256 1).bind fun bt272 => (if bt272.1 < 0 then (laws_FnExactDiagramOf.j1 kj11 a1 t253 true a0_0 l0_1 t249 t250 t260 t261) else ((laws_eqDiagram.f kj11 t260 t261 t249 t250).bind fun t274 => (if t274 = true then (laws_FnExactDiagramOf.j1 kj11 a1 t253 (t264 != t253) a0_0 l0_1 t249 t250 t260 t261) else (laws_FnExactDiagramOf.j1 kj11 a1 t253 true a0_0 l0_1 t249 t250 t260 t261))))) else (some false)) = some r := H
     have A58 := Aside0.mk A580
     clear A580
     by_cases c59 : t271 = true
     ·subst c59
      have H1 : ((laws_markCircuit.f kj11 t255 t256 1).bind fun bt272 => (if bt272.1 < 0 then (laws_FnExactDiagramOf.j1 kj11 a1 t253 true a0_0 l0_1 t249 t250 t260 t261) else ((laws_eqDiagram.f kj11 t260 t261 t249 t250).bind fun t274 => (if t274 = true then (laws_FnExactDiagramOf.j1 kj11 a1 t253 (t264 != t253) a0_0 l0_1 t249 t250 t260 t261) else (laws_FnExactDiagramOf.j1 kj11 a1 t253 true a0_0 l0_1 t249 t250 t260 t261))))) = some r := by rw [if_pos rfl] at H; exact H
      clear H
      have H := H1
      clear H1
      replace H := Option.bind_eq_some_iff.mp H
      obtain ⟨⟨t272, t273⟩, A600, H⟩ := H
      replace H : (if t272 < 0 then (laws_FnExactDiagramOf.j1 kj11 a1 t253 true a0_0 l0_1 t249 t250 t260 t261) else ((laws_eqDiagram.f kj11 t260 t261 t249 t250).bind fun t274 => (if t274 = true then (laws_FnExactDiagramOf.j1 kj11 a1 t253 (t264 != t253) a0_0 l0_1 t249 t250 t260 t261) else (laws_FnExactDiagramOf.j1 kj11 a1 t253 true a0_0 l0_1 t249 t250 t260 t261)))) = some r := H
      have A60 := Aside0.mk A600
      clear A600
      have HC61 := Aside0.mk H
      clear H
      try go_wp2
      have n0_ := Aside0.mk (Kd.R_drew HO_255001.out)
      have n1_ := Aside0.mk (Kd.R_drew HO_260001.out)
      have n2_ := Aside0.mk (Kd.R_drew HO_266001.out)
      have n3_ := Aside0.mk (blk_drew BK243.out)
      have n4_ := Aside0.mk (blk_drew BK254.out)
      have n5_ := Aside0.mk (blk_drew BK259.out)
      have n6_ := Aside0.mk (blk_drew BK265.out)
      have n7_ := Aside0.mk (below_drew1 HB.out)
      clear HO_255001
      clear HO_260001
      clear HO_266001
      clear BK243
      clear BK254
      clear BK259
      clear BK265
      clear HB
      have HO_255001 := n0_
      have HO_260001 := n1_
      have HO_266001 := n2_
      have BK243 := n3_
      have BK254 := n4_
      have BK259 := n5_
      have BK265 := n6_
      have HB := n7_
      clear n0_ n1_ n2_ n3_ n4_ n5_ n6_ n7_
      refine start_ (n := 5) (S := fun w' => w'.cell? ⟨gb259, 0, none⟩ = some (.int .i64 t255) ∧ w'.cell? ⟨gb259, 1, none⟩ = some (.slice Ao30 t256.length co30) ∧ w'.cell? ⟨gb243, 0, none⟩ = some (.int .i64 a0_0) ∧ w'.cell? ⟨gb243, 1, none⟩ = some (.slice A0_1 l0_1.length c0_1)) (ds := []) #[false, false, false, false, false] (by kernel_rfl) rfl rfl ⟨(blk_cell BK259.out 0).trans rfl, (blk_cell BK259.out 1).trans rfl, (blk_cell BK243.out 0).trans rfl, (blk_cell BK243.out 1).trans rfl⟩ (fun hHeld => ?_)
      generalize wc.drew = w62 at HO_255001 HO_260001 HO_266001 BK243 BK254 BK259 BK265 HB hHeld ⊢
      refine take_ (i := 0) (N := some 45) (v := ?_) (a' := ?_) #[true, false, false, false, false] rfl rfl (by kernel_rfl) (fun _ _ _ h => h) (Or.inl ⟨by rfl, ?_⟩) hHeld ?_ ?_
      rotate_left
      ·rintro w' ⟨s0, s1, s2, s3⟩
       go_simp
       with_reducible rfl
      rotate_left
      ·simp only [Act.put, List.setIfInBounds_toArray, List.set_cons_zero, List.set_cons_succ, i64_w, i32_w]
       rfl
      refine take_ (i := 1) (N := some 46) (v := ?_) (a' := ?_) #[true, true, false, false, false] rfl rfl (by kernel_rfl) (fun _ _ _ h => h) (Or.inl ⟨by rfl, ?_⟩) hHeld ?_ ?_
      rotate_left
      ·rintro w' ⟨s0, s1, s2, s3⟩
       go_simp
       with_reducible rfl
      rotate_left
      ·simp only [Act.put, List.setIfInBounds_toArray, List.set_cons_zero, List.set_cons_succ, i64_w, i32_w]
       rfl
      refine one_ (i := 2) (N := some 47) #[true, true, true, false, false] rfl rfl (by kernel_rfl) (by decide) (fun K hK => ?_)
      refine goes_ Try.func39 (by kernel_rfl) rfl #[.agg #[.int .i64 a0_0, .slice A0_1 l0_1.length c0_1]] (by rfl) rfl rfl (by (try simp only [List.map_toArray, List.map_cons, List.map_nil]); first | done | rfl | (simp only [List.length_drop, List.length_take]; rfl)) ?_
      with_reducible refine (laws_toCircuit.calls kj11 a0_0 _ _ l0_1 t267 t268 _ ?side1 ?side2 A57.out).mono ?_
      (case side1 => repeat (first | exact (Kd.C_below HR0_1.out HB.out) | (with_reducible refine Kd.C_alloc ?_ _) | (with_reducible refine Kd.C_drewN ?_ _) | (with_reducible refine Kd.C_drew ?_)))
      (case side2 => exact HC0_1.out)
      rintro e w63 ⟨v269, rfl, ho0, hb⟩
      refine ⟨_, rfl, ?_⟩
      have n0_ := Aside0.mk (Kd.R_below (by (with_reducible repeat (first | apply Kd.R_alloc | apply Kd.R_drewN | apply Kd.R_drew)); exact HO_255001.out) hb)
      have n1_ := Aside0.mk (Kd.R_elder' (by (with_reducible repeat (first | apply Kd.R_alloc | apply Kd.R_drewN | apply Kd.R_drew)); exact HO_260001.out) (Kd.R_base ho0) hb)
      have n2_ := Aside0.mk (Kd.R_below (by (with_reducible repeat (first | apply Kd.R_alloc | apply Kd.R_drewN | apply Kd.R_drew)); exact HO_266001.out) hb)
      have n3_ := Aside0.mk (Kd.R_lower (Kd.R_new' ho0 (Kd.R_lt (by (with_reducible repeat (first | apply Kd.R_alloc | apply Kd.R_drewN | apply Kd.R_drew)); exact HO_260001.out))) (below_size (by repeat (first | (with_reducible first | exact HB.out | apply bwA | apply bwN | apply bwD | refine below_set ?_ GE243.out | refine below_set ?_ GE254.out | refine below_set ?_ GE259.out | refine below_set ?_ GE265.out) | exact HB.out))))
      have n4_ := Aside0.mk (blk_below (g := gb243) (o := .cells #[.int .i64 a0_0, .slice A0_1 l0_1.length c0_1] 58 (0, 0)) (by (with_reducible repeat (first | refine blk_drewN ?_ _ | refine blk_drew ?_ | refine blk_alloc ?_ _)); exact BK243.out) hb)
      have n5_ := Aside0.mk (blk_below (g := gb254) (o := .cells #[.int .i64 t249, .slice Ao23 t250.length co23] 25 (0, 0)) (by (with_reducible repeat (first | refine blk_drewN ?_ _ | refine blk_drew ?_ | refine blk_alloc ?_ _)); exact BK254.out) hb)
      have n6_ := Aside0.mk (blk_below (g := gb259) (o := .cells #[.int .i64 t255, .slice Ao30 t256.length co30] 45 (0, 0)) (by (with_reducible repeat (first | refine blk_drewN ?_ _ | refine blk_drew ?_ | refine blk_alloc ?_ _)); exact BK259.out) hb)
      have n7_ := Aside0.mk (blk_below (g := gb265) (o := .cells #[.int .i64 t260, .slice Ao37 t261.length co37] 25 (0, 0)) (by (with_reducible repeat (first | refine blk_drewN ?_ _ | refine blk_drew ?_ | refine blk_alloc ?_ _)); exact BK265.out) hb)
      have n8_ := Aside0.mk (below_step (by repeat (first | (with_reducible first | exact HB.out | apply bwA | apply bwN | apply bwD | refine below_set ?_ GE243.out | refine below_set ?_ GE254.out | refine below_set ?_ GE259.out | refine below_set ?_ GE265.out) | exact HB.out)) hb)
      clear HO_255001
      clear HO_260001
      clear HO_266001
      clear BK243
      clear BK254
      clear BK259
      clear BK265
      clear HB
      have HO_255001 := n0_
      have HO_260001 := n1_
      have HO_266001 := n2_
      have HO270 := n3_
      have BK243 := n4_
      have BK254 := n5_
      have BK259 := n6_
      have BK265 := n7_
      have HB := n8_
      clear n0_ n1_ n2_ n3_ n4_ n5_ n6_ n7_ n8_
      (try clear hb)
      (try clear hb2)
      (try clear hk)
      (try clear hi)
      (try clear ho0)
      obtain ⟨Ao64, co64, eo64⟩ := Kd.R_slice HO270.out
      (first | subst eo64 | (injection eo64 with f1_ f2_ f3_; have f4_ := f1_.symm; have f5_ := f3_.symm; clear f1_ f2_ f3_; subst f4_; subst f5_))
      refine hK.out _ _ ⟨(blk_cell BK259.out 0).trans rfl, (blk_cell BK259.out 1).trans rfl, (blk_cell BK243.out 0).trans rfl, (blk_cell BK243.out 1).trans rfl⟩ (fun hHeld => ?_)
      clear hK K
      refine norm_ (a' := ?_) ?_ ?_
      rotate_left
      ·show Act.put _ (some 47) _ = _
       simp only [Act.put, List.setIfInBounds_toArray, List.set_cons_zero, List.set_cons_succ, i64_w, i32_w]
       rfl
      refine one_ (i := 3) (N := some 48) #[true, true, true, true, false] rfl rfl (by kernel_rfl) (by decide) (fun K hK => ?_)
      refine goes_ Try.func40 (by kernel_rfl) rfl #[.agg #[.int .i64 t255, .slice Ao30 t256.length co30], .agg #[.int .i64 t267, .slice Ao64 t268.length co64]] (by rfl) rfl rfl (by (try simp only [List.map_toArray, List.map_cons, List.map_nil]); first | done | rfl | (simp only [List.length_drop, List.length_take]; rfl)) ?_
      with_reducible refine (laws_eqCircuit.calls kj11 t255 _ _ t256 t267 _ _ t268 true _ ?side1 ?side2 ?side3 ?side4 A58.out).mono ?_
      (case side1 => repeat (first | exact (Kd.R_reads' HO_260001.out).2.2 | (with_reducible refine Kd.C_alloc ?_ _) | (with_reducible refine Kd.C_drewN ?_ _) | (with_reducible refine Kd.C_drew ?_)))
      (case side2 => exact (Kd.R_reads' HO_260001.out).2.1)
      (case side3 => repeat (first | exact (Kd.R_reads' HO270.out).2.2 | (with_reducible refine Kd.C_alloc ?_ _) | (with_reducible refine Kd.C_drewN ?_ _) | (with_reducible refine Kd.C_drew ?_)))
      (case side4 => exact (Kd.R_reads' HO270.out).2.1)
      rintro e w65 ⟨rfl, hb⟩
      refine ⟨_, rfl, ?_⟩
      have n0_ := Aside0.mk (Kd.R_below (by (with_reducible repeat (first | apply Kd.R_alloc | apply Kd.R_drewN | apply Kd.R_drew)); exact HO_255001.out) hb)
      have n1_ := Aside0.mk (Kd.R_below (by (with_reducible repeat (first | apply Kd.R_alloc | apply Kd.R_drewN | apply Kd.R_drew)); exact HO_260001.out) hb)
      have n2_ := Aside0.mk (Kd.R_below (by (with_reducible repeat (first | apply Kd.R_alloc | apply Kd.R_drewN | apply Kd.R_drew)); exact HO_266001.out) hb)
      have n3_ := Aside0.mk (Kd.R_below (by (with_reducible repeat (first | apply Kd.R_alloc | apply Kd.R_drewN | apply Kd.R_drew)); exact HO270.out) hb)
      have n4_ := Aside0.mk (blk_below (g := gb243) (o := .cells #[.int .i64 a0_0, .slice A0_1 l0_1.length c0_1] 58 (0, 0)) (by (with_reducible repeat (first | refine blk_drewN ?_ _ | refine blk_drew ?_ | refine blk_alloc ?_ _)); exact BK243.out) hb)
      have n5_ := Aside0.mk (blk_below (g := gb254) (o := .cells #[.int .i64 t249, .slice Ao23 t250.length co23] 25 (0, 0)) (by (with_reducible repeat (first | refine blk_drewN ?_ _ | refine blk_drew ?_ | refine blk_alloc ?_ _)); exact BK254.out) hb)
      have n6_ := Aside0.mk (blk_below (g := gb259) (o := .cells #[.int .i64 t255, .slice Ao30 t256.length co30] 45 (0, 0)) (by (with_reducible repeat (first | refine blk_drewN ?_ _ | refine blk_drew ?_ | refine blk_alloc ?_ _)); exact BK259.out) hb)
      have n7_ := Aside0.mk (blk_below (g := gb265) (o := .cells #[.int .i64 t260, .slice Ao37 t261.length co37] 25 (0, 0)) (by (with_reducible repeat (first | refine blk_drewN ?_ _ | refine blk_drew ?_ | refine blk_alloc ?_ _)); exact BK265.out) hb)
      have n8_ := Aside0.mk (below_step (by repeat (first | (with_reducible first | exact HB.out | apply bwA | apply bwN | apply bwD | refine below_set ?_ GE243.out | refine below_set ?_ GE254.out | refine below_set ?_ GE259.out | refine below_set ?_ GE265.out) | exact HB.out)) hb)
      clear HO_255001
      clear HO_260001
      clear HO_266001
      clear HO270
      clear BK243
      clear BK254
      clear BK259
      clear BK265
      clear HB
      have HO_255001 := n0_
      have HO_260001 := n1_
      have HO_266001 := n2_
      have HO270 := n3_
      have BK243 := n4_
      have BK254 := n5_
      have BK259 := n6_
      have BK265 := n7_
      have HB := n8_
      clear n0_ n1_ n2_ n3_ n4_ n5_ n6_ n7_ n8_
      (try clear hb)
      (try clear hb2)
      (try clear hk)
      (try clear hi)
      refine hK.out _ _ ⟨(blk_cell BK259.out 0).trans rfl, (blk_cell BK259.out 1).trans rfl, (blk_cell BK243.out 0).trans rfl, (blk_cell BK243.out 1).trans rfl⟩ (fun hHeld => ?_)
      clear hK K
      refine norm_ (a' := ?_) ?_ ?_
      rotate_left
      ·show Act.put _ (some 48) _ = _
       simp only [Act.put, List.setIfInBounds_toArray, List.set_cons_zero, List.set_cons_succ, i64_w, i32_w]
       rfl
      refine pure_ (i := 4) (N := some 49) (v := ?_) (a' := ?_) #[true, true, true, true, true] rfl rfl (by kernel_rfl) (fun _ _ _ h => h) (Or.inl ⟨by rfl, ?_⟩) ?_ ?_
      rotate_left
      ·intro w'
       go_simp
       with_reducible rfl
      rotate_left
      ·simp only [Act.put, List.setIfInBounds_toArray, List.set_cons_zero, List.set_cons_succ, i64_w, i32_w]
       rfl
      refine done_ (by kernel_rfl) ?_
      have hnb66 := NB259_243.out
      have hnc66 := NB243_259.out
      have hnb67 := NB259_254.out
      have hnc67 := NB254_259.out
      have hnb68 := NB259_265.out
      have hnc68 := NB265_259.out
      have hcz69_0 : w65.cell? ⟨gb259, 0, none⟩ = some (.int .i64 t255) := (blk_cell BK259.out 0).trans rfl
      have hcz69_1 : w65.cell? ⟨gb259, 1, none⟩ = some (.slice Ao30 t256.length co30) := (blk_cell BK259.out 1).trans rfl
      have hfz69_0 := blk_frozen BK259.out 0
      have hfz69_1 := blk_frozen BK259.out 1
      go_upto_region 14 with (first | ((with_reducible refine gate_callee (f := 41) rfl ?_); refine goesL_ (some 52) rfl rfl Try.func41 (by kernel_rfl) rfl #[.agg #[.int .i64 t255, .slice Ao30 t256.length co30], .int .i64 1] rfl (by (try simp only [List.map_toArray, List.map_cons, List.map_nil]); first | done | rfl | (simp only [List.length_drop, List.length_take]; rfl)) ?_; (with_reducible refine (laws_markCircuit.calls kj11 t255 (fun k_ => some k_ = (.slice Ao30 t256.length co30 : Value).ownBlock) (.slice Ao30 t256.length co30) t256 1 t272 t273 w _ ?side1 ?side2 A60.out).mono ?_); (case side1 => repeat (first | (with_reducible first | exact HB.out | apply bwA | apply bwN | apply bwD | refine below_set ?_ GE243.out | refine below_set ?_ GE254.out | refine below_set ?_ GE259.out | refine below_set ?_ GE265.out) | exact HB.out)); (case side2 => exact Kd.R_tight rfl HO_260001.out); rintro e w70 ⟨rfl, hy0, hb, hkp⟩; refine ⟨_, rfl, ?_⟩; have n0_ := Aside0.mk (Kd.R_mono (ok' := fun k_ => some k_ ≠ (.slice Ao37 t261.length co37 : Value).ownBlock) (Kd.R_keptB ((Kd.R_apart' HO_255001.out (Kd.R_typed HO_260001.out) (by decide))) hkp (fun k_ hk_ hs_ => (hk_.2) hs_)) (fun k_ hk_ => hk_.1.1)); have n1_ := Aside0.mk (Kd.R_reok rfl hy0 (fun k_ e_ => HO_260001.out.1 k_ e_)); have n2_ := Aside0.mk (Kd.R_mono (ok' := fun k_ => some k_ ≠ (.slice Ao23 t250.length co23 : Value).ownBlock) (Kd.R_keptB ((Kd.R_apart' HO_266001.out (Kd.R_typed HO_260001.out) (by decide))) hkp (fun k_ hk_ hs_ => (hk_.2) hs_)) (fun k_ hk_ => hk_.1.1)); have n3_ := Aside0.mk (blk_kept (by (with_reducible repeat (first | refine blk_drewN ?_ _ | refine blk_drew ?_ | refine blk_alloc ?_ _)); exact BK243.out) hkp (fun hs_ => (fun e_ => (Kd.R_ne HO_260001.out BK243.out (by decide)) e_) hs_)); have n4_ := Aside0.mk (blk_kept (by (with_reducible repeat (first | refine blk_drewN ?_ _ | refine blk_drew ?_ | refine blk_alloc ?_ _)); exact BK254.out) hkp (fun hs_ => (fun e_ => (Kd.R_ne HO_260001.out BK254.out (by decide)) e_) hs_)); have n5_ := Aside0.mk (blk_kept (by (with_reducible repeat (first | refine blk_drewN ?_ _ | refine blk_drew ?_ | refine blk_alloc ?_ _)); exact BK259.out) hkp (fun hs_ => (fun e_ => (Kd.R_ne HO_260001.out BK259.out (by decide)) e_) hs_)); have n6_ := Aside0.mk (blk_kept (by (with_reducible repeat (first | refine blk_drewN ?_ _ | refine blk_drew ?_ | refine blk_alloc ?_ _)); exact BK265.out) hkp (fun hs_ => (fun e_ => (Kd.R_ne HO_260001.out BK265.out (by decide)) e_) hs_)); have n7_ := Aside0.mk (Kd.R_mono (ok' := fun k_ => some k_ ≠ (.slice Ao30 t256.length co30 : Value).ownBlock) (Kd.R_keptB (HO270.out) hkp (fun k_ hk_ hs_ => (hk_.2) hs_)) (fun k_ hk_ => hk_.1.2)); have n8_ := Aside0.mk (hb); clear HO_255001; clear HO_260001; clear HO_266001; clear BK243; clear BK254; clear BK259; clear BK265; clear HO270; clear HB; have HO_255001 := n0_; have HO_260001 := n1_; have HO_266001 := n2_; have BK243 := n3_; have BK254 := n4_; have BK259 := n5_; have BK265 := n6_; have HO270 := n7_; have HB := n8_; clear n0_ n1_ n2_ n3_ n4_ n5_ n6_ n7_ n8_; (try clear hb); (try clear hkp); (try clear hy0)))
      (try simp only [Act.put, List.setIfInBounds_toArray, List.set_cons_zero, List.set_cons_succ])
      go_cut [65] (fun v65 wc => ∃ (kq : Nat) (x65_60 : Bool), v65 = .bool x65_60 ∧ Aside0 (laws_FnExactDiagramOf.j1 kq a1 t253 x65_60 a0_0 l0_1 t249 t250 t260 t261 = some r) ∧ Aside0 (kq ≤ kj11) ∧ Aside0 (Kd.R k71 71 wc w.heap.size (fun k_ => some k_ ≠ ((.slice Ao37 t261.length co37) : Value).ownBlock) (.slice Ao23 t250.length co23) t250) ∧ Aside0 (Kd.R k121 121 wc w.heap.size (fun _ => True) (.slice Ao30 t256.length co30) t273) ∧ Aside0 (Kd.R k71 71 wc w.heap.size (fun k_ => some k_ ≠ ((.slice Ao23 t250.length co23) : Value).ownBlock) (.slice Ao37 t261.length co37) t261) ∧ Aside0 (wc.heap[gb243]? = some (.cells #[.int .i64 a0_0, (.slice A0_1 l0_1.length c0_1)] 58 (0, 0))) ∧ Aside0 (wc.heap[gb254]? = some (.cells #[.int .i64 t249, (.slice Ao23 t250.length co23)] 25 (0, 0))) ∧ Aside0 (wc.heap[gb259]? = some (.cells #[.int .i64 t255, (.slice Ao30 t256.length co30)] 45 (0, 0))) ∧ Aside0 (wc.heap[gb265]? = some (.cells #[.int .i64 t260, (.slice Ao37 t261.length co37)] 25 (0, 0))) ∧ Aside0 (Below w.heap.size w wc))
      case first =>
       have H := HC61.out
       clear HC61
       by_cases c71 : t272 < 0
       ·rw [if_pos c71] at H
        have c71b0 : decide (t272 < 0) = true := decide_eq_true c71
        clear c71
        (first | rw [c71b0] | (simp only [i64_w, i32_w]; rw [c71b0]) | skip)
        have H' := Aside0.mk H
        clear H
        go_wp2
        go_meet
        case rel => exact ⟨_, (true), (by first | rfl | (simp; done) | (simp [*]; done)), H', ⟨by have := HJ11.out; first | omega | exact Nat.le_refl _⟩, ⟨by (with_reducible repeat (first | apply Kd.R_alloc | apply Kd.R_drewN | apply Kd.R_drew)); exact HO_255001.out⟩, ⟨by (with_reducible repeat (first | apply Kd.R_alloc | apply Kd.R_drewN | apply Kd.R_drew)); exact Kd.R_mono HO_260001.out (fun _ hk => trivial)⟩, ⟨by (with_reducible repeat (first | apply Kd.R_alloc | apply Kd.R_drewN | apply Kd.R_drew)); exact HO_266001.out⟩, ⟨by (with_reducible repeat (first | refine blk_drewN ?_ _ | refine blk_drew ?_ | refine blk_alloc ?_ _)); exact BK243.out⟩, ⟨by (with_reducible repeat (first | refine blk_drewN ?_ _ | refine blk_drew ?_ | refine blk_alloc ?_ _)); exact BK254.out⟩, ⟨by (with_reducible repeat (first | refine blk_drewN ?_ _ | refine blk_drew ?_ | refine blk_alloc ?_ _)); exact BK259.out⟩, ⟨by (with_reducible repeat (first | refine blk_drewN ?_ _ | refine blk_drew ?_ | refine blk_alloc ?_ _)); exact BK265.out⟩, ⟨by repeat (first | (with_reducible first | exact HB.out | apply bwA | apply bwN | apply bwD | refine below_set ?_ GE243.out | refine below_set ?_ GE254.out | refine below_set ?_ GE259.out | refine below_set ?_ GE265.out) | exact HB.out)⟩⟩
       ·rw [if_neg c71] at H
        have c71b0 : decide (t272 < 0) = false := decide_eq_false c71
        clear c71
        (first | rw [c71b0] | (simp only [i64_w, i32_w]; rw [c71b0]) | skip)
        replace H := Option.bind_eq_some_iff.mp H
        obtain ⟨t274, A720, H⟩ := H
        replace H : (if t274 = true then (laws_FnExactDiagramOf.j1 kj11 a1 t253 (t264 != t253) a0_0 l0_1 t249 t250 t260 t261) else (laws_FnExactDiagramOf.j1 kj11 a1 t253 true a0_0 l0_1 t249 t250 t260 t261)) = some r := H
        have A72 := Aside0.mk A720
        clear A720
        by_cases c73 : t274 = true
        ·subst c73
         have H1 : (laws_FnExactDiagramOf.j1 kj11 a1 t253 (t264 != t253) a0_0 l0_1 t249 t250 t260 t261) = some r := by rw [if_pos rfl] at H; exact H
         clear H
         have H := H1
         clear H1
         have H' := Aside0.mk H
         clear H
         have hnb74 := NB265_243.out
         have hnc74 := NB243_265.out
         have hnb75 := NB265_254.out
         have hnc75 := NB254_265.out
         have hnb76 := NB265_259.out
         have hnc76 := NB259_265.out
         have hcz77_0 : w70.cell? ⟨gb265, 0, none⟩ = some (.int .i64 t260) := (blk_cell BK265.out 0).trans rfl
         have hcz77_1 : w70.cell? ⟨gb265, 1, none⟩ = some (.slice Ao37 t261.length co37) := (blk_cell BK265.out 1).trans rfl
         have hfz77_0 := blk_frozen BK265.out 0
         have hfz77_1 := blk_frozen BK265.out 1
         have hnb78 := NB254_243.out
         have hnc78 := NB243_254.out
         have hnb79 := NB254_259.out
         have hnc79 := NB259_254.out
         have hcz80_0 : w70.cell? ⟨gb254, 0, none⟩ = some (.int .i64 t249) := (blk_cell BK254.out 0).trans rfl
         have hcz80_1 : w70.cell? ⟨gb254, 1, none⟩ = some (.slice Ao23 t250.length co23) := (blk_cell BK254.out 1).trans rfl
         have hfz80_0 := blk_frozen BK254.out 0
         have hfz80_1 := blk_frozen BK254.out 1
         go_wp2_with (first | (go_at_call 21; (with_reducible refine (laws_eqDiagram.calls kj11 t260 _ _ t261 t249 _ _ t250 true _ ?side1 ?side2 ?side3 ?side4 A72.out).mono ?_); (case side1 => repeat (first | exact (Kd.R_reads' HO_266001.out).2.2 | (with_reducible refine Kd.C_alloc ?_ _) | (with_reducible refine Kd.C_drewN ?_ _) | (with_reducible refine Kd.C_drew ?_))); (case side2 => exact (Kd.R_reads' HO_266001.out).2.1); (case side3 => repeat (first | exact (Kd.R_reads' HO_255001.out).2.2 | (with_reducible refine Kd.C_alloc ?_ _) | (with_reducible refine Kd.C_drewN ?_ _) | (with_reducible refine Kd.C_drew ?_))); (case side4 => exact (Kd.R_reads' HO_255001.out).2.1); rintro e w81 ⟨rfl, hb⟩; have n0_ := Aside0.mk (Kd.R_below (by (with_reducible repeat (first | apply Kd.R_alloc | apply Kd.R_drewN | apply Kd.R_drew)); exact HO_255001.out) hb); have n1_ := Aside0.mk (Kd.R_below (by (with_reducible repeat (first | apply Kd.R_alloc | apply Kd.R_drewN | apply Kd.R_drew)); exact HO_260001.out) hb); have n2_ := Aside0.mk (Kd.R_below (by (with_reducible repeat (first | apply Kd.R_alloc | apply Kd.R_drewN | apply Kd.R_drew)); exact HO_266001.out) hb); have n3_ := Aside0.mk (Kd.R_below (by (with_reducible repeat (first | apply Kd.R_alloc | apply Kd.R_drewN | apply Kd.R_drew)); exact HO270.out) hb); have n4_ := Aside0.mk (blk_below (g := gb243) (o := .cells #[.int .i64 a0_0, .slice A0_1 l0_1.length c0_1] 58 (0, 0)) (by (with_reducible repeat (first | refine blk_drewN ?_ _ | refine blk_drew ?_ | refine blk_alloc ?_ _)); exact BK243.out) hb); have n5_ := Aside0.mk (blk_below (g := gb254) (o := .cells #[.int .i64 t249, .slice Ao23 t250.length co23] 25 (0, 0)) (by (with_reducible repeat (first | refine blk_drewN ?_ _ | refine blk_drew ?_ | refine blk_alloc ?_ _)); exact BK254.out) hb); have n6_ := Aside0.mk (blk_below (g := gb259) (o := .cells #[.int .i64 t255, .slice Ao30 t256.length co30] 45 (0, 0)) (by (with_reducible repeat (first | refine blk_drewN ?_ _ | refine blk_drew ?_ | refine blk_alloc ?_ _)); exact BK259.out) hb); have n7_ := Aside0.mk (blk_below (g := gb265) (o := .cells #[.int .i64 t260, .slice Ao37 t261.length co37] 25 (0, 0)) (by (with_reducible repeat (first | refine blk_drewN ?_ _ | refine blk_drew ?_ | refine blk_alloc ?_ _)); exact BK265.out) hb); have n8_ := Aside0.mk (below_step (by repeat (first | (with_reducible first | exact HB.out | apply bwA | apply bwN | apply bwD | refine below_set ?_ GE243.out | refine below_set ?_ GE254.out | refine below_set ?_ GE259.out | refine below_set ?_ GE265.out) | exact HB.out)) hb); clear HO_255001; clear HO_260001; clear HO_266001; clear HO270; clear BK243; clear BK254; clear BK259; clear BK265; clear HB; have HO_255001 := n0_; have HO_260001 := n1_; have HO_266001 := n2_; have HO270 := n3_; have BK243 := n4_; have BK254 := n5_; have BK259 := n6_; have BK265 := n7_; have HB := n8_; clear n0_ n1_ n2_ n3_ n4_ n5_ n6_ n7_ n8_; (try clear hb); (try clear hb2); (try clear hk); (try clear hi)))
         go_meet
         case rel => exact ⟨_, ((t264 != t253)), (by first | rfl | (simp; done) | (simp [*]; done)), H', ⟨by have := HJ11.out; first | omega | exact Nat.le_refl _⟩, ⟨by (with_reducible repeat (first | apply Kd.R_alloc | apply Kd.R_drewN | apply Kd.R_drew)); exact HO_255001.out⟩, ⟨by (with_reducible repeat (first | apply Kd.R_alloc | apply Kd.R_drewN | apply Kd.R_drew)); exact Kd.R_mono HO_260001.out (fun _ hk => trivial)⟩, ⟨by (with_reducible repeat (first | apply Kd.R_alloc | apply Kd.R_drewN | apply Kd.R_drew)); exact HO_266001.out⟩, ⟨by (with_reducible repeat (first | refine blk_drewN ?_ _ | refine blk_drew ?_ | refine blk_alloc ?_ _)); exact BK243.out⟩, ⟨by (with_reducible repeat (first | refine blk_drewN ?_ _ | refine blk_drew ?_ | refine blk_alloc ?_ _)); exact BK254.out⟩, ⟨by (with_reducible repeat (first | refine blk_drewN ?_ _ | refine blk_drew ?_ | refine blk_alloc ?_ _)); exact BK259.out⟩, ⟨by (with_reducible repeat (first | refine blk_drewN ?_ _ | refine blk_drew ?_ | refine blk_alloc ?_ _)); exact BK265.out⟩, ⟨by repeat (first | (with_reducible first | exact HB.out | apply bwA | apply bwN | apply bwD | refine below_set ?_ GE243.out | refine below_set ?_ GE254.out | refine below_set ?_ GE259.out | refine below_set ?_ GE265.out) | exact HB.out)⟩⟩
        ·replace c73 := Bool.eq_false_iff.mpr c73
         subst c73
         have H1 : (laws_FnExactDiagramOf.j1 kj11 a1 t253 true a0_0 l0_1 t249 t250 t260 t261) = some r := by rw [if_neg (show ¬ (false = true) by decide)] at H; exact H
         clear H
         have H := H1
         clear H1
         have H' := Aside0.mk H
         clear H
         have hnb82 := NB265_243.out
         have hnc82 := NB243_265.out
         have hnb83 := NB265_254.out
         have hnc83 := NB254_265.out
         have hnb84 := NB265_259.out
         have hnc84 := NB259_265.out
         have hcz85_0 : w70.cell? ⟨gb265, 0, none⟩ = some (.int .i64 t260) := (blk_cell BK265.out 0).trans rfl
         have hcz85_1 : w70.cell? ⟨gb265, 1, none⟩ = some (.slice Ao37 t261.length co37) := (blk_cell BK265.out 1).trans rfl
         have hfz85_0 := blk_frozen BK265.out 0
         have hfz85_1 := blk_frozen BK265.out 1
         have hnb86 := NB254_243.out
         have hnc86 := NB243_254.out
         have hnb87 := NB254_259.out
         have hnc87 := NB259_254.out
         have hcz88_0 : w70.cell? ⟨gb254, 0, none⟩ = some (.int .i64 t249) := (blk_cell BK254.out 0).trans rfl
         have hcz88_1 : w70.cell? ⟨gb254, 1, none⟩ = some (.slice Ao23 t250.length co23) := (blk_cell BK254.out 1).trans rfl
         have hfz88_0 := blk_frozen BK254.out 0
         have hfz88_1 := blk_frozen BK254.out 1
         go_wp2_with (first | (go_at_call 21; (with_reducible refine (laws_eqDiagram.calls kj11 t260 _ _ t261 t249 _ _ t250 false _ ?side1 ?side2 ?side3 ?side4 A72.out).mono ?_); (case side1 => repeat (first | exact (Kd.R_reads' HO_266001.out).2.2 | (with_reducible refine Kd.C_alloc ?_ _) | (with_reducible refine Kd.C_drewN ?_ _) | (with_reducible refine Kd.C_drew ?_))); (case side2 => exact (Kd.R_reads' HO_266001.out).2.1); (case side3 => repeat (first | exact (Kd.R_reads' HO_255001.out).2.2 | (with_reducible refine Kd.C_alloc ?_ _) | (with_reducible refine Kd.C_drewN ?_ _) | (with_reducible refine Kd.C_drew ?_))); (case side4 => exact (Kd.R_reads' HO_255001.out).2.1); rintro e w89 ⟨rfl, hb⟩; have n0_ := Aside0.mk (Kd.R_below (by (with_reducible repeat (first | apply Kd.R_alloc | apply Kd.R_drewN | apply Kd.R_drew)); exact HO_255001.out) hb); have n1_ := Aside0.mk (Kd.R_below (by (with_reducible repeat (first | apply Kd.R_alloc | apply Kd.R_drewN | apply Kd.R_drew)); exact HO_260001.out) hb); have n2_ := Aside0.mk (Kd.R_below (by (with_reducible repeat (first | apply Kd.R_alloc | apply Kd.R_drewN | apply Kd.R_drew)); exact HO_266001.out) hb); have n3_ := Aside0.mk (Kd.R_below (by (with_reducible repeat (first | apply Kd.R_alloc | apply Kd.R_drewN | apply Kd.R_drew)); exact HO270.out) hb); have n4_ := Aside0.mk (blk_below (g := gb243) (o := .cells #[.int .i64 a0_0, .slice A0_1 l0_1.length c0_1] 58 (0, 0)) (by (with_reducible repeat (first | refine blk_drewN ?_ _ | refine blk_drew ?_ | refine blk_alloc ?_ _)); exact BK243.out) hb); have n5_ := Aside0.mk (blk_below (g := gb254) (o := .cells #[.int .i64 t249, .slice Ao23 t250.length co23] 25 (0, 0)) (by (with_reducible repeat (first | refine blk_drewN ?_ _ | refine blk_drew ?_ | refine blk_alloc ?_ _)); exact BK254.out) hb); have n6_ := Aside0.mk (blk_below (g := gb259) (o := .cells #[.int .i64 t255, .slice Ao30 t256.length co30] 45 (0, 0)) (by (with_reducible repeat (first | refine blk_drewN ?_ _ | refine blk_drew ?_ | refine blk_alloc ?_ _)); exact BK259.out) hb); have n7_ := Aside0.mk (blk_below (g := gb265) (o := .cells #[.int .i64 t260, .slice Ao37 t261.length co37] 25 (0, 0)) (by (with_reducible repeat (first | refine blk_drewN ?_ _ | refine blk_drew ?_ | refine blk_alloc ?_ _)); exact BK265.out) hb); have n8_ := Aside0.mk (below_step (by repeat (first | (with_reducible first | exact HB.out | apply bwA | apply bwN | apply bwD | refine below_set ?_ GE243.out | refine below_set ?_ GE254.out | refine below_set ?_ GE259.out | refine below_set ?_ GE265.out) | exact HB.out)) hb); clear HO_255001; clear HO_260001; clear HO_266001; clear HO270; clear BK243; clear BK254; clear BK259; clear BK265; clear HB; have HO_255001 := n0_; have HO_260001 := n1_; have HO_266001 := n2_; have HO270 := n3_; have BK243 := n4_; have BK254 := n5_; have BK259 := n6_; have BK265 := n7_; have HB := n8_; clear n0_ n1_ n2_ n3_ n4_ n5_ n6_ n7_ n8_; (try clear hb); (try clear hb2); (try clear hk); (try clear hi)))
         go_meet
         case rel => exact ⟨_, (true), (by first | rfl | (simp; done) | (simp [*]; done)), H', ⟨by have := HJ11.out; first | omega | exact Nat.le_refl _⟩, ⟨by (with_reducible repeat (first | apply Kd.R_alloc | apply Kd.R_drewN | apply Kd.R_drew)); exact HO_255001.out⟩, ⟨by (with_reducible repeat (first | apply Kd.R_alloc | apply Kd.R_drewN | apply Kd.R_drew)); exact Kd.R_mono HO_260001.out (fun _ hk => trivial)⟩, ⟨by (with_reducible repeat (first | apply Kd.R_alloc | apply Kd.R_drewN | apply Kd.R_drew)); exact HO_266001.out⟩, ⟨by (with_reducible repeat (first | refine blk_drewN ?_ _ | refine blk_drew ?_ | refine blk_alloc ?_ _)); exact BK243.out⟩, ⟨by (with_reducible repeat (first | refine blk_drewN ?_ _ | refine blk_drew ?_ | refine blk_alloc ?_ _)); exact BK254.out⟩, ⟨by (with_reducible repeat (first | refine blk_drewN ?_ _ | refine blk_drew ?_ | refine blk_alloc ?_ _)); exact BK259.out⟩, ⟨by (with_reducible repeat (first | refine blk_drewN ?_ _ | refine blk_drew ?_ | refine blk_alloc ?_ _)); exact BK265.out⟩, ⟨by repeat (first | (with_reducible first | exact HB.out | apply bwA | apply bwN | apply bwD | refine below_set ?_ GE243.out | refine below_set ?_ GE254.out | refine below_set ?_ GE259.out | refine below_set ?_ GE265.out) | exact HB.out)⟩⟩
      case rest =>
       clear HC61
       try clear c1
       try clear c2
       try clear p2
       try clear c3
       try clear c4
       try clear c4b0
       try clear c5
       try clear c6
       try clear c7
       try clear c8
       try clear c11
       try clear c21
       try clear c27
       try clear c28
       try clear c31
       try clear c32
       try clear c33
       try clear c34
       try clear c35
       try clear c38
       try clear c39
       try clear c40
       try clear c41
       try clear c42
       try clear c44
       try clear c45
       try clear c48
       try clear c49
       try clear c50
       try clear c52
       try clear c53
       try clear c56
       try clear c59
       try clear c66
       try clear c67
       try clear c68
       try clear c71
       try clear c71b0
       try clear c73
       try clear c74
       try clear c75
       try clear c76
       try clear c78
       try clear c79
       try clear c82
       try clear c83
       try clear c84
       try clear c86
       try clear c87
       try clear hcz14_0
       try clear hcz14_1
       try clear hcz16_0
       try clear hcz16_1
       try clear hcz22_0
       try clear hcz22_1
       try clear hcz24_0
       try clear hcz24_1
       try clear hcz29_0
       try clear hcz29_1
       try clear hcz36_0
       try clear hcz36_1
       try clear hcz43_0
       try clear hcz43_1
       try clear hcz46_0
       try clear hcz46_1
       try clear hcz51_0
       try clear hcz51_1
       try clear hcz54_0
       try clear hcz54_1
       try clear hcz69_0
       try clear hcz69_1
       try clear hcz6_0
       try clear hcz6_1
       try clear hcz77_0
       try clear hcz77_1
       try clear hcz80_0
       try clear hcz80_1
       try clear hcz85_0
       try clear hcz85_1
       try clear hcz88_0
       try clear hcz88_1
       try clear hfz14_0
       try clear hfz14_1
       try clear hfz16_0
       try clear hfz16_1
       try clear hfz22_0
       try clear hfz22_1
       try clear hfz24_0
       try clear hfz24_1
       try clear hfz29_0
       try clear hfz29_1
       try clear hfz36_0
       try clear hfz36_1
       try clear hfz43_0
       try clear hfz43_1
       try clear hfz46_0
       try clear hfz46_1
       try clear hfz51_0
       try clear hfz51_1
       try clear hfz54_0
       try clear hfz54_1
       try clear hfz69_0
       try clear hfz69_1
       try clear hfz6_0
       try clear hfz6_1
       try clear hfz77_0
       try clear hfz77_1
       try clear hfz80_0
       try clear hfz80_1
       try clear hfz85_0
       try clear hfz85_1
       try clear hfz88_0
       try clear hfz88_1
       try clear p2
       obtain ⟨kq, x65_60, rfl, HA, HJ60, HO_255001, HO_260001, HO_266001, BK243, BK254, BK259, BK265, HB⟩ := hcut
       have hl260001_60 := (Kd.R_reads' HO_260001.out).1
       rw [hl260001_60] at HO_260001
       (try simp only [hl260001_60])
       (try simp only [hl260001_60] at BK243)
       (try simp only [hl260001_60] at BK254)
       (try simp only [hl260001_60] at BK259)
       (try simp only [hl260001_60] at BK265)
       (try simp only [hl260001_60] at HO_255001)
       (try simp only [hl260001_60] at HO_266001)
       cases kq with
       | zero => exact absurd HA.out (by simp [laws_FnExactDiagramOf.j1])
       | succ kj60 =>
        have H := HA.out
        clear HA
        simp only [laws_FnExactDiagramOf.j1] at H
        by_cases c90 : x65_60 = true
        ·subst c90
         have H1 : (some false) = some r := by rw [if_pos rfl] at H; exact H
         clear H
         have H := H1
         clear H1
         obtain rfl := Option.some.inj H
         go_wp2
         go_ret
         exact ⟨by first | rfl | (simp [errW_none, errW_some] <;> rfl) | (simp [*, errW_none, errW_some] <;> rfl), by repeat (first | (with_reducible first | exact HB.out | apply bwA | apply bwN | apply bwD | refine below_set ?_ GE243.out | refine below_set ?_ GE254.out | refine below_set ?_ GE259.out | refine below_set ?_ GE265.out) | exact HB.out)⟩
        ·replace c90 := Bool.eq_false_iff.mpr c90
         subst c90
         have H1 : ((laws_markDiagram.f kj60 t260 t261 1).bind fun bt275 => ((laws_heldDiagram.f kj60 t260 bt275.2 1).bind fun t277 => (if t277 < 0 then (some false) else (if t277 = bt275.1 then ((laws_toCircuit.f kj60 a0_0 l0_1).bind fun bt278 => ((impl_DiagramOf.f kj60 bt278.1 bt278.2 a1).bind fun bt282 => ((laws_eqDiagram.f kj60 bt282.1 bt282.2.1 t249 t250).bind fun t288 => (if t288 = true then (laws_FnExactDiagramOf.j2 kj60 bt275.1 (bt282.2.2 != t253) t260 bt275.2) else (laws_FnExactDiagramOf.j2 kj60 bt275.1 true t260 bt275.2))))) else (some false))))) = some r := by rw [if_neg (show ¬ (false = true) by decide)] at H; exact H
         clear H
         have H := H1
         clear H1
         replace H := Option.bind_eq_some_iff.mp H
         obtain ⟨⟨t275, t276⟩, A910, H⟩ := H
         replace H : ((laws_heldDiagram.f kj60 t260 t276 1).bind fun t277 => (if t277 < 0 then (some false) else (if t277 = t275 then ((laws_toCircuit.f kj60 a0_0 l0_1).bind fun bt278 => ((impl_DiagramOf.f kj60 bt278.1 bt278.2 a1).bind fun bt282 => ((laws_eqDiagram.f kj60 bt282.1 bt282.2.1 t249 t250).bind fun t288 => (if t288 = true then (laws_FnExactDiagramOf.j2 kj60 t275 (bt282.2.2 != t253) t260 t276) else (laws_FnExactDiagramOf.j2 kj60 t275 true t260 t276))))) else (some false)))) = some r := H
         have A91 := Aside0.mk A910
         clear A910
         replace H := Option.bind_eq_some_iff.mp H
         obtain ⟨t277, A920, H⟩ := H
         replace H : (if t277 < 0 then (some false) else (if t277 = t275 then ((laws_toCircuit.f kj60 a0_0 l0_1).bind fun bt278 => ((impl_DiagramOf.f kj60 bt278.1 bt278.2 a1).bind fun bt282 => ((laws_eqDiagram.f kj60 bt282.1 bt282.2.1 t249 t250).bind fun t288 => (if t288 = true then (laws_FnExactDiagramOf.j2 kj60 t275 (bt282.2.2 != t253) t260 t276) else (laws_FnExactDiagramOf.j2 kj60 t275 true t260 t276))))) else (some false))) = some r := H
         have A92 := Aside0.mk A920
         clear A920
         by_cases c93 : t277 < 0
         ·rw [if_pos c93] at H
          have c93b0 : decide (t277 < 0) = true := decide_eq_true c93
          clear c93
          obtain rfl := Option.some.inj H
          have hnb94 := NB265_243.out
          have hnc94 := NB243_265.out
          have hnb95 := NB265_254.out
          have hnc95 := NB254_265.out
          have hnb96 := NB265_259.out
          have hnc96 := NB259_265.out
          have hcz97_0 : wc.cell? ⟨gb265, 0, none⟩ = some (.int .i64 t260) := (blk_cell BK265.out 0).trans rfl
          have hcz97_1 : wc.cell? ⟨gb265, 1, none⟩ = some (.slice Ao37 t261.length co37) := (blk_cell BK265.out 1).trans rfl
          have hfz97_0 := blk_frozen BK265.out 0
          have hfz97_1 := blk_frozen BK265.out 1
          go_wp2_with (first | ((with_reducible refine gate_callee (f := 22) rfl ?_); refine goesL_ (some 68) rfl rfl Try.func22 (by kernel_rfl) rfl #[.agg #[.int .i64 t260, .slice Ao37 t261.length co37], .int .i64 1] rfl (by (try simp only [List.map_toArray, List.map_cons, List.map_nil]); first | done | rfl | (simp only [List.length_drop, List.length_take]; rfl)) ?_; (with_reducible refine (laws_markDiagram.calls kj60 t260 (fun k_ => some k_ = (.slice Ao37 t261.length co37 : Value).ownBlock) (.slice Ao37 t261.length co37) t261 1 t275 t276 w _ ?side1 ?side2 A91.out).mono ?_); (case side1 => repeat (first | (with_reducible first | exact HB.out | apply bwA | apply bwN | apply bwD | refine below_set ?_ GE243.out | refine below_set ?_ GE254.out | refine below_set ?_ GE259.out | refine below_set ?_ GE265.out) | exact HB.out)); (case side2 => exact Kd.R_tight rfl HO_266001.out); rintro e w98 ⟨rfl, hy0, hb, hkp⟩; refine ⟨_, rfl, ?_⟩; have n0_ := Aside0.mk (Kd.R_mono (ok' := fun k_ => some k_ ≠ (.slice Ao37 t261.length co37 : Value).ownBlock) (Kd.R_keptB (HO_255001.out) hkp (fun k_ hk_ hs_ => (hk_) hs_)) (fun k_ hk_ => hk_.1)); have n1_ := Aside0.mk (Kd.R_mono (ok' := fun k_ => True) (Kd.R_keptB ((Kd.R_apart' HO_260001.out (Kd.R_typed HO_266001.out) (by decide))) hkp (fun k_ hk_ hs_ => (hk_.2) hs_)) (fun k_ hk_ => trivial)); have n2_ := Aside0.mk (Kd.R_reok rfl hy0 (fun k_ e_ => HO_266001.out.1 k_ e_)); have n3_ := Aside0.mk (blk_kept (by (with_reducible repeat (first | refine blk_drewN ?_ _ | refine blk_drew ?_ | refine blk_alloc ?_ _)); exact BK243.out) hkp (fun hs_ => (fun e_ => (Kd.R_ne HO_266001.out BK243.out (by decide)) e_) hs_)); have n4_ := Aside0.mk (blk_kept (by (with_reducible repeat (first | refine blk_drewN ?_ _ | refine blk_drew ?_ | refine blk_alloc ?_ _)); exact BK254.out) hkp (fun hs_ => (fun e_ => (Kd.R_ne HO_266001.out BK254.out (by decide)) e_) hs_)); have n5_ := Aside0.mk (blk_kept (by (with_reducible repeat (first | refine blk_drewN ?_ _ | refine blk_drew ?_ | refine blk_alloc ?_ _)); exact BK259.out) hkp (fun hs_ => (fun e_ => (Kd.R_ne HO_266001.out BK259.out (by decide)) e_) hs_)); have n6_ := Aside0.mk (blk_kept (by (with_reducible repeat (first | refine blk_drewN ?_ _ | refine blk_drew ?_ | refine blk_alloc ?_ _)); exact BK265.out) hkp (fun hs_ => (fun e_ => (Kd.R_ne HO_266001.out BK265.out (by decide)) e_) hs_)); have n7_ := Aside0.mk (hb); clear HO_255001; clear HO_260001; clear HO_266001; clear BK243; clear BK254; clear BK259; clear BK265; clear HB; have HO_255001 := n0_; have HO_260001 := n1_; have HO_266001 := n2_; have BK243 := n3_; have BK254 := n4_; have BK259 := n5_; have BK265 := n6_; have HB := n7_; clear n0_ n1_ n2_ n3_ n4_ n5_ n6_ n7_; (try clear hb); (try clear hkp); (try clear hy0); have hcz99_0 : w98.cell? ⟨gb265, 0, none⟩ = some (.int .i64 t260) := (blk_cell BK265.out 0).trans rfl; have hcz99_1 : w98.cell? ⟨gb265, 1, none⟩ = some (.slice Ao37 t261.length co37) := (blk_cell BK265.out 1).trans rfl; have hfz99_0 := blk_frozen BK265.out 0; have hfz99_1 := blk_frozen BK265.out 1) | ((with_reducible refine gate_callee (f := 23) rfl ?_); refine goesL_ (some 71) rfl rfl Try.func23 (by kernel_rfl) rfl #[.agg #[.int .i64 t260, .slice Ao37 t276.length co37], .int .i64 1] rfl (by (try simp only [List.map_toArray, List.map_cons, List.map_nil]); first | done | (rw [show t276.length = t261.length from (Kd.R_reads' HO_266001.out).1.symm] <;> rfl) | rfl | (simp only [List.length_drop, List.length_take]; rfl)) ?_; (with_reducible refine (laws_heldDiagram.calls kj60 t260 _ _ t276 1 t277 _ ?side1 ?side2 A92.out).mono ?_); (case side1 => repeat (first | exact (Kd.R_reads' HO_266001.out).2.2 | (with_reducible refine Kd.C_alloc ?_ _) | (with_reducible refine Kd.C_drewN ?_ _) | (with_reducible refine Kd.C_drew ?_))); (case side2 => rw [show t276.length = t261.length from (Kd.R_reads' HO_266001.out).1.symm]; exact (Kd.R_reads' HO_266001.out).2.1); rintro e w100 ⟨rfl, hb⟩; refine ⟨_, rfl, ?_⟩; have n0_ := Aside0.mk (Kd.R_below (by (with_reducible repeat (first | apply Kd.R_alloc | apply Kd.R_drewN | apply Kd.R_drew)); exact HO_255001.out) hb); have n1_ := Aside0.mk (Kd.R_below (by (with_reducible repeat (first | apply Kd.R_alloc | apply Kd.R_drewN | apply Kd.R_drew)); exact HO_260001.out) hb); have n2_ := Aside0.mk (Kd.R_below (by (with_reducible repeat (first | apply Kd.R_alloc | apply Kd.R_drewN | apply Kd.R_drew)); exact HO_266001.out) hb); have n3_ := Aside0.mk (blk_below (g := gb243) (o := .cells #[.int .i64 a0_0, .slice A0_1 l0_1.length c0_1] 58 (0, 0)) (by (with_reducible repeat (first | refine blk_drewN ?_ _ | refine blk_drew ?_ | refine blk_alloc ?_ _)); exact BK243.out) hb); have n4_ := Aside0.mk (blk_below (g := gb254) (o := .cells #[.int .i64 t249, .slice Ao23 t250.length co23] 25 (0, 0)) (by (with_reducible repeat (first | refine blk_drewN ?_ _ | refine blk_drew ?_ | refine blk_alloc ?_ _)); exact BK254.out) hb); have n5_ := Aside0.mk (blk_below (g := gb259) (o := .cells #[.int .i64 t255, .slice Ao30 t273.length co30] 45 (0, 0)) (by (with_reducible repeat (first | refine blk_drewN ?_ _ | refine blk_drew ?_ | refine blk_alloc ?_ _)); exact BK259.out) hb); have n6_ := Aside0.mk (blk_below (g := gb265) (o := .cells #[.int .i64 t260, .slice Ao37 t261.length co37] 25 (0, 0)) (by (with_reducible repeat (first | refine blk_drewN ?_ _ | refine blk_drew ?_ | refine blk_alloc ?_ _)); exact BK265.out) hb); have n7_ := Aside0.mk (below_step (by repeat (first | (with_reducible first | exact HB.out | apply bwA | apply bwN | apply bwD | refine below_set ?_ GE243.out | refine below_set ?_ GE254.out | refine below_set ?_ GE259.out | refine below_set ?_ GE265.out) | exact HB.out)) hb); clear HO_255001; clear HO_260001; clear HO_266001; clear BK243; clear BK254; clear BK259; clear BK265; clear HB; have HO_255001 := n0_; have HO_260001 := n1_; have HO_266001 := n2_; have BK243 := n3_; have BK254 := n4_; have BK259 := n5_; have BK265 := n6_; have HB := n7_; clear n0_ n1_ n2_ n3_ n4_ n5_ n6_ n7_; (try clear hb); (try clear hb2); (try clear hk); (try clear hi)))
          go_ret
          exact ⟨by first | rfl | (simp [errW_none, errW_some] <;> rfl) | (simp [*, errW_none, errW_some] <;> rfl), by repeat (first | (with_reducible first | exact HB.out | apply bwA | apply bwN | apply bwD | refine below_set ?_ GE243.out | refine below_set ?_ GE254.out | refine below_set ?_ GE259.out | refine below_set ?_ GE265.out) | exact HB.out)⟩
         ·rw [if_neg c93] at H
          have c93b0 : decide (t277 < 0) = false := decide_eq_false c93
          clear c93
          by_cases c101 : t277 = t275
          ·rw [if_pos c101] at H
           have c101b0 : (t277 == t275) = true := beq_iff_eq.mpr c101
           have c101b1 : (t277 != t275) = false := bne_eq_false_iff_eq.mpr c101
           clear c101
           replace H := Option.bind_eq_some_iff.mp H
           obtain ⟨⟨t278, t279⟩, A1020, H⟩ := H
           replace H : ((impl_DiagramOf.f kj60 t278 t279 a1).bind fun bt282 => ((laws_eqDiagram.f kj60 bt282.1 bt282.2.1 t249 t250).bind fun t288 => (if t288 = true then (laws_FnExactDiagramOf.j2 kj60 t275 (bt282.2.2 != t253) t260 t276) else (laws_FnExactDiagramOf.j2 kj60 t275 true t260 t276)))) = some r := H
           have A102 := Aside0.mk A1020
           clear A1020
           replace H := Option.bind_eq_some_iff.mp H
           obtain ⟨⟨t282, t283, t286⟩, A1030, H⟩ := H
           replace H : ((laws_eqDiagram.f kj60 t282 t283 t249 t250).bind fun t288 => (if t288 = true then (laws_FnExactDiagramOf.j2 kj60 t275 (t286 != t253) t260 t276) else (laws_FnExactDiagramOf.j2 kj60 t275 true t260 t276))) = some r := H
           have A103 := Aside0.mk A1030
           clear A1030
           have HC104 := Aside0.mk H
           clear H
           have hnb105 := NB265_243.out
           have hnc105 := NB243_265.out
           have hnb106 := NB265_254.out
           have hnc106 := NB254_265.out
           have hnb107 := NB265_259.out
           have hnc107 := NB259_265.out
           have hcz108_0 : wc.cell? ⟨gb265, 0, none⟩ = some (.int .i64 t260) := (blk_cell BK265.out 0).trans rfl
           have hcz108_1 : wc.cell? ⟨gb265, 1, none⟩ = some (.slice Ao37 t261.length co37) := (blk_cell BK265.out 1).trans rfl
           have hfz108_0 := blk_frozen BK265.out 0
           have hfz108_1 := blk_frozen BK265.out 1
           go_upto_region 25 with (first | ((with_reducible refine gate_callee (f := 22) rfl ?_); refine goesL_ (some 68) rfl rfl Try.func22 (by kernel_rfl) rfl #[.agg #[.int .i64 t260, .slice Ao37 t261.length co37], .int .i64 1] rfl (by (try simp only [List.map_toArray, List.map_cons, List.map_nil]); first | done | rfl | (simp only [List.length_drop, List.length_take]; rfl)) ?_; (with_reducible refine (laws_markDiagram.calls kj60 t260 (fun k_ => some k_ = (.slice Ao37 t261.length co37 : Value).ownBlock) (.slice Ao37 t261.length co37) t261 1 t275 t276 w _ ?side1 ?side2 A91.out).mono ?_); (case side1 => repeat (first | (with_reducible first | exact HB.out | apply bwA | apply bwN | apply bwD | refine below_set ?_ GE243.out | refine below_set ?_ GE254.out | refine below_set ?_ GE259.out | refine below_set ?_ GE265.out) | exact HB.out)); (case side2 => exact Kd.R_tight rfl HO_266001.out); rintro e w109 ⟨rfl, hy0, hb, hkp⟩; refine ⟨_, rfl, ?_⟩; have n0_ := Aside0.mk (Kd.R_mono (ok' := fun k_ => some k_ ≠ (.slice Ao37 t261.length co37 : Value).ownBlock) (Kd.R_keptB (HO_255001.out) hkp (fun k_ hk_ hs_ => (hk_) hs_)) (fun k_ hk_ => hk_.1)); have n1_ := Aside0.mk (Kd.R_mono (ok' := fun k_ => True) (Kd.R_keptB ((Kd.R_apart' HO_260001.out (Kd.R_typed HO_266001.out) (by decide))) hkp (fun k_ hk_ hs_ => (hk_.2) hs_)) (fun k_ hk_ => trivial)); have n2_ := Aside0.mk (Kd.R_reok rfl hy0 (fun k_ e_ => HO_266001.out.1 k_ e_)); have n3_ := Aside0.mk (blk_kept (by (with_reducible repeat (first | refine blk_drewN ?_ _ | refine blk_drew ?_ | refine blk_alloc ?_ _)); exact BK243.out) hkp (fun hs_ => (fun e_ => (Kd.R_ne HO_266001.out BK243.out (by decide)) e_) hs_)); have n4_ := Aside0.mk (blk_kept (by (with_reducible repeat (first | refine blk_drewN ?_ _ | refine blk_drew ?_ | refine blk_alloc ?_ _)); exact BK254.out) hkp (fun hs_ => (fun e_ => (Kd.R_ne HO_266001.out BK254.out (by decide)) e_) hs_)); have n5_ := Aside0.mk (blk_kept (by (with_reducible repeat (first | refine blk_drewN ?_ _ | refine blk_drew ?_ | refine blk_alloc ?_ _)); exact BK259.out) hkp (fun hs_ => (fun e_ => (Kd.R_ne HO_266001.out BK259.out (by decide)) e_) hs_)); have n6_ := Aside0.mk (blk_kept (by (with_reducible repeat (first | refine blk_drewN ?_ _ | refine blk_drew ?_ | refine blk_alloc ?_ _)); exact BK265.out) hkp (fun hs_ => (fun e_ => (Kd.R_ne HO_266001.out BK265.out (by decide)) e_) hs_)); have n7_ := Aside0.mk (hb); clear HO_255001; clear HO_260001; clear HO_266001; clear BK243; clear BK254; clear BK259; clear BK265; clear HB; have HO_255001 := n0_; have HO_260001 := n1_; have HO_266001 := n2_; have BK243 := n3_; have BK254 := n4_; have BK259 := n5_; have BK265 := n6_; have HB := n7_; clear n0_ n1_ n2_ n3_ n4_ n5_ n6_ n7_; (try clear hb); (try clear hkp); (try clear hy0); have hcz110_0 : w109.cell? ⟨gb265, 0, none⟩ = some (.int .i64 t260) := (blk_cell BK265.out 0).trans rfl; have hcz110_1 : w109.cell? ⟨gb265, 1, none⟩ = some (.slice Ao37 t261.length co37) := (blk_cell BK265.out 1).trans rfl; have hfz110_0 := blk_frozen BK265.out 0; have hfz110_1 := blk_frozen BK265.out 1) | ((with_reducible refine gate_callee (f := 23) rfl ?_); refine goesL_ (some 71) rfl rfl Try.func23 (by kernel_rfl) rfl #[.agg #[.int .i64 t260, .slice Ao37 t276.length co37], .int .i64 1] rfl (by (try simp only [List.map_toArray, List.map_cons, List.map_nil]); first | done | (rw [show t276.length = t261.length from (Kd.R_reads' HO_266001.out).1.symm] <;> rfl) | rfl | (simp only [List.length_drop, List.length_take]; rfl)) ?_; (with_reducible refine (laws_heldDiagram.calls kj60 t260 _ _ t276 1 t277 _ ?side1 ?side2 A92.out).mono ?_); (case side1 => repeat (first | exact (Kd.R_reads' HO_266001.out).2.2 | (with_reducible refine Kd.C_alloc ?_ _) | (with_reducible refine Kd.C_drewN ?_ _) | (with_reducible refine Kd.C_drew ?_))); (case side2 => rw [show t276.length = t261.length from (Kd.R_reads' HO_266001.out).1.symm]; exact (Kd.R_reads' HO_266001.out).2.1); rintro e w111 ⟨rfl, hb⟩; refine ⟨_, rfl, ?_⟩; have n0_ := Aside0.mk (Kd.R_below (by (with_reducible repeat (first | apply Kd.R_alloc | apply Kd.R_drewN | apply Kd.R_drew)); exact HO_255001.out) hb); have n1_ := Aside0.mk (Kd.R_below (by (with_reducible repeat (first | apply Kd.R_alloc | apply Kd.R_drewN | apply Kd.R_drew)); exact HO_260001.out) hb); have n2_ := Aside0.mk (Kd.R_below (by (with_reducible repeat (first | apply Kd.R_alloc | apply Kd.R_drewN | apply Kd.R_drew)); exact HO_266001.out) hb); have n3_ := Aside0.mk (blk_below (g := gb243) (o := .cells #[.int .i64 a0_0, .slice A0_1 l0_1.length c0_1] 58 (0, 0)) (by (with_reducible repeat (first | refine blk_drewN ?_ _ | refine blk_drew ?_ | refine blk_alloc ?_ _)); exact BK243.out) hb); have n4_ := Aside0.mk (blk_below (g := gb254) (o := .cells #[.int .i64 t249, .slice Ao23 t250.length co23] 25 (0, 0)) (by (with_reducible repeat (first | refine blk_drewN ?_ _ | refine blk_drew ?_ | refine blk_alloc ?_ _)); exact BK254.out) hb); have n5_ := Aside0.mk (blk_below (g := gb259) (o := .cells #[.int .i64 t255, .slice Ao30 t273.length co30] 45 (0, 0)) (by (with_reducible repeat (first | refine blk_drewN ?_ _ | refine blk_drew ?_ | refine blk_alloc ?_ _)); exact BK259.out) hb); have n6_ := Aside0.mk (blk_below (g := gb265) (o := .cells #[.int .i64 t260, .slice Ao37 t261.length co37] 25 (0, 0)) (by (with_reducible repeat (first | refine blk_drewN ?_ _ | refine blk_drew ?_ | refine blk_alloc ?_ _)); exact BK265.out) hb); have n7_ := Aside0.mk (below_step (by repeat (first | (with_reducible first | exact HB.out | apply bwA | apply bwN | apply bwD | refine below_set ?_ GE243.out | refine below_set ?_ GE254.out | refine below_set ?_ GE259.out | refine below_set ?_ GE265.out) | exact HB.out)) hb); clear HO_255001; clear HO_260001; clear HO_266001; clear BK243; clear BK254; clear BK259; clear BK265; clear HB; have HO_255001 := n0_; have HO_260001 := n1_; have HO_266001 := n2_; have BK243 := n3_; have BK254 := n4_; have BK259 := n5_; have BK265 := n6_; have HB := n7_; clear n0_ n1_ n2_ n3_ n4_ n5_ n6_ n7_; (try clear hb); (try clear hb2); (try clear hk); (try clear hi); have hnb112 := NB243_254.out; have hnc112 := NB254_243.out; have hnb113 := NB243_259.out; have hnc113 := NB259_243.out; have hcz114_0 : w111.cell? ⟨gb243, 0, none⟩ = some (.int .i64 a0_0) := (blk_cell BK243.out 0).trans rfl; have hcz114_1 : w111.cell? ⟨gb243, 1, none⟩ = some (.slice A0_1 l0_1.length c0_1) := (blk_cell BK243.out 1).trans rfl; have hfz114_0 := blk_frozen BK243.out 0; have hfz114_1 := blk_frozen BK243.out 1) | ((with_reducible refine gate_callee (f := 39) rfl ?_); refine goesL_ (some 79) rfl rfl Try.func39 (by kernel_rfl) rfl #[.agg #[.int .i64 a0_0, .slice A0_1 l0_1.length c0_1]] rfl (by (try simp only [List.map_toArray, List.map_cons, List.map_nil]); first | done | rfl | (simp only [List.length_drop, List.length_take]; rfl)) ?_; (with_reducible refine (laws_toCircuit.calls kj60 a0_0 _ _ l0_1 t278 t279 _ ?side1 ?side2 A102.out).mono ?_); (case side1 => repeat (first | exact (Kd.C_below HR0_1.out HB.out) | (with_reducible refine Kd.C_alloc ?_ _) | (with_reducible refine Kd.C_drewN ?_ _) | (with_reducible refine Kd.C_drew ?_))); (case side2 => exact HC0_1.out); rintro e w115 ⟨v280, rfl, ho0, hb⟩; refine ⟨_, rfl, ?_⟩; have n0_ := Aside0.mk (Kd.R_below (by (with_reducible repeat (first | apply Kd.R_alloc | apply Kd.R_drewN | apply Kd.R_drew)); exact HO_255001.out) hb); have n1_ := Aside0.mk (Kd.R_elder' (by (with_reducible repeat (first | apply Kd.R_alloc | apply Kd.R_drewN | apply Kd.R_drew)); exact HO_260001.out) (Kd.R_base ho0) hb); have n2_ := Aside0.mk (Kd.R_below (by (with_reducible repeat (first | apply Kd.R_alloc | apply Kd.R_drewN | apply Kd.R_drew)); exact HO_266001.out) hb); have n3_ := Aside0.mk (Kd.R_lower (Kd.R_new' ho0 (Kd.R_lt (by (with_reducible repeat (first | apply Kd.R_alloc | apply Kd.R_drewN | apply Kd.R_drew)); exact HO_260001.out))) (below_size (by repeat (first | (with_reducible first | exact HB.out | apply bwA | apply bwN | apply bwD | refine below_set ?_ GE243.out | refine below_set ?_ GE254.out | refine below_set ?_ GE259.out | refine below_set ?_ GE265.out) | exact HB.out)))); have n4_ := Aside0.mk (blk_below (g := gb243) (o := .cells #[.int .i64 a0_0, .slice A0_1 l0_1.length c0_1] 58 (0, 0)) (by (with_reducible repeat (first | refine blk_drewN ?_ _ | refine blk_drew ?_ | refine blk_alloc ?_ _)); exact BK243.out) hb); have n5_ := Aside0.mk (blk_below (g := gb254) (o := .cells #[.int .i64 t249, .slice Ao23 t250.length co23] 25 (0, 0)) (by (with_reducible repeat (first | refine blk_drewN ?_ _ | refine blk_drew ?_ | refine blk_alloc ?_ _)); exact BK254.out) hb); have n6_ := Aside0.mk (blk_below (g := gb259) (o := .cells #[.int .i64 t255, .slice Ao30 t273.length co30] 45 (0, 0)) (by (with_reducible repeat (first | refine blk_drewN ?_ _ | refine blk_drew ?_ | refine blk_alloc ?_ _)); exact BK259.out) hb); have n7_ := Aside0.mk (blk_below (g := gb265) (o := .cells #[.int .i64 t260, .slice Ao37 t261.length co37] 25 (0, 0)) (by (with_reducible repeat (first | refine blk_drewN ?_ _ | refine blk_drew ?_ | refine blk_alloc ?_ _)); exact BK265.out) hb); have n8_ := Aside0.mk (below_step (by repeat (first | (with_reducible first | exact HB.out | apply bwA | apply bwN | apply bwD | refine below_set ?_ GE243.out | refine below_set ?_ GE254.out | refine below_set ?_ GE259.out | refine below_set ?_ GE265.out) | exact HB.out)) hb); clear HO_255001; clear HO_260001; clear HO_266001; clear BK243; clear BK254; clear BK259; clear BK265; clear HB; have HO_255001 := n0_; have HO_260001 := n1_; have HO_266001 := n2_; have HO281 := n3_; have BK243 := n4_; have BK254 := n5_; have BK259 := n6_; have BK265 := n7_; have HB := n8_; clear n0_ n1_ n2_ n3_ n4_ n5_ n6_ n7_ n8_; (try clear hb); (try clear hb2); (try clear hk); (try clear hi); (try clear ho0); obtain ⟨Ao116, co116, eo116⟩ := Kd.R_slice HO281.out; subst eo116) | ((with_reducible refine gate_callee (f := 31) rfl ?_); refine goesL_ (some 81) rfl rfl Try.func31 (by kernel_rfl) rfl #[.agg #[.int .i64 t278, .slice Ao116 t279.length co116], .int .i64 a1] rfl (by (try simp only [List.map_toArray, List.map_cons, List.map_nil]); first | done | rfl | (simp only [List.length_drop, List.length_take]; rfl)) ?_; (with_reducible refine (impl_DiagramOf.calls kj60 t278 _ _ t279 a1 t282 t283 t286 _ ?side1 ?side2 A103.out).mono ?_); (case side1 => repeat (first | exact (Kd.R_reads' HO281.out).2.2 | (with_reducible refine Kd.C_alloc ?_ _) | (with_reducible refine Kd.C_drewN ?_ _) | (with_reducible refine Kd.C_drew ?_))); (case side2 => exact (Kd.R_reads' HO281.out).2.1); rintro e w117 ⟨v284, rfl, ho0, hb⟩; refine ⟨_, rfl, ?_⟩; have n0_ := Aside0.mk (Kd.R_elder' (by (with_reducible repeat (first | apply Kd.R_alloc | apply Kd.R_drewN | apply Kd.R_drew)); exact HO_255001.out) (Kd.R_base ho0) hb); have n1_ := Aside0.mk (Kd.R_below (by (with_reducible repeat (first | apply Kd.R_alloc | apply Kd.R_drewN | apply Kd.R_drew)); exact HO_260001.out) hb); have n2_ := Aside0.mk (Kd.R_elder' (by (with_reducible repeat (first | apply Kd.R_alloc | apply Kd.R_drewN | apply Kd.R_drew)); exact HO_266001.out) (Kd.R_base ho0) hb); have n3_ := Aside0.mk (Kd.R_below (by (with_reducible repeat (first | apply Kd.R_alloc | apply Kd.R_drewN | apply Kd.R_drew)); exact HO281.out) hb); have n4_ := Aside0.mk (Kd.R_lower (Kd.R_new' (Kd.R_new' ho0 (Kd.R_lt (by (with_reducible repeat (first | apply Kd.R_alloc | apply Kd.R_drewN | apply Kd.R_drew)); exact HO_255001.out))) (Kd.R_lt (by (with_reducible repeat (first | apply Kd.R_alloc | apply Kd.R_drewN | apply Kd.R_drew)); exact HO_266001.out))) (below_size (by repeat (first | (with_reducible first | exact HB.out | apply bwA | apply bwN | apply bwD | refine below_set ?_ GE243.out | refine below_set ?_ GE254.out | refine below_set ?_ GE259.out | refine below_set ?_ GE265.out) | exact HB.out)))); have n5_ := Aside0.mk (blk_below (g := gb243) (o := .cells #[.int .i64 a0_0, .slice A0_1 l0_1.length c0_1] 58 (0, 0)) (by (with_reducible repeat (first | refine blk_drewN ?_ _ | refine blk_drew ?_ | refine blk_alloc ?_ _)); exact BK243.out) hb); have n6_ := Aside0.mk (blk_below (g := gb254) (o := .cells #[.int .i64 t249, .slice Ao23 t250.length co23] 25 (0, 0)) (by (with_reducible repeat (first | refine blk_drewN ?_ _ | refine blk_drew ?_ | refine blk_alloc ?_ _)); exact BK254.out) hb); have n7_ := Aside0.mk (blk_below (g := gb259) (o := .cells #[.int .i64 t255, .slice Ao30 t273.length co30] 45 (0, 0)) (by (with_reducible repeat (first | refine blk_drewN ?_ _ | refine blk_drew ?_ | refine blk_alloc ?_ _)); exact BK259.out) hb); have n8_ := Aside0.mk (blk_below (g := gb265) (o := .cells #[.int .i64 t260, .slice Ao37 t261.length co37] 25 (0, 0)) (by (with_reducible repeat (first | refine blk_drewN ?_ _ | refine blk_drew ?_ | refine blk_alloc ?_ _)); exact BK265.out) hb); have n9_ := Aside0.mk (below_step (by repeat (first | (with_reducible first | exact HB.out | apply bwA | apply bwN | apply bwD | refine below_set ?_ GE243.out | refine below_set ?_ GE254.out | refine below_set ?_ GE259.out | refine below_set ?_ GE265.out) | exact HB.out)) hb); clear HO_255001; clear HO_260001; clear HO_266001; clear HO281; clear BK243; clear BK254; clear BK259; clear BK265; clear HB; have HO_255001 := n0_; have HO_260001 := n1_; have HO_266001 := n2_; have HO281 := n3_; have HO285 := n4_; have BK243 := n5_; have BK254 := n6_; have BK259 := n7_; have BK265 := n8_; have HB := n9_; clear n0_ n1_ n2_ n3_ n4_ n5_ n6_ n7_ n8_ n9_; (try clear hb); (try clear hb2); (try clear hk); (try clear hi); (try clear ho0)) | ((with_reducible refine gate_dst (N := 14) rfl ?_); refine box_event ?hg (N := 14) ?hd (cs := #[.int .i64 0, .slice none 0 0]) (t := 25) ?hr ?_; (case hd => rfl); (case hg => rfl); (case hr => first | (go_simp; done) | (go_simp; rfl)); intro gb287 hg w118 hbox hb; have n0_ := Aside0.mk (Kd.R_below (by (with_reducible repeat (first | apply Kd.R_alloc | apply Kd.R_drewN | apply Kd.R_drew)); exact HO_255001.out) hb); have n1_ := Aside0.mk (Kd.R_below (by (with_reducible repeat (first | apply Kd.R_alloc | apply Kd.R_drewN | apply Kd.R_drew)); exact HO_260001.out) hb); have n2_ := Aside0.mk (Kd.R_below (by (with_reducible repeat (first | apply Kd.R_alloc | apply Kd.R_drewN | apply Kd.R_drew)); exact HO_266001.out) hb); have n3_ := Aside0.mk (Kd.R_below (by (with_reducible repeat (first | apply Kd.R_alloc | apply Kd.R_drewN | apply Kd.R_drew)); exact HO281.out) hb); have n4_ := Aside0.mk (Kd.R_below (by (with_reducible repeat (first | apply Kd.R_alloc | apply Kd.R_drewN | apply Kd.R_drew)); exact HO285.out) hb); have n5_ := Aside0.mk (blk_below (g := gb243) (o := .cells #[.int .i64 a0_0, .slice A0_1 l0_1.length c0_1] 58 (0, 0)) (by (with_reducible repeat (first | refine blk_drewN ?_ _ | refine blk_drew ?_ | refine blk_alloc ?_ _)); exact BK243.out) hb); have n6_ := Aside0.mk (blk_below (g := gb254) (o := .cells #[.int .i64 t249, .slice Ao23 t250.length co23] 25 (0, 0)) (by (with_reducible repeat (first | refine blk_drewN ?_ _ | refine blk_drew ?_ | refine blk_alloc ?_ _)); exact BK254.out) hb); have n7_ := Aside0.mk (blk_below (g := gb259) (o := .cells #[.int .i64 t255, .slice Ao30 t273.length co30] 45 (0, 0)) (by (with_reducible repeat (first | refine blk_drewN ?_ _ | refine blk_drew ?_ | refine blk_alloc ?_ _)); exact BK259.out) hb); have n8_ := Aside0.mk (blk_below (g := gb265) (o := .cells #[.int .i64 t260, .slice Ao37 t261.length co37] 25 (0, 0)) (by (with_reducible repeat (first | refine blk_drewN ?_ _ | refine blk_drew ?_ | refine blk_alloc ?_ _)); exact BK265.out) hb); have n9_ := Aside0.mk (below_step (by repeat (first | (with_reducible first | exact HB.out | apply bwA | apply bwN | apply bwD | refine below_set ?_ GE243.out | refine below_set ?_ GE254.out | refine below_set ?_ GE259.out | refine below_set ?_ GE265.out) | exact HB.out)) hb); have n10_ := Aside0.mk (hbox); have n11_ := Aside0.mk ((by rw [hg]; exact (below_size (by repeat (first | (with_reducible first | exact HB.out | apply bwA | apply bwN | apply bwD | refine below_set ?_ GE243.out | refine below_set ?_ GE254.out | refine below_set ?_ GE259.out | refine below_set ?_ GE265.out) | exact HB.out))) : w.heap.size ≤ gb287)); have n12_ := Aside0.mk ((by rw [hg]; exact (below_size (by repeat (first | (with_reducible first | exact HB.out | apply bwA | apply bwN | apply bwD | refine below_set ?_ GE243.out | refine below_set ?_ GE254.out | refine below_set ?_ GE259.out | refine below_set ?_ GE265.out) | exact HB.out))) : w.heap.size ≤ gb287)); have n13_ := Aside0.mk ((by rw [hg]; exact Nat.ne_of_lt (blk_lt (g := gb243) (o := .cells #[.int .i64 a0_0, .slice A0_1 l0_1.length c0_1] 58 (0, 0)) (by (with_reducible repeat (first | refine blk_drewN ?_ _ | refine blk_drew ?_ | refine blk_alloc ?_ _)); exact BK243.out)) : gb243 ≠ gb287)); have n14_ := Aside0.mk ((by rw [hg]; exact Nat.ne_of_gt (blk_lt (g := gb243) (o := .cells #[.int .i64 a0_0, .slice A0_1 l0_1.length c0_1] 58 (0, 0)) (by (with_reducible repeat (first | refine blk_drewN ?_ _ | refine blk_drew ?_ | refine blk_alloc ?_ _)); exact BK243.out)) : gb287 ≠ gb243)); have n15_ := Aside0.mk ((by rw [hg]; exact Nat.ne_of_lt (blk_lt (g := gb254) (o := .cells #[.int .i64 t249, .slice Ao23 t250.length co23] 25 (0, 0)) (by (with_reducible repeat (first | refine blk_drewN ?_ _ | refine blk_drew ?_ | refine blk_alloc ?_ _)); exact BK254.out)) : gb254 ≠ gb287)); have n16_ := Aside0.mk ((by rw [hg]; exact Nat.ne_of_gt (blk_lt (g := gb254) (o := .cells #[.int .i64 t249, .slice Ao23 t250.length co23] 25 (0, 0)) (by (with_reducible repeat (first | refine blk_drewN ?_ _ | refine blk_drew ?_ | refine blk_alloc ?_ _)); exact BK254.out)) : gb287 ≠ gb254)); have n17_ := Aside0.mk ((by rw [hg]; exact Nat.ne_of_lt (blk_lt (g := gb259) (o := .cells #[.int .i64 t255, .slice Ao30 t273.length co30] 45 (0, 0)) (by (with_reducible repeat (first | refine blk_drewN ?_ _ | refine blk_drew ?_ | refine blk_alloc ?_ _)); exact BK259.out)) : gb259 ≠ gb287)); have n18_ := Aside0.mk ((by rw [hg]; exact Nat.ne_of_gt (blk_lt (g := gb259) (o := .cells #[.int .i64 t255, .slice Ao30 t273.length co30] 45 (0, 0)) (by (with_reducible repeat (first | refine blk_drewN ?_ _ | refine blk_drew ?_ | refine blk_alloc ?_ _)); exact BK259.out)) : gb287 ≠ gb259)); have n19_ := Aside0.mk ((by rw [hg]; exact Nat.ne_of_lt (blk_lt (g := gb265) (o := .cells #[.int .i64 t260, .slice Ao37 t261.length co37] 25 (0, 0)) (by (with_reducible repeat (first | refine blk_drewN ?_ _ | refine blk_drew ?_ | refine blk_alloc ?_ _)); exact BK265.out)) : gb265 ≠ gb287)); have n20_ := Aside0.mk ((by rw [hg]; exact Nat.ne_of_gt (blk_lt (g := gb265) (o := .cells #[.int .i64 t260, .slice Ao37 t261.length co37] 25 (0, 0)) (by (with_reducible repeat (first | refine blk_drewN ?_ _ | refine blk_drew ?_ | refine blk_alloc ?_ _)); exact BK265.out)) : gb287 ≠ gb265)); clear HO_255001; clear HO_260001; clear HO_266001; clear HO281; clear HO285; clear BK243; clear BK254; clear BK259; clear BK265; clear HB; have HO_255001 := n0_; have HO_260001 := n1_; have HO_266001 := n2_; have HO281 := n3_; have HO285 := n4_; have BK243 := n5_; have BK254 := n6_; have BK259 := n7_; have BK265 := n8_; have HB := n9_; have BK287 := n10_; have GW287 := n11_; have GE287 := n12_; have NB243_287 := n13_; have NB287_243 := n14_; have NB254_287 := n15_; have NB287_254 := n16_; have NB259_287 := n17_; have NB287_259 := n18_; have NB265_287 := n19_; have NB287_265 := n20_; clear n0_ n1_ n2_ n3_ n4_ n5_ n6_ n7_ n8_ n9_ n10_ n11_ n12_ n13_ n14_ n15_ n16_ n17_ n18_ n19_ n20_; clear hb hbox hg; have hnb119 := NB287_243.out; have hnc119 := NB243_287.out; have hnb120 := NB287_254.out; have hnc120 := NB254_287.out; have hnb121 := NB287_259.out; have hnc121 := NB259_287.out; have hnb122 := NB287_265.out; have hnc122 := NB265_287.out; have hcz123_0 : w118.cell? ⟨gb287, 0, none⟩ = some (.int .i64 0) := (blk_cell BK287.out 0).trans rfl; have hcz123_1 : w118.cell? ⟨gb287, 1, none⟩ = some (.slice none 0 0) := (blk_cell BK287.out 1).trans rfl; have hfz123_0 := blk_frozen BK287.out 0; have hfz123_1 := blk_frozen BK287.out 1; obtain ⟨Ao124, co124, eo124⟩ := Kd.R_slice HO285.out; subst eo124))
           (try simp only [Act.put, List.setIfInBounds_toArray, List.set_cons_zero, List.set_cons_succ])
           go_cut [92] (fun v92 wc => ∃ (kq : Nat) (x92_103 : Bool), v92 = .bool x92_103 ∧ Aside0 (laws_FnExactDiagramOf.j2 kq t275 x92_103 t260 t276 = some r) ∧ Aside0 (kq ≤ kj60) ∧ Aside0 (Kd.R k71 71 wc w.heap.size (fun k_ => some k_ ≠ ((.slice Ao37 t261.length co37) : Value).ownBlock ∧ some k_ ≠ ((.slice Ao124 t283.length co124) : Value).ownBlock) (.slice Ao23 t250.length co23) t250) ∧ Aside0 (Kd.R k121 121 wc w.heap.size (fun _ => True) (.slice Ao30 t273.length co30) t273) ∧ Aside0 (Kd.R k71 71 wc w.heap.size (fun k_ => some k_ ≠ ((.slice Ao23 t250.length co23) : Value).ownBlock ∧ some k_ ≠ ((.slice Ao124 t283.length co124) : Value).ownBlock) (.slice Ao37 t261.length co37) t276) ∧ Aside0 (Kd.R k71 71 wc w.heap.size (fun k_ => some k_ ≠ ((.slice Ao23 t250.length co23) : Value).ownBlock ∧ some k_ ≠ ((.slice Ao37 t261.length co37) : Value).ownBlock) (.slice Ao124 t283.length co124) t283) ∧ Aside0 (wc.heap[gb243]? = some (.cells #[.int .i64 a0_0, (.slice A0_1 l0_1.length c0_1)] 58 (0, 0))) ∧ Aside0 (wc.heap[gb254]? = some (.cells #[.int .i64 t249, (.slice Ao23 t250.length co23)] 25 (0, 0))) ∧ Aside0 (wc.heap[gb259]? = some (.cells #[.int .i64 t255, (.slice Ao30 t273.length co30)] 45 (0, 0))) ∧ Aside0 (wc.heap[gb265]? = some (.cells #[.int .i64 t260, (.slice Ao37 t261.length co37)] 25 (0, 0))) ∧ Aside0 (wc.heap[gb287]? = some (.cells #[.int .i64 t282, (.slice Ao124 t283.length co124)] 25 (0, 0))) ∧ Aside0 (Below w.heap.size w wc))
           case first =>
            have H := HC104.out
            clear HC104
            replace H := Option.bind_eq_some_iff.mp H
            obtain ⟨t288, A1250, H⟩ := H
            replace H : (if t288 = true then (laws_FnExactDiagramOf.j2 kj60 t275 (t286 != t253) t260 t276) else (laws_FnExactDiagramOf.j2 kj60 t275 true t260 t276)) = some r := H
            have A125 := Aside0.mk A1250
            clear A1250
            by_cases c126 : t288 = true
            ·subst c126
             have H1 : (laws_FnExactDiagramOf.j2 kj60 t275 (t286 != t253) t260 t276) = some r := by rw [if_pos rfl] at H; exact H
             clear H
             have H := H1
             clear H1
             have H' := Aside0.mk H
             clear H
             have hnb127 := NB287_243.out
             have hnc127 := NB243_287.out
             have hnb128 := NB287_254.out
             have hnc128 := NB254_287.out
             have hnb129 := NB287_259.out
             have hnc129 := NB259_287.out
             have hnb130 := NB287_265.out
             have hnc130 := NB265_287.out
             have hcz131_0 : w118.cell? ⟨gb287, 0, none⟩ = some (.int .i64 0) := (blk_cell BK287.out 0).trans rfl
             have hcz131_1 : w118.cell? ⟨gb287, 1, none⟩ = some (.slice none 0 0) := (blk_cell BK287.out 1).trans rfl
             have hfz131_0 := blk_frozen BK287.out 0
             have hfz131_1 := blk_frozen BK287.out 1
             have hnb132 := NB254_243.out
             have hnc132 := NB243_254.out
             have hnb133 := NB254_259.out
             have hnc133 := NB259_254.out
             have hnb134 := NB254_265.out
             have hnc134 := NB265_254.out
             have hcz135_0 : w118.cell? ⟨gb254, 0, none⟩ = some (.int .i64 t249) := (blk_cell BK254.out 0).trans rfl
             have hcz135_1 : w118.cell? ⟨gb254, 1, none⟩ = some (.slice Ao23 t250.length co23) := (blk_cell BK254.out 1).trans rfl
             have hfz135_0 := blk_frozen BK254.out 0
             have hfz135_1 := blk_frozen BK254.out 1
             go_wp2_with (first | ((with_reducible refine gate_callee (f := 21) rfl ?_); refine goesL_ (some 86) rfl rfl Try.func21 (by kernel_rfl) rfl #[.agg #[.int .i64 t282, .slice Ao124 t283.length co124], .agg #[.int .i64 t249, .slice Ao23 t250.length co23]] rfl (by (try simp only [List.map_toArray, List.map_cons, List.map_nil]); first | done | rfl | (simp only [List.length_drop, List.length_take]; rfl)) ?_; (with_reducible refine (laws_eqDiagram.calls kj60 t282 _ _ t283 t249 _ _ t250 true _ ?side1 ?side2 ?side3 ?side4 A125.out).mono ?_); (case side1 => refine (Kd.R_reads' (e := 71) (base := w.heap.size) (ok := fun k_ => ((True ∧ some k_ ≠ (.slice Ao23 t250.length co23 : Value).ownBlock) ∧ some k_ ≠ (.slice Ao37 t261.length co37 : Value).ownBlock)) (n := t283.length) (c := co124) ?_).2.2; exact (by (with_reducible repeat (first | apply Kd.R_alloc | apply Kd.R_drewN | apply Kd.R_drew)); exact (Kd.R_mono (Kd.R_far (p := ⟨gb287, 1, none⟩) (Kd.R_far (p := ⟨gb287, 0, none⟩) (Kd.R_types HO285.out BK287.out (by decide)) (fun _ hk => hk.2) (.int .i64 t282)) (fun _ hk => hk.2) (.slice Ao124 t283.length co124)) (fun _ h_ => h_.1)))); (case side2 => exact (Kd.R_reads' HO285.out).2.1); (case side3 => refine (Kd.R_reads' (e := 71) (base := w.heap.size) (ok := fun k_ => (some k_ ≠ (.slice Ao37 t261.length co37 : Value).ownBlock ∧ some k_ ≠ (.slice Ao124 t283.length co124 : Value).ownBlock)) (n := t250.length) (c := co23) ?_).2.2; exact (by (with_reducible repeat (first | apply Kd.R_alloc | apply Kd.R_drewN | apply Kd.R_drew)); exact (Kd.R_mono (Kd.R_far (p := ⟨gb287, 1, none⟩) (Kd.R_far (p := ⟨gb287, 0, none⟩) (Kd.R_types HO_255001.out BK287.out (by decide)) (fun _ hk => hk.2) (.int .i64 t282)) (fun _ hk => hk.2) (.slice Ao124 t283.length co124)) (fun _ h_ => h_.1)))); (case side4 => exact (Kd.R_reads' HO_255001.out).2.1); rintro e w136 ⟨rfl, hb⟩; refine ⟨_, rfl, ?_⟩; have n0_ := Aside0.mk (Kd.R_below (by (with_reducible repeat (first | apply Kd.R_alloc | apply Kd.R_drewN | apply Kd.R_drew)); exact (Kd.R_mono (Kd.R_far (p := ⟨gb287, 1, none⟩) (Kd.R_far (p := ⟨gb287, 0, none⟩) (Kd.R_types HO_255001.out BK287.out (by decide)) (fun _ hk => hk.2) (.int .i64 t282)) (fun _ hk => hk.2) (.slice Ao124 t283.length co124)) (fun _ h_ => h_.1))) hb); have n1_ := Aside0.mk (Kd.R_below (by (with_reducible repeat (first | apply Kd.R_alloc | apply Kd.R_drewN | apply Kd.R_drew)); exact (Kd.R_mono (Kd.R_far (p := ⟨gb287, 1, none⟩) (Kd.R_far (p := ⟨gb287, 0, none⟩) (Kd.R_types HO_260001.out BK287.out (by decide)) (fun _ hk => hk.2) (.int .i64 t282)) (fun _ hk => hk.2) (.slice Ao124 t283.length co124)) (fun _ h_ => h_.1))) hb); have n2_ := Aside0.mk (Kd.R_below (by (with_reducible repeat (first | apply Kd.R_alloc | apply Kd.R_drewN | apply Kd.R_drew)); exact (Kd.R_mono (Kd.R_far (p := ⟨gb287, 1, none⟩) (Kd.R_far (p := ⟨gb287, 0, none⟩) (Kd.R_types HO_266001.out BK287.out (by decide)) (fun _ hk => hk.2) (.int .i64 t282)) (fun _ hk => hk.2) (.slice Ao124 t283.length co124)) (fun _ h_ => h_.1))) hb); have n3_ := Aside0.mk (Kd.R_below (by (with_reducible repeat (first | apply Kd.R_alloc | apply Kd.R_drewN | apply Kd.R_drew)); exact (Kd.R_mono (Kd.R_far (p := ⟨gb287, 1, none⟩) (Kd.R_far (p := ⟨gb287, 0, none⟩) (Kd.R_types HO281.out BK287.out (by decide)) (fun _ hk => hk.2) (.int .i64 t282)) (fun _ hk => hk.2) (.slice Ao124 t283.length co124)) (fun _ h_ => h_.1))) hb); have n4_ := Aside0.mk (Kd.R_below (by (with_reducible repeat (first | apply Kd.R_alloc | apply Kd.R_drewN | apply Kd.R_drew)); exact (Kd.R_mono (Kd.R_far (p := ⟨gb287, 1, none⟩) (Kd.R_far (p := ⟨gb287, 0, none⟩) (Kd.R_types HO285.out BK287.out (by decide)) (fun _ hk => hk.2) (.int .i64 t282)) (fun _ hk => hk.2) (.slice Ao124 t283.length co124)) (fun _ h_ => h_.1))) hb); have n5_ := Aside0.mk (blk_below (g := gb243) (o := .cells #[.int .i64 a0_0, .slice A0_1 l0_1.length c0_1] 58 (0, 0)) (by (with_reducible repeat (first | refine blk_drewN ?_ _ | refine blk_drew ?_ | refine blk_alloc ?_ _)); refine blk_far ?_ NB243_287.out _; (with_reducible repeat (first | refine blk_drewN ?_ _ | refine blk_drew ?_ | refine blk_alloc ?_ _)); refine blk_far ?_ NB243_287.out _; (with_reducible repeat (first | refine blk_drewN ?_ _ | refine blk_drew ?_ | refine blk_alloc ?_ _)); exact BK243.out) hb); have n6_ := Aside0.mk (blk_below (g := gb254) (o := .cells #[.int .i64 t249, .slice Ao23 t250.length co23] 25 (0, 0)) (by (with_reducible repeat (first | refine blk_drewN ?_ _ | refine blk_drew ?_ | refine blk_alloc ?_ _)); refine blk_far ?_ NB254_287.out _; (with_reducible repeat (first | refine blk_drewN ?_ _ | refine blk_drew ?_ | refine blk_alloc ?_ _)); refine blk_far ?_ NB254_287.out _; (with_reducible repeat (first | refine blk_drewN ?_ _ | refine blk_drew ?_ | refine blk_alloc ?_ _)); exact BK254.out) hb); have n7_ := Aside0.mk (blk_below (g := gb259) (o := .cells #[.int .i64 t255, .slice Ao30 t273.length co30] 45 (0, 0)) (by (with_reducible repeat (first | refine blk_drewN ?_ _ | refine blk_drew ?_ | refine blk_alloc ?_ _)); refine blk_far ?_ NB259_287.out _; (with_reducible repeat (first | refine blk_drewN ?_ _ | refine blk_drew ?_ | refine blk_alloc ?_ _)); refine blk_far ?_ NB259_287.out _; (with_reducible repeat (first | refine blk_drewN ?_ _ | refine blk_drew ?_ | refine blk_alloc ?_ _)); exact BK259.out) hb); have n8_ := Aside0.mk (blk_below (g := gb265) (o := .cells #[.int .i64 t260, .slice Ao37 t261.length co37] 25 (0, 0)) (by (with_reducible repeat (first | refine blk_drewN ?_ _ | refine blk_drew ?_ | refine blk_alloc ?_ _)); refine blk_far ?_ NB265_287.out _; (with_reducible repeat (first | refine blk_drewN ?_ _ | refine blk_drew ?_ | refine blk_alloc ?_ _)); refine blk_far ?_ NB265_287.out _; (with_reducible repeat (first | refine blk_drewN ?_ _ | refine blk_drew ?_ | refine blk_alloc ?_ _)); exact BK265.out) hb); have n9_ := Aside0.mk (blk_below (g := gb287) (o := .cells #[.int .i64 t282, .slice Ao124 t283.length co124] 25 (0, 0)) (by (with_reducible repeat (first | refine blk_drewN ?_ _ | refine blk_drew ?_ | refine blk_alloc ?_ _)); refine blk_put (cs := #[.int .i64 t282, .slice none 0 0]) ?_ 1 _ rfl; (with_reducible repeat (first | refine blk_drewN ?_ _ | refine blk_drew ?_ | refine blk_alloc ?_ _)); refine blk_put (cs := #[.int .i64 0, .slice none 0 0]) ?_ 0 _ rfl; (with_reducible repeat (first | refine blk_drewN ?_ _ | refine blk_drew ?_ | refine blk_alloc ?_ _)); exact BK287.out) hb); have n10_ := Aside0.mk (below_step (by repeat (first | (with_reducible first | exact HB.out | apply bwA | apply bwN | apply bwD | refine below_set ?_ GE243.out | refine below_set ?_ GE254.out | refine below_set ?_ GE259.out | refine below_set ?_ GE265.out | refine below_set ?_ GE287.out) | exact HB.out)) hb); clear HO_255001; clear HO_260001; clear HO_266001; clear HO281; clear HO285; clear BK243; clear BK254; clear BK259; clear BK265; clear BK287; clear HB; have HO_255001 := n0_; have HO_260001 := n1_; have HO_266001 := n2_; have HO281 := n3_; have HO285 := n4_; have BK243 := n5_; have BK254 := n6_; have BK259 := n7_; have BK265 := n8_; have BK287 := n9_; have HB := n10_; clear n0_ n1_ n2_ n3_ n4_ n5_ n6_ n7_ n8_ n9_ n10_; (try clear hb); (try clear hb2); (try clear hk); (try clear hi)))
             go_meet
             case rel => exact ⟨_, ((t286 != t253)), (by first | rfl | (simp; done) | (simp [*]; done)), H', ⟨by have := HJ11.out; have := HJ60.out; first | omega | exact Nat.le_refl _⟩, ⟨by (try simp only [hl260001_60]); (with_reducible repeat (first | apply Kd.R_alloc | apply Kd.R_drewN | apply Kd.R_drew)); exact HO_255001.out⟩, ⟨by (try simp only [hl260001_60]); (with_reducible repeat (first | apply Kd.R_alloc | apply Kd.R_drewN | apply Kd.R_drew)); exact Kd.R_mono HO_260001.out (fun _ hk => trivial)⟩, ⟨by (try simp only [hl260001_60]); (with_reducible repeat (first | apply Kd.R_alloc | apply Kd.R_drewN | apply Kd.R_drew)); exact HO_266001.out⟩, ⟨by (try simp only [hl260001_60]); (with_reducible repeat (first | apply Kd.R_alloc | apply Kd.R_drewN | apply Kd.R_drew)); exact Kd.R_mono HO285.out (fun _ hk => ⟨hk.1.2, hk.2⟩)⟩, ⟨by (try simp only [hl260001_60]); (with_reducible repeat (first | refine blk_drewN ?_ _ | refine blk_drew ?_ | refine blk_alloc ?_ _)); exact BK243.out⟩, ⟨by (try simp only [hl260001_60]); (with_reducible repeat (first | refine blk_drewN ?_ _ | refine blk_drew ?_ | refine blk_alloc ?_ _)); exact BK254.out⟩, ⟨by (try simp only [hl260001_60]); (with_reducible repeat (first | refine blk_drewN ?_ _ | refine blk_drew ?_ | refine blk_alloc ?_ _)); exact BK259.out⟩, ⟨by (try simp only [hl260001_60]); (with_reducible repeat (first | refine blk_drewN ?_ _ | refine blk_drew ?_ | refine blk_alloc ?_ _)); exact BK265.out⟩, ⟨by (try simp only [hl260001_60]); (with_reducible repeat (first | refine blk_drewN ?_ _ | refine blk_drew ?_ | refine blk_alloc ?_ _)); exact BK287.out⟩, ⟨by repeat (first | (with_reducible first | exact HB.out | apply bwA | apply bwN | apply bwD | refine below_set ?_ GE243.out | refine below_set ?_ GE254.out | refine below_set ?_ GE259.out | refine below_set ?_ GE265.out | refine below_set ?_ GE287.out) | exact HB.out)⟩⟩
            ·replace c126 := Bool.eq_false_iff.mpr c126
             subst c126
             have H1 : (laws_FnExactDiagramOf.j2 kj60 t275 true t260 t276) = some r := by rw [if_neg (show ¬ (false = true) by decide)] at H; exact H
             clear H
             have H := H1
             clear H1
             have H' := Aside0.mk H
             clear H
             have hnb137 := NB287_243.out
             have hnc137 := NB243_287.out
             have hnb138 := NB287_254.out
             have hnc138 := NB254_287.out
             have hnb139 := NB287_259.out
             have hnc139 := NB259_287.out
             have hnb140 := NB287_265.out
             have hnc140 := NB265_287.out
             have hcz141_0 : w118.cell? ⟨gb287, 0, none⟩ = some (.int .i64 0) := (blk_cell BK287.out 0).trans rfl
             have hcz141_1 : w118.cell? ⟨gb287, 1, none⟩ = some (.slice none 0 0) := (blk_cell BK287.out 1).trans rfl
             have hfz141_0 := blk_frozen BK287.out 0
             have hfz141_1 := blk_frozen BK287.out 1
             have hnb142 := NB254_243.out
             have hnc142 := NB243_254.out
             have hnb143 := NB254_259.out
             have hnc143 := NB259_254.out
             have hnb144 := NB254_265.out
             have hnc144 := NB265_254.out
             have hcz145_0 : w118.cell? ⟨gb254, 0, none⟩ = some (.int .i64 t249) := (blk_cell BK254.out 0).trans rfl
             have hcz145_1 : w118.cell? ⟨gb254, 1, none⟩ = some (.slice Ao23 t250.length co23) := (blk_cell BK254.out 1).trans rfl
             have hfz145_0 := blk_frozen BK254.out 0
             have hfz145_1 := blk_frozen BK254.out 1
             go_wp2_with (first | ((with_reducible refine gate_callee (f := 21) rfl ?_); refine goesL_ (some 86) rfl rfl Try.func21 (by kernel_rfl) rfl #[.agg #[.int .i64 t282, .slice Ao124 t283.length co124], .agg #[.int .i64 t249, .slice Ao23 t250.length co23]] rfl (by (try simp only [List.map_toArray, List.map_cons, List.map_nil]); first | done | rfl | (simp only [List.length_drop, List.length_take]; rfl)) ?_; (with_reducible refine (laws_eqDiagram.calls kj60 t282 _ _ t283 t249 _ _ t250 false _ ?side1 ?side2 ?side3 ?side4 A125.out).mono ?_); (case side1 => refine (Kd.R_reads' (e := 71) (base := w.heap.size) (ok := fun k_ => ((True ∧ some k_ ≠ (.slice Ao23 t250.length co23 : Value).ownBlock) ∧ some k_ ≠ (.slice Ao37 t261.length co37 : Value).ownBlock)) (n := t283.length) (c := co124) ?_).2.2; exact (by (with_reducible repeat (first | apply Kd.R_alloc | apply Kd.R_drewN | apply Kd.R_drew)); exact (Kd.R_mono (Kd.R_far (p := ⟨gb287, 1, none⟩) (Kd.R_far (p := ⟨gb287, 0, none⟩) (Kd.R_types HO285.out BK287.out (by decide)) (fun _ hk => hk.2) (.int .i64 t282)) (fun _ hk => hk.2) (.slice Ao124 t283.length co124)) (fun _ h_ => h_.1)))); (case side2 => exact (Kd.R_reads' HO285.out).2.1); (case side3 => refine (Kd.R_reads' (e := 71) (base := w.heap.size) (ok := fun k_ => (some k_ ≠ (.slice Ao37 t261.length co37 : Value).ownBlock ∧ some k_ ≠ (.slice Ao124 t283.length co124 : Value).ownBlock)) (n := t250.length) (c := co23) ?_).2.2; exact (by (with_reducible repeat (first | apply Kd.R_alloc | apply Kd.R_drewN | apply Kd.R_drew)); exact (Kd.R_mono (Kd.R_far (p := ⟨gb287, 1, none⟩) (Kd.R_far (p := ⟨gb287, 0, none⟩) (Kd.R_types HO_255001.out BK287.out (by decide)) (fun _ hk => hk.2) (.int .i64 t282)) (fun _ hk => hk.2) (.slice Ao124 t283.length co124)) (fun _ h_ => h_.1)))); (case side4 => exact (Kd.R_reads' HO_255001.out).2.1); rintro e w146 ⟨rfl, hb⟩; refine ⟨_, rfl, ?_⟩; have n0_ := Aside0.mk (Kd.R_below (by (with_reducible repeat (first | apply Kd.R_alloc | apply Kd.R_drewN | apply Kd.R_drew)); exact (Kd.R_mono (Kd.R_far (p := ⟨gb287, 1, none⟩) (Kd.R_far (p := ⟨gb287, 0, none⟩) (Kd.R_types HO_255001.out BK287.out (by decide)) (fun _ hk => hk.2) (.int .i64 t282)) (fun _ hk => hk.2) (.slice Ao124 t283.length co124)) (fun _ h_ => h_.1))) hb); have n1_ := Aside0.mk (Kd.R_below (by (with_reducible repeat (first | apply Kd.R_alloc | apply Kd.R_drewN | apply Kd.R_drew)); exact (Kd.R_mono (Kd.R_far (p := ⟨gb287, 1, none⟩) (Kd.R_far (p := ⟨gb287, 0, none⟩) (Kd.R_types HO_260001.out BK287.out (by decide)) (fun _ hk => hk.2) (.int .i64 t282)) (fun _ hk => hk.2) (.slice Ao124 t283.length co124)) (fun _ h_ => h_.1))) hb); have n2_ := Aside0.mk (Kd.R_below (by (with_reducible repeat (first | apply Kd.R_alloc | apply Kd.R_drewN | apply Kd.R_drew)); exact (Kd.R_mono (Kd.R_far (p := ⟨gb287, 1, none⟩) (Kd.R_far (p := ⟨gb287, 0, none⟩) (Kd.R_types HO_266001.out BK287.out (by decide)) (fun _ hk => hk.2) (.int .i64 t282)) (fun _ hk => hk.2) (.slice Ao124 t283.length co124)) (fun _ h_ => h_.1))) hb); have n3_ := Aside0.mk (Kd.R_below (by (with_reducible repeat (first | apply Kd.R_alloc | apply Kd.R_drewN | apply Kd.R_drew)); exact (Kd.R_mono (Kd.R_far (p := ⟨gb287, 1, none⟩) (Kd.R_far (p := ⟨gb287, 0, none⟩) (Kd.R_types HO281.out BK287.out (by decide)) (fun _ hk => hk.2) (.int .i64 t282)) (fun _ hk => hk.2) (.slice Ao124 t283.length co124)) (fun _ h_ => h_.1))) hb); have n4_ := Aside0.mk (Kd.R_below (by (with_reducible repeat (first | apply Kd.R_alloc | apply Kd.R_drewN | apply Kd.R_drew)); exact (Kd.R_mono (Kd.R_far (p := ⟨gb287, 1, none⟩) (Kd.R_far (p := ⟨gb287, 0, none⟩) (Kd.R_types HO285.out BK287.out (by decide)) (fun _ hk => hk.2) (.int .i64 t282)) (fun _ hk => hk.2) (.slice Ao124 t283.length co124)) (fun _ h_ => h_.1))) hb); have n5_ := Aside0.mk (blk_below (g := gb243) (o := .cells #[.int .i64 a0_0, .slice A0_1 l0_1.length c0_1] 58 (0, 0)) (by (with_reducible repeat (first | refine blk_drewN ?_ _ | refine blk_drew ?_ | refine blk_alloc ?_ _)); refine blk_far ?_ NB243_287.out _; (with_reducible repeat (first | refine blk_drewN ?_ _ | refine blk_drew ?_ | refine blk_alloc ?_ _)); refine blk_far ?_ NB243_287.out _; (with_reducible repeat (first | refine blk_drewN ?_ _ | refine blk_drew ?_ | refine blk_alloc ?_ _)); exact BK243.out) hb); have n6_ := Aside0.mk (blk_below (g := gb254) (o := .cells #[.int .i64 t249, .slice Ao23 t250.length co23] 25 (0, 0)) (by (with_reducible repeat (first | refine blk_drewN ?_ _ | refine blk_drew ?_ | refine blk_alloc ?_ _)); refine blk_far ?_ NB254_287.out _; (with_reducible repeat (first | refine blk_drewN ?_ _ | refine blk_drew ?_ | refine blk_alloc ?_ _)); refine blk_far ?_ NB254_287.out _; (with_reducible repeat (first | refine blk_drewN ?_ _ | refine blk_drew ?_ | refine blk_alloc ?_ _)); exact BK254.out) hb); have n7_ := Aside0.mk (blk_below (g := gb259) (o := .cells #[.int .i64 t255, .slice Ao30 t273.length co30] 45 (0, 0)) (by (with_reducible repeat (first | refine blk_drewN ?_ _ | refine blk_drew ?_ | refine blk_alloc ?_ _)); refine blk_far ?_ NB259_287.out _; (with_reducible repeat (first | refine blk_drewN ?_ _ | refine blk_drew ?_ | refine blk_alloc ?_ _)); refine blk_far ?_ NB259_287.out _; (with_reducible repeat (first | refine blk_drewN ?_ _ | refine blk_drew ?_ | refine blk_alloc ?_ _)); exact BK259.out) hb); have n8_ := Aside0.mk (blk_below (g := gb265) (o := .cells #[.int .i64 t260, .slice Ao37 t261.length co37] 25 (0, 0)) (by (with_reducible repeat (first | refine blk_drewN ?_ _ | refine blk_drew ?_ | refine blk_alloc ?_ _)); refine blk_far ?_ NB265_287.out _; (with_reducible repeat (first | refine blk_drewN ?_ _ | refine blk_drew ?_ | refine blk_alloc ?_ _)); refine blk_far ?_ NB265_287.out _; (with_reducible repeat (first | refine blk_drewN ?_ _ | refine blk_drew ?_ | refine blk_alloc ?_ _)); exact BK265.out) hb); have n9_ := Aside0.mk (blk_below (g := gb287) (o := .cells #[.int .i64 t282, .slice Ao124 t283.length co124] 25 (0, 0)) (by (with_reducible repeat (first | refine blk_drewN ?_ _ | refine blk_drew ?_ | refine blk_alloc ?_ _)); refine blk_put (cs := #[.int .i64 t282, .slice none 0 0]) ?_ 1 _ rfl; (with_reducible repeat (first | refine blk_drewN ?_ _ | refine blk_drew ?_ | refine blk_alloc ?_ _)); refine blk_put (cs := #[.int .i64 0, .slice none 0 0]) ?_ 0 _ rfl; (with_reducible repeat (first | refine blk_drewN ?_ _ | refine blk_drew ?_ | refine blk_alloc ?_ _)); exact BK287.out) hb); have n10_ := Aside0.mk (below_step (by repeat (first | (with_reducible first | exact HB.out | apply bwA | apply bwN | apply bwD | refine below_set ?_ GE243.out | refine below_set ?_ GE254.out | refine below_set ?_ GE259.out | refine below_set ?_ GE265.out | refine below_set ?_ GE287.out) | exact HB.out)) hb); clear HO_255001; clear HO_260001; clear HO_266001; clear HO281; clear HO285; clear BK243; clear BK254; clear BK259; clear BK265; clear BK287; clear HB; have HO_255001 := n0_; have HO_260001 := n1_; have HO_266001 := n2_; have HO281 := n3_; have HO285 := n4_; have BK243 := n5_; have BK254 := n6_; have BK259 := n7_; have BK265 := n8_; have BK287 := n9_; have HB := n10_; clear n0_ n1_ n2_ n3_ n4_ n5_ n6_ n7_ n8_ n9_ n10_; (try clear hb); (try clear hb2); (try clear hk); (try clear hi)))
             go_meet
             case rel => exact ⟨_, (true), (by first | rfl | (simp; done) | (simp [*]; done)), H', ⟨by have := HJ11.out; have := HJ60.out; first | omega | exact Nat.le_refl _⟩, ⟨by (try simp only [hl260001_60]); (with_reducible repeat (first | apply Kd.R_alloc | apply Kd.R_drewN | apply Kd.R_drew)); exact HO_255001.out⟩, ⟨by (try simp only [hl260001_60]); (with_reducible repeat (first | apply Kd.R_alloc | apply Kd.R_drewN | apply Kd.R_drew)); exact Kd.R_mono HO_260001.out (fun _ hk => trivial)⟩, ⟨by (try simp only [hl260001_60]); (with_reducible repeat (first | apply Kd.R_alloc | apply Kd.R_drewN | apply Kd.R_drew)); exact HO_266001.out⟩, ⟨by (try simp only [hl260001_60]); (with_reducible repeat (first | apply Kd.R_alloc | apply Kd.R_drewN | apply Kd.R_drew)); exact Kd.R_mono HO285.out (fun _ hk => ⟨hk.1.2, hk.2⟩)⟩, ⟨by (try simp only [hl260001_60]); (with_reducible repeat (first | refine blk_drewN ?_ _ | refine blk_drew ?_ | refine blk_alloc ?_ _)); exact BK243.out⟩, ⟨by (try simp only [hl260001_60]); (with_reducible repeat (first | refine blk_drewN ?_ _ | refine blk_drew ?_ | refine blk_alloc ?_ _)); exact BK254.out⟩, ⟨by (try simp only [hl260001_60]); (with_reducible repeat (first | refine blk_drewN ?_ _ | refine blk_drew ?_ | refine blk_alloc ?_ _)); exact BK259.out⟩, ⟨by (try simp only [hl260001_60]); (with_reducible repeat (first | refine blk_drewN ?_ _ | refine blk_drew ?_ | refine blk_alloc ?_ _)); exact BK265.out⟩, ⟨by (try simp only [hl260001_60]); (with_reducible repeat (first | refine blk_drewN ?_ _ | refine blk_drew ?_ | refine blk_alloc ?_ _)); exact BK287.out⟩, ⟨by repeat (first | (with_reducible first | exact HB.out | apply bwA | apply bwN | apply bwD | refine below_set ?_ GE243.out | refine below_set ?_ GE254.out | refine below_set ?_ GE259.out | refine below_set ?_ GE265.out | refine below_set ?_ GE287.out) | exact HB.out)⟩⟩
           case rest =>
            clear HC104
            try clear c1
            try clear c2
            try clear p2
            try clear c3
            try clear c4
            try clear c4b0
            try clear c5
            try clear c6
            try clear c7
            try clear c8
            try clear c9
            try clear c10
            try clear c11
            try clear c12
            try clear c13
            try clear c14
            try clear c21
            try clear c22
            try clear c23
            try clear c27
            try clear c28
            try clear c31
            try clear c32
            try clear c33
            try clear c34
            try clear c35
            try clear c38
            try clear c39
            try clear c40
            try clear c41
            try clear c42
            try clear c44
            try clear c45
            try clear c48
            try clear c49
            try clear c50
            try clear c52
            try clear c53
            try clear c56
            try clear c59
            try clear c66
            try clear c67
            try clear c68
            try clear c71
            try clear c71b0
            try clear c73
            try clear c74
            try clear c75
            try clear c76
            try clear c78
            try clear c79
            try clear c82
            try clear c83
            try clear c84
            try clear c86
            try clear c87
            try clear c90
            try clear c93
            try clear c93b0
            try clear c94
            try clear c95
            try clear c96
            try clear c101
            try clear c101b0
            try clear c101b1
            try clear c105
            try clear c106
            try clear c107
            try clear c112
            try clear c113
            try clear c119
            try clear c120
            try clear c121
            try clear c122
            try clear c126
            try clear c127
            try clear c128
            try clear c129
            try clear c130
            try clear c132
            try clear c133
            try clear c134
            try clear c137
            try clear c138
            try clear c139
            try clear c140
            try clear c142
            try clear c143
            try clear c144
            try clear hcz108_0
            try clear hcz108_1
            try clear hcz110_0
            try clear hcz110_1
            try clear hcz114_0
            try clear hcz114_1
            try clear hcz123_0
            try clear hcz123_1
            try clear hcz131_0
            try clear hcz131_1
            try clear hcz135_0
            try clear hcz135_1
            try clear hcz141_0
            try clear hcz141_1
            try clear hcz145_0
            try clear hcz145_1
            try clear hcz14_0
            try clear hcz14_1
            try clear hcz16_0
            try clear hcz16_1
            try clear hcz22_0
            try clear hcz22_1
            try clear hcz24_0
            try clear hcz24_1
            try clear hcz29_0
            try clear hcz29_1
            try clear hcz36_0
            try clear hcz36_1
            try clear hcz43_0
            try clear hcz43_1
            try clear hcz46_0
            try clear hcz46_1
            try clear hcz51_0
            try clear hcz51_1
            try clear hcz54_0
            try clear hcz54_1
            try clear hcz69_0
            try clear hcz69_1
            try clear hcz6_0
            try clear hcz6_1
            try clear hcz77_0
            try clear hcz77_1
            try clear hcz80_0
            try clear hcz80_1
            try clear hcz85_0
            try clear hcz85_1
            try clear hcz88_0
            try clear hcz88_1
            try clear hcz97_0
            try clear hcz97_1
            try clear hcz99_0
            try clear hcz99_1
            try clear hfz108_0
            try clear hfz108_1
            try clear hfz110_0
            try clear hfz110_1
            try clear hfz114_0
            try clear hfz114_1
            try clear hfz123_0
            try clear hfz123_1
            try clear hfz131_0
            try clear hfz131_1
            try clear hfz135_0
            try clear hfz135_1
            try clear hfz141_0
            try clear hfz141_1
            try clear hfz145_0
            try clear hfz145_1
            try clear hfz14_0
            try clear hfz14_1
            try clear hfz16_0
            try clear hfz16_1
            try clear hfz22_0
            try clear hfz22_1
            try clear hfz24_0
            try clear hfz24_1
            try clear hfz29_0
            try clear hfz29_1
            try clear hfz36_0
            try clear hfz36_1
            try clear hfz43_0
            try clear hfz43_1
            try clear hfz46_0
            try clear hfz46_1
            try clear hfz51_0
            try clear hfz51_1
            try clear hfz54_0
            try clear hfz54_1
            try clear hfz69_0
            try clear hfz69_1
            try clear hfz6_0
            try clear hfz6_1
            try clear hfz77_0
            try clear hfz77_1
            try clear hfz80_0
            try clear hfz80_1
            try clear hfz85_0
            try clear hfz85_1
            try clear hfz88_0
            try clear hfz88_1
            try clear hfz97_0
            try clear hfz97_1
            try clear hfz99_0
            try clear hfz99_1
            try clear p2
            obtain ⟨kq, x92_103, rfl, HA, HJ103, HO_255001, HO_260001, HO_266001, HO_288001, BK243, BK254, BK259, BK265, BK287, HB⟩ := hcut
            have hl266001_103 := (Kd.R_reads' HO_266001.out).1
            rw [hl266001_103] at HO_266001
            (try simp only [hl266001_103])
            (try simp only [hl266001_103] at BK243)
            (try simp only [hl266001_103] at BK254)
            (try simp only [hl266001_103] at BK259)
            (try simp only [hl266001_103] at BK265)
            (try simp only [hl266001_103] at BK287)
            (try simp only [hl266001_103] at HO_255001)
            (try simp only [hl266001_103] at HO_260001)
            (try simp only [hl266001_103] at HO_288001)
            cases kq with
            | zero => exact absurd HA.out (by simp [laws_FnExactDiagramOf.j2])
            | succ kj103 =>
             have H := HA.out
             clear HA
             simp only [laws_FnExactDiagramOf.j2] at H
             by_cases c147 : x92_103 = true
             ·subst c147
              have H1 : (some false) = some r := by rw [if_pos rfl] at H; exact H
              clear H
              have H := H1
              clear H1
              obtain rfl := Option.some.inj H
              go_wp2
              go_ret
              exact ⟨by first | rfl | (simp [errW_none, errW_some] <;> rfl) | (simp [*, errW_none, errW_some] <;> rfl), by repeat (first | (with_reducible first | exact HB.out | apply bwA | apply bwN | apply bwD | refine below_set ?_ GE243.out | refine below_set ?_ GE254.out | refine below_set ?_ GE259.out | refine below_set ?_ GE265.out | refine below_set ?_ GE287.out) | exact HB.out)⟩
             ·replace c147 := Bool.eq_false_iff.mpr c147
              subst c147
              have H1 : ((laws_heldDiagram.f kj103 t260 t276 1).bind fun t289 => (if t289 < 0 then (some false) else (if t289 = t275 then (some true) else (some false)))) = some r := by rw [if_neg (show ¬ (false = true) by decide)] at H; exact H
              clear H
              have H := H1
              clear H1
              replace H := Option.bind_eq_some_iff.mp H
              obtain ⟨t289, A1480, H⟩ := H
              replace H : (if t289 < 0 then (some false) else (if t289 = t275 then (some true) else (some false))) = some r := H
              have A148 := Aside0.mk A1480
              clear A1480
              by_cases c149 : t289 < 0
              ·rw [if_pos c149] at H
               have c149b0 : decide (t289 < 0) = true := decide_eq_true c149
               clear c149
               obtain rfl := Option.some.inj H
               have hnb150 := NB265_243.out
               have hnc150 := NB243_265.out
               have hnb151 := NB265_254.out
               have hnc151 := NB254_265.out
               have hnb152 := NB265_259.out
               have hnc152 := NB259_265.out
               have hnb153 := NB265_287.out
               have hnc153 := NB287_265.out
               have hcz154_0 : wc.cell? ⟨gb265, 0, none⟩ = some (.int .i64 t260) := (blk_cell BK265.out 0).trans rfl
               have hcz154_1 : wc.cell? ⟨gb265, 1, none⟩ = some (.slice Ao37 t276.length co37) := (blk_cell BK265.out 1).trans rfl
               have hfz154_0 := blk_frozen BK265.out 0
               have hfz154_1 := blk_frozen BK265.out 1
               go_wp2_with (first | ((with_reducible refine gate_callee (f := 23) rfl ?_); refine goesL_ (some 95) rfl rfl Try.func23 (by kernel_rfl) rfl #[.agg #[.int .i64 t260, .slice Ao37 t276.length co37], .int .i64 1] rfl (by (try simp only [List.map_toArray, List.map_cons, List.map_nil]); first | done | rfl | (simp only [List.length_drop, List.length_take]; rfl)) ?_; (with_reducible refine (laws_heldDiagram.calls kj103 t260 _ _ t276 1 t289 _ ?side1 ?side2 A148.out).mono ?_); (case side1 => repeat (first | exact (Kd.R_reads' HO_266001.out).2.2 | (with_reducible refine Kd.C_alloc ?_ _) | (with_reducible refine Kd.C_drewN ?_ _) | (with_reducible refine Kd.C_drew ?_))); (case side2 => exact (Kd.R_reads' HO_266001.out).2.1); rintro e w155 ⟨rfl, hb⟩; refine ⟨_, rfl, ?_⟩; have n0_ := Aside0.mk (Kd.R_below (by (with_reducible repeat (first | apply Kd.R_alloc | apply Kd.R_drewN | apply Kd.R_drew)); exact HO_255001.out) hb); have n1_ := Aside0.mk (Kd.R_below (by (with_reducible repeat (first | apply Kd.R_alloc | apply Kd.R_drewN | apply Kd.R_drew)); exact HO_260001.out) hb); have n2_ := Aside0.mk (Kd.R_below (by (with_reducible repeat (first | apply Kd.R_alloc | apply Kd.R_drewN | apply Kd.R_drew)); exact HO_266001.out) hb); have n3_ := Aside0.mk (Kd.R_below (by (with_reducible repeat (first | apply Kd.R_alloc | apply Kd.R_drewN | apply Kd.R_drew)); exact HO_288001.out) hb); have n4_ := Aside0.mk (blk_below (g := gb243) (o := .cells #[.int .i64 a0_0, .slice A0_1 l0_1.length c0_1] 58 (0, 0)) (by (with_reducible repeat (first | refine blk_drewN ?_ _ | refine blk_drew ?_ | refine blk_alloc ?_ _)); exact BK243.out) hb); have n5_ := Aside0.mk (blk_below (g := gb254) (o := .cells #[.int .i64 t249, .slice Ao23 t250.length co23] 25 (0, 0)) (by (with_reducible repeat (first | refine blk_drewN ?_ _ | refine blk_drew ?_ | refine blk_alloc ?_ _)); exact BK254.out) hb); have n6_ := Aside0.mk (blk_below (g := gb259) (o := .cells #[.int .i64 t255, .slice Ao30 t273.length co30] 45 (0, 0)) (by (with_reducible repeat (first | refine blk_drewN ?_ _ | refine blk_drew ?_ | refine blk_alloc ?_ _)); exact BK259.out) hb); have n7_ := Aside0.mk (blk_below (g := gb265) (o := .cells #[.int .i64 t260, .slice Ao37 t276.length co37] 25 (0, 0)) (by (with_reducible repeat (first | refine blk_drewN ?_ _ | refine blk_drew ?_ | refine blk_alloc ?_ _)); exact BK265.out) hb); have n8_ := Aside0.mk (blk_below (g := gb287) (o := .cells #[.int .i64 t282, .slice Ao124 t283.length co124] 25 (0, 0)) (by (with_reducible repeat (first | refine blk_drewN ?_ _ | refine blk_drew ?_ | refine blk_alloc ?_ _)); exact BK287.out) hb); have n9_ := Aside0.mk (below_step (by repeat (first | (with_reducible first | exact HB.out | apply bwA | apply bwN | apply bwD | refine below_set ?_ GE243.out | refine below_set ?_ GE254.out | refine below_set ?_ GE259.out | refine below_set ?_ GE265.out | refine below_set ?_ GE287.out) | exact HB.out)) hb); clear HO_255001; clear HO_260001; clear HO_266001; clear HO_288001; clear BK243; clear BK254; clear BK259; clear BK265; clear BK287; clear HB; have HO_255001 := n0_; have HO_260001 := n1_; have HO_266001 := n2_; have HO_288001 := n3_; have BK243 := n4_; have BK254 := n5_; have BK259 := n6_; have BK265 := n7_; have BK287 := n8_; have HB := n9_; clear n0_ n1_ n2_ n3_ n4_ n5_ n6_ n7_ n8_ n9_; (try clear hb); (try clear hb2); (try clear hk); (try clear hi)))
               go_ret
               exact ⟨by first | rfl | (simp [errW_none, errW_some] <;> rfl) | (simp [*, errW_none, errW_some] <;> rfl), by repeat (first | (with_reducible first | exact HB.out | apply bwA | apply bwN | apply bwD | refine below_set ?_ GE243.out | refine below_set ?_ GE254.out | refine below_set ?_ GE259.out | refine below_set ?_ GE265.out | refine below_set ?_ GE287.out) | exact HB.out)⟩
              ·rw [if_neg c149] at H
               have c149b0 : decide (t289 < 0) = false := decide_eq_false c149
               clear c149
               by_cases c156 : t289 = t275
               ·rw [if_pos c156] at H
                have c156b0 : (t289 == t275) = true := beq_iff_eq.mpr c156
                have c156b1 : (t289 != t275) = false := bne_eq_false_iff_eq.mpr c156
                clear c156
                obtain rfl := Option.some.inj H
                have hnb157 := NB265_243.out
                have hnc157 := NB243_265.out
                have hnb158 := NB265_254.out
                have hnc158 := NB254_265.out
                have hnb159 := NB265_259.out
                have hnc159 := NB259_265.out
                have hnb160 := NB265_287.out
                have hnc160 := NB287_265.out
                have hcz161_0 : wc.cell? ⟨gb265, 0, none⟩ = some (.int .i64 t260) := (blk_cell BK265.out 0).trans rfl
                have hcz161_1 : wc.cell? ⟨gb265, 1, none⟩ = some (.slice Ao37 t276.length co37) := (blk_cell BK265.out 1).trans rfl
                have hfz161_0 := blk_frozen BK265.out 0
                have hfz161_1 := blk_frozen BK265.out 1
                go_wp2_with (first | ((with_reducible refine gate_callee (f := 23) rfl ?_); refine goesL_ (some 95) rfl rfl Try.func23 (by kernel_rfl) rfl #[.agg #[.int .i64 t260, .slice Ao37 t276.length co37], .int .i64 1] rfl (by (try simp only [List.map_toArray, List.map_cons, List.map_nil]); first | done | rfl | (simp only [List.length_drop, List.length_take]; rfl)) ?_; (with_reducible refine (laws_heldDiagram.calls kj103 t260 _ _ t276 1 t289 _ ?side1 ?side2 A148.out).mono ?_); (case side1 => repeat (first | exact (Kd.R_reads' HO_266001.out).2.2 | (with_reducible refine Kd.C_alloc ?_ _) | (with_reducible refine Kd.C_drewN ?_ _) | (with_reducible refine Kd.C_drew ?_))); (case side2 => exact (Kd.R_reads' HO_266001.out).2.1); rintro e w162 ⟨rfl, hb⟩; refine ⟨_, rfl, ?_⟩; have n0_ := Aside0.mk (Kd.R_below (by (with_reducible repeat (first | apply Kd.R_alloc | apply Kd.R_drewN | apply Kd.R_drew)); exact HO_255001.out) hb); have n1_ := Aside0.mk (Kd.R_below (by (with_reducible repeat (first | apply Kd.R_alloc | apply Kd.R_drewN | apply Kd.R_drew)); exact HO_260001.out) hb); have n2_ := Aside0.mk (Kd.R_below (by (with_reducible repeat (first | apply Kd.R_alloc | apply Kd.R_drewN | apply Kd.R_drew)); exact HO_266001.out) hb); have n3_ := Aside0.mk (Kd.R_below (by (with_reducible repeat (first | apply Kd.R_alloc | apply Kd.R_drewN | apply Kd.R_drew)); exact HO_288001.out) hb); have n4_ := Aside0.mk (blk_below (g := gb243) (o := .cells #[.int .i64 a0_0, .slice A0_1 l0_1.length c0_1] 58 (0, 0)) (by (with_reducible repeat (first | refine blk_drewN ?_ _ | refine blk_drew ?_ | refine blk_alloc ?_ _)); exact BK243.out) hb); have n5_ := Aside0.mk (blk_below (g := gb254) (o := .cells #[.int .i64 t249, .slice Ao23 t250.length co23] 25 (0, 0)) (by (with_reducible repeat (first | refine blk_drewN ?_ _ | refine blk_drew ?_ | refine blk_alloc ?_ _)); exact BK254.out) hb); have n6_ := Aside0.mk (blk_below (g := gb259) (o := .cells #[.int .i64 t255, .slice Ao30 t273.length co30] 45 (0, 0)) (by (with_reducible repeat (first | refine blk_drewN ?_ _ | refine blk_drew ?_ | refine blk_alloc ?_ _)); exact BK259.out) hb); have n7_ := Aside0.mk (blk_below (g := gb265) (o := .cells #[.int .i64 t260, .slice Ao37 t276.length co37] 25 (0, 0)) (by (with_reducible repeat (first | refine blk_drewN ?_ _ | refine blk_drew ?_ | refine blk_alloc ?_ _)); exact BK265.out) hb); have n8_ := Aside0.mk (blk_below (g := gb287) (o := .cells #[.int .i64 t282, .slice Ao124 t283.length co124] 25 (0, 0)) (by (with_reducible repeat (first | refine blk_drewN ?_ _ | refine blk_drew ?_ | refine blk_alloc ?_ _)); exact BK287.out) hb); have n9_ := Aside0.mk (below_step (by repeat (first | (with_reducible first | exact HB.out | apply bwA | apply bwN | apply bwD | refine below_set ?_ GE243.out | refine below_set ?_ GE254.out | refine below_set ?_ GE259.out | refine below_set ?_ GE265.out | refine below_set ?_ GE287.out) | exact HB.out)) hb); clear HO_255001; clear HO_260001; clear HO_266001; clear HO_288001; clear BK243; clear BK254; clear BK259; clear BK265; clear BK287; clear HB; have HO_255001 := n0_; have HO_260001 := n1_; have HO_266001 := n2_; have HO_288001 := n3_; have BK243 := n4_; have BK254 := n5_; have BK259 := n6_; have BK265 := n7_; have BK287 := n8_; have HB := n9_; clear n0_ n1_ n2_ n3_ n4_ n5_ n6_ n7_ n8_ n9_; (try clear hb); (try clear hb2); (try clear hk); (try clear hi)))
                go_ret
                exact ⟨by first | rfl | (simp [errW_none, errW_some] <;> rfl) | (simp [*, errW_none, errW_some] <;> rfl), by repeat (first | (with_reducible first | exact HB.out | apply bwA | apply bwN | apply bwD | refine below_set ?_ GE243.out | refine below_set ?_ GE254.out | refine below_set ?_ GE259.out | refine below_set ?_ GE265.out | refine below_set ?_ GE287.out) | exact HB.out)⟩
               ·rw [if_neg c156] at H
                have c156b0 : (t289 == t275) = false := beq_eq_false_iff_ne.mpr c156
                have c156b1 : (t289 != t275) = true := bne_iff_ne.mpr c156
                obtain rfl := Option.some.inj H
                have hnb163 := NB265_243.out
                have hnc163 := NB243_265.out
                have hnb164 := NB265_254.out
                have hnc164 := NB254_265.out
                have hnb165 := NB265_259.out
                have hnc165 := NB259_265.out
                have hnb166 := NB265_287.out
                have hnc166 := NB287_265.out
                have hcz167_0 : wc.cell? ⟨gb265, 0, none⟩ = some (.int .i64 t260) := (blk_cell BK265.out 0).trans rfl
                have hcz167_1 : wc.cell? ⟨gb265, 1, none⟩ = some (.slice Ao37 t276.length co37) := (blk_cell BK265.out 1).trans rfl
                have hfz167_0 := blk_frozen BK265.out 0
                have hfz167_1 := blk_frozen BK265.out 1
                go_wp2_with (first | ((with_reducible refine gate_callee (f := 23) rfl ?_); refine goesL_ (some 95) rfl rfl Try.func23 (by kernel_rfl) rfl #[.agg #[.int .i64 t260, .slice Ao37 t276.length co37], .int .i64 1] rfl (by (try simp only [List.map_toArray, List.map_cons, List.map_nil]); first | done | rfl | (simp only [List.length_drop, List.length_take]; rfl)) ?_; (with_reducible refine (laws_heldDiagram.calls kj103 t260 _ _ t276 1 t289 _ ?side1 ?side2 A148.out).mono ?_); (case side1 => repeat (first | exact (Kd.R_reads' HO_266001.out).2.2 | (with_reducible refine Kd.C_alloc ?_ _) | (with_reducible refine Kd.C_drewN ?_ _) | (with_reducible refine Kd.C_drew ?_))); (case side2 => exact (Kd.R_reads' HO_266001.out).2.1); rintro e w168 ⟨rfl, hb⟩; refine ⟨_, rfl, ?_⟩; have n0_ := Aside0.mk (Kd.R_below (by (with_reducible repeat (first | apply Kd.R_alloc | apply Kd.R_drewN | apply Kd.R_drew)); exact HO_255001.out) hb); have n1_ := Aside0.mk (Kd.R_below (by (with_reducible repeat (first | apply Kd.R_alloc | apply Kd.R_drewN | apply Kd.R_drew)); exact HO_260001.out) hb); have n2_ := Aside0.mk (Kd.R_below (by (with_reducible repeat (first | apply Kd.R_alloc | apply Kd.R_drewN | apply Kd.R_drew)); exact HO_266001.out) hb); have n3_ := Aside0.mk (Kd.R_below (by (with_reducible repeat (first | apply Kd.R_alloc | apply Kd.R_drewN | apply Kd.R_drew)); exact HO_288001.out) hb); have n4_ := Aside0.mk (blk_below (g := gb243) (o := .cells #[.int .i64 a0_0, .slice A0_1 l0_1.length c0_1] 58 (0, 0)) (by (with_reducible repeat (first | refine blk_drewN ?_ _ | refine blk_drew ?_ | refine blk_alloc ?_ _)); exact BK243.out) hb); have n5_ := Aside0.mk (blk_below (g := gb254) (o := .cells #[.int .i64 t249, .slice Ao23 t250.length co23] 25 (0, 0)) (by (with_reducible repeat (first | refine blk_drewN ?_ _ | refine blk_drew ?_ | refine blk_alloc ?_ _)); exact BK254.out) hb); have n6_ := Aside0.mk (blk_below (g := gb259) (o := .cells #[.int .i64 t255, .slice Ao30 t273.length co30] 45 (0, 0)) (by (with_reducible repeat (first | refine blk_drewN ?_ _ | refine blk_drew ?_ | refine blk_alloc ?_ _)); exact BK259.out) hb); have n7_ := Aside0.mk (blk_below (g := gb265) (o := .cells #[.int .i64 t260, .slice Ao37 t276.length co37] 25 (0, 0)) (by (with_reducible repeat (first | refine blk_drewN ?_ _ | refine blk_drew ?_ | refine blk_alloc ?_ _)); exact BK265.out) hb); have n8_ := Aside0.mk (blk_below (g := gb287) (o := .cells #[.int .i64 t282, .slice Ao124 t283.length co124] 25 (0, 0)) (by (with_reducible repeat (first | refine blk_drewN ?_ _ | refine blk_drew ?_ | refine blk_alloc ?_ _)); exact BK287.out) hb); have n9_ := Aside0.mk (below_step (by repeat (first | (with_reducible first | exact HB.out | apply bwA | apply bwN | apply bwD | refine below_set ?_ GE243.out | refine below_set ?_ GE254.out | refine below_set ?_ GE259.out | refine below_set ?_ GE265.out | refine below_set ?_ GE287.out) | exact HB.out)) hb); clear HO_255001; clear HO_260001; clear HO_266001; clear HO_288001; clear BK243; clear BK254; clear BK259; clear BK265; clear BK287; clear HB; have HO_255001 := n0_; have HO_260001 := n1_; have HO_266001 := n2_; have HO_288001 := n3_; have BK243 := n4_; have BK254 := n5_; have BK259 := n6_; have BK265 := n7_; have BK287 := n8_; have HB := n9_; clear n0_ n1_ n2_ n3_ n4_ n5_ n6_ n7_ n8_ n9_; (try clear hb); (try clear hb2); (try clear hk); (try clear hi)))
                go_ret
                exact ⟨by first | rfl | (simp [errW_none, errW_some] <;> rfl) | (simp [*, errW_none, errW_some] <;> rfl), by repeat (first | (with_reducible first | exact HB.out | apply bwA | apply bwN | apply bwD | refine below_set ?_ GE243.out | refine below_set ?_ GE254.out | refine below_set ?_ GE259.out | refine below_set ?_ GE265.out | refine below_set ?_ GE287.out) | exact HB.out)⟩
          ·rw [if_neg c101] at H
           have c101b0 : (t277 == t275) = false := beq_eq_false_iff_ne.mpr c101
           have c101b1 : (t277 != t275) = true := bne_iff_ne.mpr c101
           obtain rfl := Option.some.inj H
           have hnb169 := NB265_243.out
           have hnc169 := NB243_265.out
           have hnb170 := NB265_254.out
           have hnc170 := NB254_265.out
           have hnb171 := NB265_259.out
           have hnc171 := NB259_265.out
           have hcz172_0 : wc.cell? ⟨gb265, 0, none⟩ = some (.int .i64 t260) := (blk_cell BK265.out 0).trans rfl
           have hcz172_1 : wc.cell? ⟨gb265, 1, none⟩ = some (.slice Ao37 t261.length co37) := (blk_cell BK265.out 1).trans rfl
           have hfz172_0 := blk_frozen BK265.out 0
           have hfz172_1 := blk_frozen BK265.out 1
           go_wp2_with (first | ((with_reducible refine gate_callee (f := 22) rfl ?_); refine goesL_ (some 68) rfl rfl Try.func22 (by kernel_rfl) rfl #[.agg #[.int .i64 t260, .slice Ao37 t261.length co37], .int .i64 1] rfl (by (try simp only [List.map_toArray, List.map_cons, List.map_nil]); first | done | rfl | (simp only [List.length_drop, List.length_take]; rfl)) ?_; (with_reducible refine (laws_markDiagram.calls kj60 t260 (fun k_ => some k_ = (.slice Ao37 t261.length co37 : Value).ownBlock) (.slice Ao37 t261.length co37) t261 1 t275 t276 w _ ?side1 ?side2 A91.out).mono ?_); (case side1 => repeat (first | (with_reducible first | exact HB.out | apply bwA | apply bwN | apply bwD | refine below_set ?_ GE243.out | refine below_set ?_ GE254.out | refine below_set ?_ GE259.out | refine below_set ?_ GE265.out) | exact HB.out)); (case side2 => exact Kd.R_tight rfl HO_266001.out); rintro e w173 ⟨rfl, hy0, hb, hkp⟩; refine ⟨_, rfl, ?_⟩; have n0_ := Aside0.mk (Kd.R_mono (ok' := fun k_ => some k_ ≠ (.slice Ao37 t261.length co37 : Value).ownBlock) (Kd.R_keptB (HO_255001.out) hkp (fun k_ hk_ hs_ => (hk_) hs_)) (fun k_ hk_ => hk_.1)); have n1_ := Aside0.mk (Kd.R_mono (ok' := fun k_ => True) (Kd.R_keptB ((Kd.R_apart' HO_260001.out (Kd.R_typed HO_266001.out) (by decide))) hkp (fun k_ hk_ hs_ => (hk_.2) hs_)) (fun k_ hk_ => trivial)); have n2_ := Aside0.mk (Kd.R_reok rfl hy0 (fun k_ e_ => HO_266001.out.1 k_ e_)); have n3_ := Aside0.mk (blk_kept (by (with_reducible repeat (first | refine blk_drewN ?_ _ | refine blk_drew ?_ | refine blk_alloc ?_ _)); exact BK243.out) hkp (fun hs_ => (fun e_ => (Kd.R_ne HO_266001.out BK243.out (by decide)) e_) hs_)); have n4_ := Aside0.mk (blk_kept (by (with_reducible repeat (first | refine blk_drewN ?_ _ | refine blk_drew ?_ | refine blk_alloc ?_ _)); exact BK254.out) hkp (fun hs_ => (fun e_ => (Kd.R_ne HO_266001.out BK254.out (by decide)) e_) hs_)); have n5_ := Aside0.mk (blk_kept (by (with_reducible repeat (first | refine blk_drewN ?_ _ | refine blk_drew ?_ | refine blk_alloc ?_ _)); exact BK259.out) hkp (fun hs_ => (fun e_ => (Kd.R_ne HO_266001.out BK259.out (by decide)) e_) hs_)); have n6_ := Aside0.mk (blk_kept (by (with_reducible repeat (first | refine blk_drewN ?_ _ | refine blk_drew ?_ | refine blk_alloc ?_ _)); exact BK265.out) hkp (fun hs_ => (fun e_ => (Kd.R_ne HO_266001.out BK265.out (by decide)) e_) hs_)); have n7_ := Aside0.mk (hb); clear HO_255001; clear HO_260001; clear HO_266001; clear BK243; clear BK254; clear BK259; clear BK265; clear HB; have HO_255001 := n0_; have HO_260001 := n1_; have HO_266001 := n2_; have BK243 := n3_; have BK254 := n4_; have BK259 := n5_; have BK265 := n6_; have HB := n7_; clear n0_ n1_ n2_ n3_ n4_ n5_ n6_ n7_; (try clear hb); (try clear hkp); (try clear hy0); have hcz174_0 : w173.cell? ⟨gb265, 0, none⟩ = some (.int .i64 t260) := (blk_cell BK265.out 0).trans rfl; have hcz174_1 : w173.cell? ⟨gb265, 1, none⟩ = some (.slice Ao37 t261.length co37) := (blk_cell BK265.out 1).trans rfl; have hfz174_0 := blk_frozen BK265.out 0; have hfz174_1 := blk_frozen BK265.out 1) | ((with_reducible refine gate_callee (f := 23) rfl ?_); refine goesL_ (some 71) rfl rfl Try.func23 (by kernel_rfl) rfl #[.agg #[.int .i64 t260, .slice Ao37 t276.length co37], .int .i64 1] rfl (by (try simp only [List.map_toArray, List.map_cons, List.map_nil]); first | done | (rw [show t276.length = t261.length from (Kd.R_reads' HO_266001.out).1.symm] <;> rfl) | rfl | (simp only [List.length_drop, List.length_take]; rfl)) ?_; (with_reducible refine (laws_heldDiagram.calls kj60 t260 _ _ t276 1 t277 _ ?side1 ?side2 A92.out).mono ?_); (case side1 => repeat (first | exact (Kd.R_reads' HO_266001.out).2.2 | (with_reducible refine Kd.C_alloc ?_ _) | (with_reducible refine Kd.C_drewN ?_ _) | (with_reducible refine Kd.C_drew ?_))); (case side2 => rw [show t276.length = t261.length from (Kd.R_reads' HO_266001.out).1.symm]; exact (Kd.R_reads' HO_266001.out).2.1); rintro e w175 ⟨rfl, hb⟩; refine ⟨_, rfl, ?_⟩; have n0_ := Aside0.mk (Kd.R_below (by (with_reducible repeat (first | apply Kd.R_alloc | apply Kd.R_drewN | apply Kd.R_drew)); exact HO_255001.out) hb); have n1_ := Aside0.mk (Kd.R_below (by (with_reducible repeat (first | apply Kd.R_alloc | apply Kd.R_drewN | apply Kd.R_drew)); exact HO_260001.out) hb); have n2_ := Aside0.mk (Kd.R_below (by (with_reducible repeat (first | apply Kd.R_alloc | apply Kd.R_drewN | apply Kd.R_drew)); exact HO_266001.out) hb); have n3_ := Aside0.mk (blk_below (g := gb243) (o := .cells #[.int .i64 a0_0, .slice A0_1 l0_1.length c0_1] 58 (0, 0)) (by (with_reducible repeat (first | refine blk_drewN ?_ _ | refine blk_drew ?_ | refine blk_alloc ?_ _)); exact BK243.out) hb); have n4_ := Aside0.mk (blk_below (g := gb254) (o := .cells #[.int .i64 t249, .slice Ao23 t250.length co23] 25 (0, 0)) (by (with_reducible repeat (first | refine blk_drewN ?_ _ | refine blk_drew ?_ | refine blk_alloc ?_ _)); exact BK254.out) hb); have n5_ := Aside0.mk (blk_below (g := gb259) (o := .cells #[.int .i64 t255, .slice Ao30 t273.length co30] 45 (0, 0)) (by (with_reducible repeat (first | refine blk_drewN ?_ _ | refine blk_drew ?_ | refine blk_alloc ?_ _)); exact BK259.out) hb); have n6_ := Aside0.mk (blk_below (g := gb265) (o := .cells #[.int .i64 t260, .slice Ao37 t261.length co37] 25 (0, 0)) (by (with_reducible repeat (first | refine blk_drewN ?_ _ | refine blk_drew ?_ | refine blk_alloc ?_ _)); exact BK265.out) hb); have n7_ := Aside0.mk (below_step (by repeat (first | (with_reducible first | exact HB.out | apply bwA | apply bwN | apply bwD | refine below_set ?_ GE243.out | refine below_set ?_ GE254.out | refine below_set ?_ GE259.out | refine below_set ?_ GE265.out) | exact HB.out)) hb); clear HO_255001; clear HO_260001; clear HO_266001; clear BK243; clear BK254; clear BK259; clear BK265; clear HB; have HO_255001 := n0_; have HO_260001 := n1_; have HO_266001 := n2_; have BK243 := n3_; have BK254 := n4_; have BK259 := n5_; have BK265 := n6_; have HB := n7_; clear n0_ n1_ n2_ n3_ n4_ n5_ n6_ n7_; (try clear hb); (try clear hb2); (try clear hk); (try clear hi)))
           go_ret
           exact ⟨by first | rfl | (simp [errW_none, errW_some] <;> rfl) | (simp [*, errW_none, errW_some] <;> rfl), by repeat (first | (with_reducible first | exact HB.out | apply bwA | apply bwN | apply bwD | refine below_set ?_ GE243.out | refine below_set ?_ GE254.out | refine below_set ?_ GE259.out | refine below_set ?_ GE265.out) | exact HB.out)⟩
     ·replace c59 := Bool.eq_false_iff.mpr c59
      subst c59
      have H1 : (some false) = some r := by rw [if_neg (show ¬ (false = true) by decide)] at H; exact H
      clear H
      have H := H1
      clear H1
      obtain rfl := Option.some.inj H
      try go_wp2
      have n0_ := Aside0.mk (Kd.R_drew HO_255001.out)
      have n1_ := Aside0.mk (Kd.R_drew HO_260001.out)
      have n2_ := Aside0.mk (Kd.R_drew HO_266001.out)
      have n3_ := Aside0.mk (blk_drew BK243.out)
      have n4_ := Aside0.mk (blk_drew BK254.out)
      have n5_ := Aside0.mk (blk_drew BK259.out)
      have n6_ := Aside0.mk (blk_drew BK265.out)
      have n7_ := Aside0.mk (below_drew1 HB.out)
      clear HO_255001
      clear HO_260001
      clear HO_266001
      clear BK243
      clear BK254
      clear BK259
      clear BK265
      clear HB
      have HO_255001 := n0_
      have HO_260001 := n1_
      have HO_266001 := n2_
      have BK243 := n3_
      have BK254 := n4_
      have BK259 := n5_
      have BK265 := n6_
      have HB := n7_
      clear n0_ n1_ n2_ n3_ n4_ n5_ n6_ n7_
      refine start_ (n := 5) (S := fun w' => w'.cell? ⟨gb259, 0, none⟩ = some (.int .i64 t255) ∧ w'.cell? ⟨gb259, 1, none⟩ = some (.slice Ao30 t256.length co30) ∧ w'.cell? ⟨gb243, 0, none⟩ = some (.int .i64 a0_0) ∧ w'.cell? ⟨gb243, 1, none⟩ = some (.slice A0_1 l0_1.length c0_1)) (ds := []) #[false, false, false, false, false] (by kernel_rfl) rfl rfl ⟨(blk_cell BK259.out 0).trans rfl, (blk_cell BK259.out 1).trans rfl, (blk_cell BK243.out 0).trans rfl, (blk_cell BK243.out 1).trans rfl⟩ (fun hHeld => ?_)
      generalize wc.drew = w176 at HO_255001 HO_260001 HO_266001 BK243 BK254 BK259 BK265 HB hHeld ⊢
      refine take_ (i := 0) (N := some 45) (v := ?_) (a' := ?_) #[true, false, false, false, false] rfl rfl (by kernel_rfl) (fun _ _ _ h => h) (Or.inl ⟨by rfl, ?_⟩) hHeld ?_ ?_
      rotate_left
      ·rintro w' ⟨s0, s1, s2, s3⟩
       go_simp
       with_reducible rfl
      rotate_left
      ·simp only [Act.put, List.setIfInBounds_toArray, List.set_cons_zero, List.set_cons_succ, i64_w, i32_w]
       rfl
      refine take_ (i := 1) (N := some 46) (v := ?_) (a' := ?_) #[true, true, false, false, false] rfl rfl (by kernel_rfl) (fun _ _ _ h => h) (Or.inl ⟨by rfl, ?_⟩) hHeld ?_ ?_
      rotate_left
      ·rintro w' ⟨s0, s1, s2, s3⟩
       go_simp
       with_reducible rfl
      rotate_left
      ·simp only [Act.put, List.setIfInBounds_toArray, List.set_cons_zero, List.set_cons_succ, i64_w, i32_w]
       rfl
      refine one_ (i := 2) (N := some 47) #[true, true, true, false, false] rfl rfl (by kernel_rfl) (by decide) (fun K hK => ?_)
      refine goes_ Try.func39 (by kernel_rfl) rfl #[.agg #[.int .i64 a0_0, .slice A0_1 l0_1.length c0_1]] (by rfl) rfl rfl (by (try simp only [List.map_toArray, List.map_cons, List.map_nil]); first | done | rfl | (simp only [List.length_drop, List.length_take]; rfl)) ?_
      with_reducible refine (laws_toCircuit.calls kj11 a0_0 _ _ l0_1 t267 t268 _ ?side1 ?side2 A57.out).mono ?_
      (case side1 => repeat (first | exact (Kd.C_below HR0_1.out HB.out) | (with_reducible refine Kd.C_alloc ?_ _) | (with_reducible refine Kd.C_drewN ?_ _) | (with_reducible refine Kd.C_drew ?_)))
      (case side2 => exact HC0_1.out)
      rintro e w177 ⟨v269, rfl, ho0, hb⟩
      refine ⟨_, rfl, ?_⟩
      have n0_ := Aside0.mk (Kd.R_below (by (with_reducible repeat (first | apply Kd.R_alloc | apply Kd.R_drewN | apply Kd.R_drew)); exact HO_255001.out) hb)
      have n1_ := Aside0.mk (Kd.R_elder' (by (with_reducible repeat (first | apply Kd.R_alloc | apply Kd.R_drewN | apply Kd.R_drew)); exact HO_260001.out) (Kd.R_base ho0) hb)
      have n2_ := Aside0.mk (Kd.R_below (by (with_reducible repeat (first | apply Kd.R_alloc | apply Kd.R_drewN | apply Kd.R_drew)); exact HO_266001.out) hb)
      have n3_ := Aside0.mk (Kd.R_lower (Kd.R_new' ho0 (Kd.R_lt (by (with_reducible repeat (first | apply Kd.R_alloc | apply Kd.R_drewN | apply Kd.R_drew)); exact HO_260001.out))) (below_size (by repeat (first | (with_reducible first | exact HB.out | apply bwA | apply bwN | apply bwD | refine below_set ?_ GE243.out | refine below_set ?_ GE254.out | refine below_set ?_ GE259.out | refine below_set ?_ GE265.out) | exact HB.out))))
      have n4_ := Aside0.mk (blk_below (g := gb243) (o := .cells #[.int .i64 a0_0, .slice A0_1 l0_1.length c0_1] 58 (0, 0)) (by (with_reducible repeat (first | refine blk_drewN ?_ _ | refine blk_drew ?_ | refine blk_alloc ?_ _)); exact BK243.out) hb)
      have n5_ := Aside0.mk (blk_below (g := gb254) (o := .cells #[.int .i64 t249, .slice Ao23 t250.length co23] 25 (0, 0)) (by (with_reducible repeat (first | refine blk_drewN ?_ _ | refine blk_drew ?_ | refine blk_alloc ?_ _)); exact BK254.out) hb)
      have n6_ := Aside0.mk (blk_below (g := gb259) (o := .cells #[.int .i64 t255, .slice Ao30 t256.length co30] 45 (0, 0)) (by (with_reducible repeat (first | refine blk_drewN ?_ _ | refine blk_drew ?_ | refine blk_alloc ?_ _)); exact BK259.out) hb)
      have n7_ := Aside0.mk (blk_below (g := gb265) (o := .cells #[.int .i64 t260, .slice Ao37 t261.length co37] 25 (0, 0)) (by (with_reducible repeat (first | refine blk_drewN ?_ _ | refine blk_drew ?_ | refine blk_alloc ?_ _)); exact BK265.out) hb)
      have n8_ := Aside0.mk (below_step (by repeat (first | (with_reducible first | exact HB.out | apply bwA | apply bwN | apply bwD | refine below_set ?_ GE243.out | refine below_set ?_ GE254.out | refine below_set ?_ GE259.out | refine below_set ?_ GE265.out) | exact HB.out)) hb)
      clear HO_255001
      clear HO_260001
      clear HO_266001
      clear BK243
      clear BK254
      clear BK259
      clear BK265
      clear HB
      have HO_255001 := n0_
      have HO_260001 := n1_
      have HO_266001 := n2_
      have HO270 := n3_
      have BK243 := n4_
      have BK254 := n5_
      have BK259 := n6_
      have BK265 := n7_
      have HB := n8_
      clear n0_ n1_ n2_ n3_ n4_ n5_ n6_ n7_ n8_
      (try clear hb)
      (try clear hb2)
      (try clear hk)
      (try clear hi)
      (try clear ho0)
      obtain ⟨Ao178, co178, eo178⟩ := Kd.R_slice HO270.out
      (first | subst eo178 | (injection eo178 with f1_ f2_ f3_; have f4_ := f1_.symm; have f5_ := f3_.symm; clear f1_ f2_ f3_; subst f4_; subst f5_))
      refine hK.out _ _ ⟨(blk_cell BK259.out 0).trans rfl, (blk_cell BK259.out 1).trans rfl, (blk_cell BK243.out 0).trans rfl, (blk_cell BK243.out 1).trans rfl⟩ (fun hHeld => ?_)
      clear hK K
      refine norm_ (a' := ?_) ?_ ?_
      rotate_left
      ·show Act.put _ (some 47) _ = _
       simp only [Act.put, List.setIfInBounds_toArray, List.set_cons_zero, List.set_cons_succ, i64_w, i32_w]
       rfl
      refine one_ (i := 3) (N := some 48) #[true, true, true, true, false] rfl rfl (by kernel_rfl) (by decide) (fun K hK => ?_)
      refine goes_ Try.func40 (by kernel_rfl) rfl #[.agg #[.int .i64 t255, .slice Ao30 t256.length co30], .agg #[.int .i64 t267, .slice Ao178 t268.length co178]] (by rfl) rfl rfl (by (try simp only [List.map_toArray, List.map_cons, List.map_nil]); first | done | rfl | (simp only [List.length_drop, List.length_take]; rfl)) ?_
      with_reducible refine (laws_eqCircuit.calls kj11 t255 _ _ t256 t267 _ _ t268 false _ ?side1 ?side2 ?side3 ?side4 A58.out).mono ?_
      (case side1 => repeat (first | exact (Kd.R_reads' HO_260001.out).2.2 | (with_reducible refine Kd.C_alloc ?_ _) | (with_reducible refine Kd.C_drewN ?_ _) | (with_reducible refine Kd.C_drew ?_)))
      (case side2 => exact (Kd.R_reads' HO_260001.out).2.1)
      (case side3 => repeat (first | exact (Kd.R_reads' HO270.out).2.2 | (with_reducible refine Kd.C_alloc ?_ _) | (with_reducible refine Kd.C_drewN ?_ _) | (with_reducible refine Kd.C_drew ?_)))
      (case side4 => exact (Kd.R_reads' HO270.out).2.1)
      rintro e w179 ⟨rfl, hb⟩
      refine ⟨_, rfl, ?_⟩
      have n0_ := Aside0.mk (Kd.R_below (by (with_reducible repeat (first | apply Kd.R_alloc | apply Kd.R_drewN | apply Kd.R_drew)); exact HO_255001.out) hb)
      have n1_ := Aside0.mk (Kd.R_below (by (with_reducible repeat (first | apply Kd.R_alloc | apply Kd.R_drewN | apply Kd.R_drew)); exact HO_260001.out) hb)
      have n2_ := Aside0.mk (Kd.R_below (by (with_reducible repeat (first | apply Kd.R_alloc | apply Kd.R_drewN | apply Kd.R_drew)); exact HO_266001.out) hb)
      have n3_ := Aside0.mk (Kd.R_below (by (with_reducible repeat (first | apply Kd.R_alloc | apply Kd.R_drewN | apply Kd.R_drew)); exact HO270.out) hb)
      have n4_ := Aside0.mk (blk_below (g := gb243) (o := .cells #[.int .i64 a0_0, .slice A0_1 l0_1.length c0_1] 58 (0, 0)) (by (with_reducible repeat (first | refine blk_drewN ?_ _ | refine blk_drew ?_ | refine blk_alloc ?_ _)); exact BK243.out) hb)
      have n5_ := Aside0.mk (blk_below (g := gb254) (o := .cells #[.int .i64 t249, .slice Ao23 t250.length co23] 25 (0, 0)) (by (with_reducible repeat (first | refine blk_drewN ?_ _ | refine blk_drew ?_ | refine blk_alloc ?_ _)); exact BK254.out) hb)
      have n6_ := Aside0.mk (blk_below (g := gb259) (o := .cells #[.int .i64 t255, .slice Ao30 t256.length co30] 45 (0, 0)) (by (with_reducible repeat (first | refine blk_drewN ?_ _ | refine blk_drew ?_ | refine blk_alloc ?_ _)); exact BK259.out) hb)
      have n7_ := Aside0.mk (blk_below (g := gb265) (o := .cells #[.int .i64 t260, .slice Ao37 t261.length co37] 25 (0, 0)) (by (with_reducible repeat (first | refine blk_drewN ?_ _ | refine blk_drew ?_ | refine blk_alloc ?_ _)); exact BK265.out) hb)
      have n8_ := Aside0.mk (below_step (by repeat (first | (with_reducible first | exact HB.out | apply bwA | apply bwN | apply bwD | refine below_set ?_ GE243.out | refine below_set ?_ GE254.out | refine below_set ?_ GE259.out | refine below_set ?_ GE265.out) | exact HB.out)) hb)
      clear HO_255001
      clear HO_260001
      clear HO_266001
      clear HO270
      clear BK243
      clear BK254
      clear BK259
      clear BK265
      clear HB
      have HO_255001 := n0_
      have HO_260001 := n1_
      have HO_266001 := n2_
      have HO270 := n3_
      have BK243 := n4_
      have BK254 := n5_
      have BK259 := n6_
      have BK265 := n7_
      have HB := n8_
      clear n0_ n1_ n2_ n3_ n4_ n5_ n6_ n7_ n8_
      (try clear hb)
      (try clear hb2)
      (try clear hk)
      (try clear hi)
      refine hK.out _ _ ⟨(blk_cell BK259.out 0).trans rfl, (blk_cell BK259.out 1).trans rfl, (blk_cell BK243.out 0).trans rfl, (blk_cell BK243.out 1).trans rfl⟩ (fun hHeld => ?_)
      clear hK K
      refine norm_ (a' := ?_) ?_ ?_
      rotate_left
      ·show Act.put _ (some 48) _ = _
       simp only [Act.put, List.setIfInBounds_toArray, List.set_cons_zero, List.set_cons_succ, i64_w, i32_w]
       rfl
      refine pure_ (i := 4) (N := some 49) (v := ?_) (a' := ?_) #[true, true, true, true, true] rfl rfl (by kernel_rfl) (fun _ _ _ h => h) (Or.inl ⟨by rfl, ?_⟩) ?_ ?_
      rotate_left
      ·intro w'
       go_simp
       with_reducible rfl
      rotate_left
      ·simp only [Act.put, List.setIfInBounds_toArray, List.set_cons_zero, List.set_cons_succ, i64_w, i32_w]
       rfl
      refine done_ (by kernel_rfl) ?_
      try go_wp2
      go_ret
      exact ⟨by first | rfl | (simp [errW_none, errW_some] <;> rfl) | (simp [*, errW_none, errW_some] <;> rfl), by repeat (first | (with_reducible first | exact HB.out | apply bwA | apply bwN | apply bwD | refine below_set ?_ GE243.out | refine below_set ?_ GE254.out | refine below_set ?_ GE259.out | refine below_set ?_ GE265.out) | exact HB.out)⟩
def GoodIi64 (x : Int) : Prop := (Lit.int .i64 x).wf = true
def GoodS126 (x : S126) : Prop := GoodIi64 x.f0 ∧ GoodIi64 x.f1
def GoodL4 (x : List (S126)) : Prop := (x.length ≤ maxLen ∧ ∀ x_ ∈ x, GoodS126 x_)
/-- THE ONE PURE STATEMENT of laws_FnExactDiagramOf. -/
def laws_FnExactDiagramOf.Pure : Prop := ∀ (a0_0 : Int) (l0_1 : List (S126)) (a1 : Int), GoodIi64 a0_0 → GoodL4 l0_1 → GoodIi64 a1 → ∃ k, laws_FnExactDiagramOf.f k a0_0 l0_1 a1 = some true
theorem laws_FnExactDiagramOf.walk (P : laws_FnExactDiagramOf.Pure) (a0_0 : Int) (A0_1 : Option Addr) (c0_1 : Nat) (l0_1 : List (S126)) (a1 : Int) (w : World) (hr0_1 : Kd.C k126 w A0_1 l0_1.length l0_1) (hc0_1 : l0_1.length ≤ c0_1) (g0_0 : GoodIi64 a0_0) (g0_1 : GoodL4 l0_1) (g1 : GoodIi64 a1) :
  Calls Try.prog 11 #[.agg #[.int .i64 a0_0, .slice A0_1 l0_1.length c0_1], .int .i64 a1] w fun e w' => e = .returned (.bool true) ∧ Below w.heap.size w w' := by
 obtain ⟨k, h⟩ := P a0_0 l0_1 a1 g0_0 g0_1 g1
 refine (laws_FnExactDiagramOf.calls k a0_0 _ _ l0_1 a1 true w hr0_1 hc0_1 h).mono ?_
 rintro e w' ⟨rfl, hd⟩
 exact ⟨rfl, hd⟩

end Go.Proofs.Ytpcompnmadpljaa.QFnExactDiagramOf
