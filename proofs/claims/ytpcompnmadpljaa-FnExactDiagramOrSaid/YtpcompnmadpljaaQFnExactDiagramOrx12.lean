-- Written by a program of this session (mk.py). Lean checks it.
import Derived.Test.YtpcompnmadpljaaQFnExactDiagramOrx0
import Derived.Test.YtpcompnmadpljaaQFnExactDiagramOrx2
import Derived.Test.YtpcompnmadpljaaQFnExactDiagramOrx3
import Derived.Test.YtpcompnmadpljaaQFnExactDiagramOrx6
import Derived.Test.YtpcompnmadpljaaQFnExactDiagramOrx11
namespace Go.Proofs.Ytpcompnmadpljaa.QFnExactDiagramOr
open Go.RowKit Go.Proofs.YtpcompnmadpljaaW.PrintWords Go.Proofs.YtpcompnmadpljaaW.PrintLast Go.Proofs.YtpcompnmadpljaaW.PrintMore
attribute [local go_sem] max2_int min2_int max_two min_two max_three min_three max_four min_four   -- for this text's walks alone
set_option linter.unusedVariables false
set_option linter.unusedSimpArgs false

/-! ### laws_FnExactDiagramOr: function 9 -/
mutual
def laws_FnExactDiagramOr.j0 : Nat → Int → Int → Int → Int → Bool → Int → List (S116) → Int → List (S71) → Int → List (S71) → Int → List (S71) → Option (Bool)
 | 0, _, _, _, _, _, _, _, _, _, _, _, _, _ => none
 | k + 1, x1, x2, x9, x12, x48, x214000, x214001, x225000, x225001, x230000, x230001, x236000, x236001 => if x48 = true then (some false) else ((laws_toDiagram.f k x214000 x214001).bind fun bt237 => ((laws_eqDiagram.f k x230000 x230001 bt237.1 bt237.2).bind fun t241 => (if t241 = true then ((laws_markDiagram.f k x230000 x230001 1).bind fun bt242 => (if bt242.1 < 0 then (laws_FnExactDiagramOr.j1 k x1 x2 x9 true x214000 x214001 x225000 x225001 x236000 x236001) else ((laws_eqDiagram.f k x236000 x236001 x225000 x225001).bind fun t244 => (if t244 = true then (laws_FnExactDiagramOr.j1 k x1 x2 x9 (x12 != x9) x214000 x214001 x225000 x225001 x236000 x236001) else (laws_FnExactDiagramOr.j1 k x1 x2 x9 true x214000 x214001 x225000 x225001 x236000 x236001))))) else (some false))))
def laws_FnExactDiagramOr.j1 : Nat → Int → Int → Int → Bool → Int → List (S116) → Int → List (S71) → Int → List (S71) → Option (Bool)
 | 0, _, _, _, _, _, _, _, _, _, _ => none
 | k + 1, x1, x2, x9, x69, x214000, x214001, x225000, x225001, x236000, x236001 => if x69 = true then (some false) else ((laws_markDiagram.f k x236000 x236001 1).bind fun bt245 => ((laws_heldDiagram.f k x236000 bt245.2 1).bind fun t247 => (if t247 < 0 then (some false) else (if t247 = bt245.1 then ((laws_toDiagram.f k x214000 x214001).bind fun bt248 => ((impl_DiagramOr.f k bt248.1 bt248.2 x1 x2).bind fun bt252 => ((laws_eqDiagram.f k bt252.1 bt252.2.1 x225000 x225001).bind fun t258 => (if t258 = true then (laws_FnExactDiagramOr.j2 k bt245.1 (bt252.2.2 != x9) x236000 bt245.2) else (laws_FnExactDiagramOr.j2 k bt245.1 true x236000 bt245.2))))) else (some false)))))
def laws_FnExactDiagramOr.j2 : Nat → Int → Bool → Int → List (S71) → Option (Bool)
 | 0, _, _, _, _ => none
 | k + 1, x14, x97, x236000, x236001 => if x97 = true then (some false) else ((laws_heldDiagram.f k x236000 x236001 1).bind fun t259 => (if t259 < 0 then (some false) else (if t259 = x14 then (some true) else (some false))))
end
def laws_FnExactDiagramOr.f (k : Nat) (a0_0 : Int) (l0_1 : List (S116)) (a1 : Int) (a2 : Int) : Option (Bool) := (laws_szDiagram.f a0_0 l0_1 1048576).bind fun t214 => (if t214 < 0 then (some true) else ((laws_toDiagram.f k a0_0 l0_1).bind fun bt215 => ((spec_DiagramOr.f k bt215.1 bt215.2 a1 a2).bind fun bt219 => ((laws_toDiagram.f k a0_0 l0_1).bind fun bt225 => ((impl_DiagramOr.f k bt225.1 bt225.2 a1 a2).bind fun bt230 => ((laws_eqDiagram.f k bt230.1 bt230.2.1 bt219.1 bt219.2.1).bind fun t236 => (if t236 = true then (laws_FnExactDiagramOr.j0 k a1 a2 bt219.2.2 bt230.2.2 (bt230.2.2 != bt219.2.2) a0_0 l0_1 bt219.1 bt219.2.1 bt225.1 bt225.2 bt230.1 bt230.2.1) else (laws_FnExactDiagramOr.j0 k a1 a2 bt219.2.2 bt230.2.2 true a0_0 l0_1 bt219.1 bt219.2.1 bt225.1 bt225.2 bt230.1 bt230.2.1))))))))
theorem laws_FnExactDiagramOr.mono_l : ∀ k, (∀ y0 y1 y2 y3 y4 y5 y6 y7 y8 y9 y10 y11 y12, LeO (laws_FnExactDiagramOr.j0 k y0 y1 y2 y3 y4 y5 y6 y7 y8 y9 y10 y11 y12) (laws_FnExactDiagramOr.j0 (k + 1) y0 y1 y2 y3 y4 y5 y6 y7 y8 y9 y10 y11 y12)) ∧ (∀ y0 y1 y2 y3 y4 y5 y6 y7 y8 y9, LeO (laws_FnExactDiagramOr.j1 k y0 y1 y2 y3 y4 y5 y6 y7 y8 y9) (laws_FnExactDiagramOr.j1 (k + 1) y0 y1 y2 y3 y4 y5 y6 y7 y8 y9)) ∧ (∀ y0 y1 y2 y3, LeO (laws_FnExactDiagramOr.j2 k y0 y1 y2 y3) (laws_FnExactDiagramOr.j2 (k + 1) y0 y1 y2 y3))
 | 0 => ⟨fun _ _ _ _ _ _ _ _ _ _ _ _ _ r h => by simp [laws_FnExactDiagramOr.j0] at h, fun _ _ _ _ _ _ _ _ _ _ r h => by simp [laws_FnExactDiagramOr.j1] at h, fun _ _ _ _ r h => by simp [laws_FnExactDiagramOr.j2] at h⟩
 | k + 1 => by
  obtain ⟨ih0, ih1, ih2⟩ := laws_FnExactDiagramOr.mono_l k
  refine ⟨?_, ?_, ?_⟩
  ·intro y0 y1 y2 y3 y4 y5 y6 y7 y8 y9 y10 y11 y12
   unfold laws_FnExactDiagramOr.j0
   repeat' first
   | (with_reducible exact ih0 _ _ _ _ _ _ _ _ _ _ _ _ _)
   | (with_reducible exact ih1 _ _ _ _ _ _ _ _ _ _)
   | (with_reducible exact ih2 _ _ _ _)
   | (with_reducible exact impl_DiagramOr.mono _ _ _ _ _)
   | (with_reducible exact laws_eqDiagram.mono _ _ _ _ _)
   | (with_reducible exact laws_heldDiagram.mono _ _ _ _)
   | (with_reducible exact laws_markDiagram.mono _ _ _ _)
   | (with_reducible exact laws_toDiagram.mono _ _ _)
   | (with_reducible exact spec_DiagramOr.mono _ _ _ _ _)
   | (with_reducible exact LeO.refl _)
   | (with_reducible exact LeO.none _)
   | (with_reducible refine LeO.ite ?_ ?_)
   | (with_reducible refine LeO.bind ?_ (fun _ => ?_))
   | exact ih0 _ _ _ _ _ _ _ _ _ _ _ _ _
   | exact ih1 _ _ _ _ _ _ _ _ _ _
   | exact ih2 _ _ _ _
   | exact impl_DiagramOr.mono _ _ _ _ _
   | exact laws_eqDiagram.mono _ _ _ _ _
   | exact laws_heldDiagram.mono _ _ _ _
   | exact laws_markDiagram.mono _ _ _ _
   | exact laws_toDiagram.mono _ _ _
   | exact spec_DiagramOr.mono _ _ _ _ _
   | exact LeO.none _
   | refine LeO.ite ?_ ?_
   | refine LeO.bind ?_ (fun _ => ?_)
  ·intro y0 y1 y2 y3 y4 y5 y6 y7 y8 y9
   unfold laws_FnExactDiagramOr.j1
   repeat' first
   | (with_reducible exact ih0 _ _ _ _ _ _ _ _ _ _ _ _ _)
   | (with_reducible exact ih1 _ _ _ _ _ _ _ _ _ _)
   | (with_reducible exact ih2 _ _ _ _)
   | (with_reducible exact impl_DiagramOr.mono _ _ _ _ _)
   | (with_reducible exact laws_eqDiagram.mono _ _ _ _ _)
   | (with_reducible exact laws_heldDiagram.mono _ _ _ _)
   | (with_reducible exact laws_markDiagram.mono _ _ _ _)
   | (with_reducible exact laws_toDiagram.mono _ _ _)
   | (with_reducible exact spec_DiagramOr.mono _ _ _ _ _)
   | (with_reducible exact LeO.refl _)
   | (with_reducible exact LeO.none _)
   | (with_reducible refine LeO.ite ?_ ?_)
   | (with_reducible refine LeO.bind ?_ (fun _ => ?_))
   | exact ih0 _ _ _ _ _ _ _ _ _ _ _ _ _
   | exact ih1 _ _ _ _ _ _ _ _ _ _
   | exact ih2 _ _ _ _
   | exact impl_DiagramOr.mono _ _ _ _ _
   | exact laws_eqDiagram.mono _ _ _ _ _
   | exact laws_heldDiagram.mono _ _ _ _
   | exact laws_markDiagram.mono _ _ _ _
   | exact laws_toDiagram.mono _ _ _
   | exact spec_DiagramOr.mono _ _ _ _ _
   | exact LeO.none _
   | refine LeO.ite ?_ ?_
   | refine LeO.bind ?_ (fun _ => ?_)
  ·intro y0 y1 y2 y3
   unfold laws_FnExactDiagramOr.j2
   repeat' first
   | (with_reducible exact ih0 _ _ _ _ _ _ _ _ _ _ _ _ _)
   | (with_reducible exact ih1 _ _ _ _ _ _ _ _ _ _)
   | (with_reducible exact ih2 _ _ _ _)
   | (with_reducible exact impl_DiagramOr.mono _ _ _ _ _)
   | (with_reducible exact laws_eqDiagram.mono _ _ _ _ _)
   | (with_reducible exact laws_heldDiagram.mono _ _ _ _)
   | (with_reducible exact laws_markDiagram.mono _ _ _ _)
   | (with_reducible exact laws_toDiagram.mono _ _ _)
   | (with_reducible exact spec_DiagramOr.mono _ _ _ _ _)
   | (with_reducible exact LeO.refl _)
   | (with_reducible exact LeO.none _)
   | (with_reducible refine LeO.ite ?_ ?_)
   | (with_reducible refine LeO.bind ?_ (fun _ => ?_))
   | exact ih0 _ _ _ _ _ _ _ _ _ _ _ _ _
   | exact ih1 _ _ _ _ _ _ _ _ _ _
   | exact ih2 _ _ _ _
   | exact impl_DiagramOr.mono _ _ _ _ _
   | exact laws_eqDiagram.mono _ _ _ _ _
   | exact laws_heldDiagram.mono _ _ _ _
   | exact laws_markDiagram.mono _ _ _ _
   | exact laws_toDiagram.mono _ _ _
   | exact spec_DiagramOr.mono _ _ _ _ _
   | exact LeO.none _
   | refine LeO.ite ?_ ?_
   | refine LeO.bind ?_ (fun _ => ?_)
theorem laws_FnExactDiagramOr.mono : ∀ a0 a1 a2 a3 k, LeO (laws_FnExactDiagramOr.f k a0 a1 a2 a3) (laws_FnExactDiagramOr.f (k + 1) a0 a1 a2 a3) := by
 intro a0 a1 a2 a3 k
 obtain ⟨ih0, ih1, ih2⟩ := laws_FnExactDiagramOr.mono_l k
 unfold laws_FnExactDiagramOr.f
 repeat' first
   | (with_reducible exact ih0 _ _ _ _ _ _ _ _ _ _ _ _ _)
   | (with_reducible exact ih1 _ _ _ _ _ _ _ _ _ _)
   | (with_reducible exact ih2 _ _ _ _)
   | (with_reducible exact impl_DiagramOr.mono _ _ _ _ _)
   | (with_reducible exact laws_eqDiagram.mono _ _ _ _ _)
   | (with_reducible exact laws_heldDiagram.mono _ _ _ _)
   | (with_reducible exact laws_markDiagram.mono _ _ _ _)
   | (with_reducible exact laws_toDiagram.mono _ _ _)
   | (with_reducible exact spec_DiagramOr.mono _ _ _ _ _)
   | (with_reducible exact LeO.refl _)
   | (with_reducible exact LeO.none _)
   | (with_reducible refine LeO.ite ?_ ?_)
   | (with_reducible refine LeO.bind ?_ (fun _ => ?_))
   | exact ih0 _ _ _ _ _ _ _ _ _ _ _ _ _
   | exact ih1 _ _ _ _ _ _ _ _ _ _
   | exact ih2 _ _ _ _
   | exact impl_DiagramOr.mono _ _ _ _ _
   | exact laws_eqDiagram.mono _ _ _ _ _
   | exact laws_heldDiagram.mono _ _ _ _
   | exact laws_markDiagram.mono _ _ _ _
   | exact laws_toDiagram.mono _ _ _
   | exact spec_DiagramOr.mono _ _ _ _ _
   | exact LeO.none _
   | refine LeO.ite ?_ ?_
   | refine LeO.bind ?_ (fun _ => ?_)
set_option maxHeartbeats 8000000 in
set_option maxRecDepth 100000 in
theorem laws_FnExactDiagramOr.calls (k : Nat) (a0_0 : Int) (A0_1 : Option Addr) (c0_1 : Nat) (l0_1 : List (S116)) (a1 : Int) (a2 : Int) (r : Bool) (w : World) (hr0_1 : Kd.C k116 w A0_1 l0_1.length l0_1) (hc0_1 : l0_1.length ≤ c0_1) (h : laws_FnExactDiagramOr.f k a0_0 l0_1 a1 a2 = some r) :
  Calls Try.prog 9 #[.agg #[.int .i64 a0_0, .slice A0_1 l0_1.length c0_1], .int .i64 a1, .int .i64 a2] w fun e w' => e = .returned (.bool r) ∧ Below w.heap.size w w' := by
 have hu34 := Try.underlying34
 have hu25 := Try.underlying25
 have HR0_1 := Aside0.mk hr0_1
 have HC0_1 := Aside0.mk hc0_1
 clear hr0_1 hc0_1
 have HB := Aside0.mk (Below.refl w.heap.size w)
 have H : ((laws_szDiagram.f a0_0 l0_1 1048576).bind fun t214 => (if t214 < 0 then (some true) else ((laws_toDiagram.f k a0_0 l0_1).bind fun bt215 => ((spec_DiagramOr.f k bt215.1 bt215.2 a1 a2).bind fun bt219 => ((laws_toDiagram.f k a0_0 l0_1).bind fun bt225 => ((impl_DiagramOr.f k bt225.1 bt225.2 a1 a2).bind fun bt230 => ((laws_eqDiagram.f k bt230.1 bt230.2.1 bt219.1 bt219.2.1).bind fun t236 => (if t236 = true then (laws_FnExactDiagramOr.j0 k a1 a2 bt219.2.2 bt230.2.2 (bt230.2.2 != bt219.2.2) a0_0 l0_1 bt219.1 bt219.2.1 bt225.1 bt225.2 bt230.1 bt230.2.1) else (laws_FnExactDiagramOr.j0 k a1 a2 bt219.2.2 bt230.2.2 true a0_0 l0_1 bt219.1 bt219.2.1 bt225.1 bt225.2 bt230.1 bt230.2.1))))))))) = some r := h
 clear h
 replace H := Option.bind_eq_some_iff.mp H
 obtain ⟨t214, A40, H⟩ := H
 replace H : (if t214 < 0 then (some true) else ((laws_toDiagram.f k a0_0 l0_1).bind fun bt215 => ((spec_DiagramOr.f k bt215.1 bt215.2 a1 a2).bind fun bt219 => ((laws_toDiagram.f k a0_0 l0_1).bind fun bt225 => ((impl_DiagramOr.f k bt225.1 bt225.2 a1 a2).bind fun bt230 => ((laws_eqDiagram.f k bt230.1 bt230.2.1 bt219.1 bt219.2.1).bind fun t236 => (if t236 = true then (laws_FnExactDiagramOr.j0 k a1 a2 bt219.2.2 bt230.2.2 (bt230.2.2 != bt219.2.2) a0_0 l0_1 bt219.1 bt219.2.1 bt225.1 bt225.2 bt230.1 bt230.2.1) else (laws_FnExactDiagramOr.j0 k a1 a2 bt219.2.2 bt230.2.2 true a0_0 l0_1 bt219.1 bt219.2.1 bt225.1 bt225.2 bt230.1 bt230.2.1)))))))) = some r := H
 have A4 := Aside0.mk A40
 clear A40
 by_cases c5 : t214 < 0
 ·rw [if_pos c5] at H
  have c5b0 : decide (t214 < 0) = true := decide_eq_true c5
  clear c5
  obtain rfl := Option.some.inj H
  go_enter Try.func9, Try.ntmps9
  go_wp2_with (first | ((with_reducible refine gate_dst (N := 3) rfl ?_); refine box_event ?hg (N := 3) ?hd (cs := #[.int .i64 a0_0, .slice A0_1 l0_1.length c0_1]) (t := 34) ?hr ?_; (case hd => rfl); (case hg => rfl); (case hr => first | (go_simp; done) | (go_simp; rfl)); intro gb213 hg w6 hbox hb; have n0_ := Aside0.mk (below_step (by repeat (first | (with_reducible first | exact HB.out | apply bwA | apply bwN | apply bwD) | exact HB.out)) hb); have n1_ := Aside0.mk (hbox); have n2_ := Aside0.mk ((by rw [hg]; exact (below_size (by repeat (first | (with_reducible first | exact HB.out | apply bwA | apply bwN | apply bwD) | exact HB.out))) : w.heap.size ≤ gb213)); have n3_ := Aside0.mk ((by rw [hg]; exact (below_size (by repeat (first | (with_reducible first | exact HB.out | apply bwA | apply bwN | apply bwD) | exact HB.out))) : w.heap.size ≤ gb213)); clear HB; have HB := n0_; have BK213 := n1_; have GW213 := n2_; have GE213 := n3_; clear n0_ n1_ n2_ n3_; clear hb hbox hg; have hcz7_0 : w6.cell? ⟨gb213, 0, none⟩ = some (.int .i64 a0_0) := (blk_cell BK213.out 0).trans rfl; have hcz7_1 : w6.cell? ⟨gb213, 1, none⟩ = some (.slice A0_1 l0_1.length c0_1) := (blk_cell BK213.out 1).trans rfl; have hfz7_0 := blk_frozen BK213.out 0; have hfz7_1 := blk_frozen BK213.out 1) | ((with_reducible refine gate_callee (f := 18) rfl ?_); refine goesL_ (some 20) rfl rfl Try.func18 (by kernel_rfl) rfl #[.agg #[.int .i64 a0_0, .slice A0_1 l0_1.length c0_1], .int .i64 1048576] rfl (by (try simp only [List.map_toArray, List.map_cons, List.map_nil]); first | done | rfl | (simp only [List.length_drop, List.length_take]; rfl)) ?_; (with_reducible refine (laws_szDiagram.calls a0_0 _ _ l0_1 1048576 t214 _ ?side1 ?side2 A4.out).mono ?_); (case side1 => repeat (first | exact (Kd.C_below HR0_1.out HB.out) | (with_reducible refine Kd.C_alloc ?_ _) | (with_reducible refine Kd.C_drewN ?_ _) | (with_reducible refine Kd.C_drew ?_))); (case side2 => exact HC0_1.out); rintro e w8 ⟨rfl, hb⟩; refine ⟨_, rfl, ?_⟩; have n0_ := Aside0.mk (blk_below (g := gb213) (o := .cells #[.int .i64 a0_0, .slice A0_1 l0_1.length c0_1] 34 (0, 0)) (by (with_reducible repeat (first | refine blk_drewN ?_ _ | refine blk_drew ?_ | refine blk_alloc ?_ _)); exact BK213.out) hb); have n1_ := Aside0.mk (below_step (by repeat (first | (with_reducible first | exact HB.out | apply bwA | apply bwN | apply bwD | refine below_set ?_ GE213.out) | exact HB.out)) hb); clear BK213; clear HB; have BK213 := n0_; have HB := n1_; clear n0_ n1_; (try clear hb); (try clear hb2); (try clear hk); (try clear hi)))
  go_ret
  exact ⟨by first | rfl | (simp [errW_none, errW_some] <;> rfl) | (simp [*, errW_none, errW_some] <;> rfl), by repeat (first | (with_reducible first | exact HB.out | apply bwA | apply bwN | apply bwD | refine below_set ?_ GE213.out) | exact HB.out)⟩
 ·rw [if_neg c5] at H
  have c5b0 : decide (t214 < 0) = false := decide_eq_false c5
  clear c5
  replace H := Option.bind_eq_some_iff.mp H
  obtain ⟨⟨t215, t216⟩, A90, H⟩ := H
  replace H : ((spec_DiagramOr.f k t215 t216 a1 a2).bind fun bt219 => ((laws_toDiagram.f k a0_0 l0_1).bind fun bt225 => ((impl_DiagramOr.f k bt225.1 bt225.2 a1 a2).bind fun bt230 => ((laws_eqDiagram.f k bt230.1 bt230.2.1 bt219.1 bt219.2.1).bind fun t236 => (if t236 = true then (laws_FnExactDiagramOr.j0 k a1 a2 bt219.2.2 bt230.2.2 (bt230.2.2 != bt219.2.2) a0_0 l0_1 bt219.1 bt219.2.1 bt225.1 bt225.2 bt230.1 bt230.2.1) else (laws_FnExactDiagramOr.j0 k a1 a2 bt219.2.2 bt230.2.2 true a0_0 l0_1 bt219.1 bt219.2.1 bt225.1 bt225.2 bt230.1 bt230.2.1)))))) = some r := H
  have A9 := Aside0.mk A90
  clear A90
  replace H := Option.bind_eq_some_iff.mp H
  obtain ⟨⟨t219, t220, t223⟩, A100, H⟩ := H
  replace H : ((laws_toDiagram.f k a0_0 l0_1).bind fun bt225 => ((impl_DiagramOr.f k bt225.1 bt225.2 a1 a2).bind fun bt230 => ((laws_eqDiagram.f k bt230.1 bt230.2.1 t219 t220).bind fun t236 => (if t236 = true then (laws_FnExactDiagramOr.j0 k a1 a2 t223 bt230.2.2 (bt230.2.2 != t223) a0_0 l0_1 t219 t220 bt225.1 bt225.2 bt230.1 bt230.2.1) else (laws_FnExactDiagramOr.j0 k a1 a2 t223 bt230.2.2 true a0_0 l0_1 t219 t220 bt225.1 bt225.2 bt230.1 bt230.2.1))))) = some r := H
  have A10 := Aside0.mk A100
  clear A100
  replace H := Option.bind_eq_some_iff.mp H
  obtain ⟨⟨t225, t226⟩, A110, H⟩ := H
  replace H : ((impl_DiagramOr.f k t225 t226 a1 a2).bind fun bt230 => ((laws_eqDiagram.f k bt230.1 bt230.2.1 t219 t220).bind fun t236 => (if t236 = true then (laws_FnExactDiagramOr.j0 k a1 a2 t223 bt230.2.2 (bt230.2.2 != t223) a0_0 l0_1 t219 t220 t225 t226 bt230.1 bt230.2.1) else (laws_FnExactDiagramOr.j0 k a1 a2 t223 bt230.2.2 true a0_0 l0_1 t219 t220 t225 t226 bt230.1 bt230.2.1)))) = some r := H
  have A11 := Aside0.mk A110
  clear A110
  replace H := Option.bind_eq_some_iff.mp H
  obtain ⟨⟨t230, t231, t234⟩, A120, H⟩ := H
  replace H : ((laws_eqDiagram.f k t230 t231 t219 t220).bind fun t236 => (if t236 = true then (laws_FnExactDiagramOr.j0 k a1 a2 t223 t234 (t234 != t223) a0_0 l0_1 t219 t220 t225 t226 t230 t231) else (laws_FnExactDiagramOr.j0 k a1 a2 t223 t234 true a0_0 l0_1 t219 t220 t225 t226 t230 t231))) = some r := H
  have A12 := Aside0.mk A120
  clear A120
  have HC13 := Aside0.mk H
  clear H
  go_enter Try.func9, Try.ntmps9
  go_upto_region 8 with (first | ((with_reducible refine gate_dst (N := 3) rfl ?_); refine box_event ?hg (N := 3) ?hd (cs := #[.int .i64 a0_0, .slice A0_1 l0_1.length c0_1]) (t := 34) ?hr ?_; (case hd => rfl); (case hg => rfl); (case hr => first | (go_simp; done) | (go_simp; rfl)); intro gb213 hg w14 hbox hb; have n0_ := Aside0.mk (below_step (by repeat (first | (with_reducible first | exact HB.out | apply bwA | apply bwN | apply bwD) | exact HB.out)) hb); have n1_ := Aside0.mk (hbox); have n2_ := Aside0.mk ((by rw [hg]; exact (below_size (by repeat (first | (with_reducible first | exact HB.out | apply bwA | apply bwN | apply bwD) | exact HB.out))) : w.heap.size ≤ gb213)); have n3_ := Aside0.mk ((by rw [hg]; exact (below_size (by repeat (first | (with_reducible first | exact HB.out | apply bwA | apply bwN | apply bwD) | exact HB.out))) : w.heap.size ≤ gb213)); clear HB; have HB := n0_; have BK213 := n1_; have GW213 := n2_; have GE213 := n3_; clear n0_ n1_ n2_ n3_; clear hb hbox hg; have hcz15_0 : w14.cell? ⟨gb213, 0, none⟩ = some (.int .i64 a0_0) := (blk_cell BK213.out 0).trans rfl; have hcz15_1 : w14.cell? ⟨gb213, 1, none⟩ = some (.slice A0_1 l0_1.length c0_1) := (blk_cell BK213.out 1).trans rfl; have hfz15_0 := blk_frozen BK213.out 0; have hfz15_1 := blk_frozen BK213.out 1) | ((with_reducible refine gate_callee (f := 18) rfl ?_); refine goesL_ (some 20) rfl rfl Try.func18 (by kernel_rfl) rfl #[.agg #[.int .i64 a0_0, .slice A0_1 l0_1.length c0_1], .int .i64 1048576] rfl (by (try simp only [List.map_toArray, List.map_cons, List.map_nil]); first | done | rfl | (simp only [List.length_drop, List.length_take]; rfl)) ?_; (with_reducible refine (laws_szDiagram.calls a0_0 _ _ l0_1 1048576 t214 _ ?side1 ?side2 A4.out).mono ?_); (case side1 => repeat (first | exact (Kd.C_below HR0_1.out HB.out) | (with_reducible refine Kd.C_alloc ?_ _) | (with_reducible refine Kd.C_drewN ?_ _) | (with_reducible refine Kd.C_drew ?_))); (case side2 => exact HC0_1.out); rintro e w16 ⟨rfl, hb⟩; refine ⟨_, rfl, ?_⟩; have n0_ := Aside0.mk (blk_below (g := gb213) (o := .cells #[.int .i64 a0_0, .slice A0_1 l0_1.length c0_1] 34 (0, 0)) (by (with_reducible repeat (first | refine blk_drewN ?_ _ | refine blk_drew ?_ | refine blk_alloc ?_ _)); exact BK213.out) hb); have n1_ := Aside0.mk (below_step (by repeat (first | (with_reducible first | exact HB.out | apply bwA | apply bwN | apply bwD | refine below_set ?_ GE213.out) | exact HB.out)) hb); clear BK213; clear HB; have BK213 := n0_; have HB := n1_; clear n0_ n1_; (try clear hb); (try clear hb2); (try clear hk); (try clear hi); have hcz17_0 : w16.cell? ⟨gb213, 0, none⟩ = some (.int .i64 a0_0) := (blk_cell BK213.out 0).trans rfl; have hcz17_1 : w16.cell? ⟨gb213, 1, none⟩ = some (.slice A0_1 l0_1.length c0_1) := (blk_cell BK213.out 1).trans rfl; have hfz17_0 := blk_frozen BK213.out 0; have hfz17_1 := blk_frozen BK213.out 1) | ((with_reducible refine gate_callee (f := 20) rfl ?_); refine goesL_ (some 25) rfl rfl Try.func20 (by kernel_rfl) rfl #[.agg #[.int .i64 a0_0, .slice A0_1 l0_1.length c0_1]] rfl (by (try simp only [List.map_toArray, List.map_cons, List.map_nil]); first | done | rfl | (simp only [List.length_drop, List.length_take]; rfl)) ?_; (with_reducible refine (laws_toDiagram.calls k a0_0 _ _ l0_1 t215 t216 _ ?side1 ?side2 A9.out).mono ?_); (case side1 => repeat (first | exact (Kd.C_below HR0_1.out HB.out) | (with_reducible refine Kd.C_alloc ?_ _) | (with_reducible refine Kd.C_drewN ?_ _) | (with_reducible refine Kd.C_drew ?_))); (case side2 => exact HC0_1.out); rintro e w18 ⟨v217, rfl, ho0, hb⟩; refine ⟨_, rfl, ?_⟩; have n0_ := Aside0.mk (Kd.R_lower ho0 (below_size (by repeat (first | (with_reducible first | exact HB.out | apply bwA | apply bwN | apply bwD | refine below_set ?_ GE213.out) | exact HB.out)))); have n1_ := Aside0.mk (blk_below (g := gb213) (o := .cells #[.int .i64 a0_0, .slice A0_1 l0_1.length c0_1] 34 (0, 0)) (by (with_reducible repeat (first | refine blk_drewN ?_ _ | refine blk_drew ?_ | refine blk_alloc ?_ _)); exact BK213.out) hb); have n2_ := Aside0.mk (below_step (by repeat (first | (with_reducible first | exact HB.out | apply bwA | apply bwN | apply bwD | refine below_set ?_ GE213.out) | exact HB.out)) hb); clear BK213; clear HB; have HO218 := n0_; have BK213 := n1_; have HB := n2_; clear n0_ n1_ n2_; (try clear hb); (try clear hb2); (try clear hk); (try clear hi); (try clear ho0); obtain ⟨Ao19, co19, eo19⟩ := Kd.R_slice HO218.out; subst eo19) | ((with_reducible refine gate_callee (f := 36) rfl ?_); refine goesL_ (some 28) rfl rfl Try.func36 (by kernel_rfl) rfl #[.agg #[.int .i64 t215, .slice Ao19 t216.length co19], .int .i64 a1, .int .i64 a2] rfl (by (try simp only [List.map_toArray, List.map_cons, List.map_nil]); first | done | rfl | (simp only [List.length_drop, List.length_take]; rfl)) ?_; (with_reducible refine (spec_DiagramOr.calls k t215 _ _ t216 a1 a2 t219 t220 t223 _ ?side1 ?side2 A10.out).mono ?_); (case side1 => repeat (first | exact (Kd.R_reads' HO218.out).2.2 | (with_reducible refine Kd.C_alloc ?_ _) | (with_reducible refine Kd.C_drewN ?_ _) | (with_reducible refine Kd.C_drew ?_))); (case side2 => exact (Kd.R_reads' HO218.out).2.1); rintro e w20 ⟨v221, rfl, ho0, hb⟩; refine ⟨_, rfl, ?_⟩; have n0_ := Aside0.mk (Kd.R_elder' (by (with_reducible repeat (first | apply Kd.R_alloc | apply Kd.R_drewN | apply Kd.R_drew)); exact HO218.out) (Kd.R_base ho0) hb); have n1_ := Aside0.mk (Kd.R_lower (Kd.R_new' ho0 (Kd.R_lt (by (with_reducible repeat (first | apply Kd.R_alloc | apply Kd.R_drewN | apply Kd.R_drew)); exact HO218.out))) (below_size (by repeat (first | (with_reducible first | exact HB.out | apply bwA | apply bwN | apply bwD | refine below_set ?_ GE213.out) | exact HB.out)))); have n2_ := Aside0.mk (blk_below (g := gb213) (o := .cells #[.int .i64 a0_0, .slice A0_1 l0_1.length c0_1] 34 (0, 0)) (by (with_reducible repeat (first | refine blk_drewN ?_ _ | refine blk_drew ?_ | refine blk_alloc ?_ _)); exact BK213.out) hb); have n3_ := Aside0.mk (below_step (by repeat (first | (with_reducible first | exact HB.out | apply bwA | apply bwN | apply bwD | refine below_set ?_ GE213.out) | exact HB.out)) hb); clear HO218; clear BK213; clear HB; have HO218 := n0_; have HO222 := n1_; have BK213 := n2_; have HB := n3_; clear n0_ n1_ n2_ n3_; (try clear hb); (try clear hb2); (try clear hk); (try clear hi); (try clear ho0)) | ((with_reducible refine gate_dst (N := 8) rfl ?_); refine box_event ?hg (N := 8) ?hd (cs := #[.int .i64 0, .slice none 0 0]) (t := 25) ?hr ?_; (case hd => rfl); (case hg => rfl); (case hr => first | (go_simp; done) | (go_simp; rfl)); intro gb224 hg w21 hbox hb; have n0_ := Aside0.mk (Kd.R_below (by (with_reducible repeat (first | apply Kd.R_alloc | apply Kd.R_drewN | apply Kd.R_drew)); exact HO218.out) hb); have n1_ := Aside0.mk (Kd.R_below (by (with_reducible repeat (first | apply Kd.R_alloc | apply Kd.R_drewN | apply Kd.R_drew)); exact HO222.out) hb); have n2_ := Aside0.mk (blk_below (g := gb213) (o := .cells #[.int .i64 a0_0, .slice A0_1 l0_1.length c0_1] 34 (0, 0)) (by (with_reducible repeat (first | refine blk_drewN ?_ _ | refine blk_drew ?_ | refine blk_alloc ?_ _)); exact BK213.out) hb); have n3_ := Aside0.mk (below_step (by repeat (first | (with_reducible first | exact HB.out | apply bwA | apply bwN | apply bwD | refine below_set ?_ GE213.out) | exact HB.out)) hb); have n4_ := Aside0.mk (hbox); have n5_ := Aside0.mk ((by rw [hg]; exact (below_size (by repeat (first | (with_reducible first | exact HB.out | apply bwA | apply bwN | apply bwD | refine below_set ?_ GE213.out) | exact HB.out))) : w.heap.size ≤ gb224)); have n6_ := Aside0.mk ((by rw [hg]; exact (below_size (by repeat (first | (with_reducible first | exact HB.out | apply bwA | apply bwN | apply bwD | refine below_set ?_ GE213.out) | exact HB.out))) : w.heap.size ≤ gb224)); have n7_ := Aside0.mk ((by rw [hg]; exact Nat.ne_of_lt (blk_lt (g := gb213) (o := .cells #[.int .i64 a0_0, .slice A0_1 l0_1.length c0_1] 34 (0, 0)) (by (with_reducible repeat (first | refine blk_drewN ?_ _ | refine blk_drew ?_ | refine blk_alloc ?_ _)); exact BK213.out)) : gb213 ≠ gb224)); have n8_ := Aside0.mk ((by rw [hg]; exact Nat.ne_of_gt (blk_lt (g := gb213) (o := .cells #[.int .i64 a0_0, .slice A0_1 l0_1.length c0_1] 34 (0, 0)) (by (with_reducible repeat (first | refine blk_drewN ?_ _ | refine blk_drew ?_ | refine blk_alloc ?_ _)); exact BK213.out)) : gb224 ≠ gb213)); clear HO218; clear HO222; clear BK213; clear HB; have HO218 := n0_; have HO222 := n1_; have BK213 := n2_; have HB := n3_; have BK224 := n4_; have GW224 := n5_; have GE224 := n6_; have NB213_224 := n7_; have NB224_213 := n8_; clear n0_ n1_ n2_ n3_ n4_ n5_ n6_ n7_ n8_; clear hb hbox hg; have hnb22 := NB224_213.out; have hnc22 := NB213_224.out; have hcz23_0 : w21.cell? ⟨gb224, 0, none⟩ = some (.int .i64 0) := (blk_cell BK224.out 0).trans rfl; have hcz23_1 : w21.cell? ⟨gb224, 1, none⟩ = some (.slice none 0 0) := (blk_cell BK224.out 1).trans rfl; have hfz23_0 := blk_frozen BK224.out 0; have hfz23_1 := blk_frozen BK224.out 1; obtain ⟨Ao24, co24, eo24⟩ := Kd.R_slice HO222.out; subst eo24; have hcz25_0 : w21.cell? ⟨gb213, 0, none⟩ = some (.int .i64 a0_0) := (blk_cell BK213.out 0).trans rfl; have hcz25_1 : w21.cell? ⟨gb213, 1, none⟩ = some (.slice A0_1 l0_1.length c0_1) := (blk_cell BK213.out 1).trans rfl; have hfz25_0 := blk_frozen BK213.out 0; have hfz25_1 := blk_frozen BK213.out 1) | ((with_reducible refine gate_callee (f := 20) rfl ?_); refine goesL_ (some 32) rfl rfl Try.func20 (by kernel_rfl) rfl #[.agg #[.int .i64 a0_0, .slice A0_1 l0_1.length c0_1]] rfl (by (try simp only [List.map_toArray, List.map_cons, List.map_nil]); first | done | rfl | (simp only [List.length_drop, List.length_take]; rfl)) ?_; (with_reducible refine (laws_toDiagram.calls k a0_0 _ _ l0_1 t225 t226 _ ?side1 ?side2 A11.out).mono ?_); (case side1 => exact Kd.C_below HR0_1.out (by repeat (first | (with_reducible first | exact HB.out | apply bwA | apply bwN | apply bwD | refine below_set ?_ GE213.out | refine below_set ?_ GE224.out) | exact HB.out))); (case side2 => exact HC0_1.out); rintro e w26 ⟨v227, rfl, ho0, hb⟩; refine ⟨_, rfl, ?_⟩; have n0_ := Aside0.mk (Kd.R_elder' (by (with_reducible repeat (first | apply Kd.R_alloc | apply Kd.R_drewN | apply Kd.R_drew)); exact (Kd.R_mono (Kd.R_far (p := ⟨gb224, 1, none⟩) (Kd.R_far (p := ⟨gb224, 0, none⟩) (Kd.R_types HO218.out BK224.out (by decide)) (fun _ hk => hk.2) (.int .i64 t219)) (fun _ hk => hk.2) (.slice Ao24 t220.length co24)) (fun _ h_ => h_.1))) (Kd.R_base ho0) hb); have n1_ := Aside0.mk (Kd.R_elder' (by (with_reducible repeat (first | apply Kd.R_alloc | apply Kd.R_drewN | apply Kd.R_drew)); exact (Kd.R_mono (Kd.R_far (p := ⟨gb224, 1, none⟩) (Kd.R_far (p := ⟨gb224, 0, none⟩) (Kd.R_types HO222.out BK224.out (by decide)) (fun _ hk => hk.2) (.int .i64 t219)) (fun _ hk => hk.2) (.slice Ao24 t220.length co24)) (fun _ h_ => h_.1))) (Kd.R_base ho0) hb); have n2_ := Aside0.mk (Kd.R_lower (Kd.R_new' (Kd.R_new' ho0 (Kd.R_lt (by (with_reducible repeat (first | apply Kd.R_alloc | apply Kd.R_drewN | apply Kd.R_drew)); exact (Kd.R_mono (Kd.R_far (p := ⟨gb224, 1, none⟩) (Kd.R_far (p := ⟨gb224, 0, none⟩) (Kd.R_types HO218.out BK224.out (by decide)) (fun _ hk => hk.2) (.int .i64 t219)) (fun _ hk => hk.2) (.slice Ao24 t220.length co24)) (fun _ h_ => h_.1))))) (Kd.R_lt (by (with_reducible repeat (first | apply Kd.R_alloc | apply Kd.R_drewN | apply Kd.R_drew)); exact (Kd.R_mono (Kd.R_far (p := ⟨gb224, 1, none⟩) (Kd.R_far (p := ⟨gb224, 0, none⟩) (Kd.R_types HO222.out BK224.out (by decide)) (fun _ hk => hk.2) (.int .i64 t219)) (fun _ hk => hk.2) (.slice Ao24 t220.length co24)) (fun _ h_ => h_.1))))) (below_size (by repeat (first | (with_reducible first | exact HB.out | apply bwA | apply bwN | apply bwD | refine below_set ?_ GE213.out | refine below_set ?_ GE224.out) | exact HB.out)))); have n3_ := Aside0.mk (blk_below (g := gb213) (o := .cells #[.int .i64 a0_0, .slice A0_1 l0_1.length c0_1] 34 (0, 0)) (by (with_reducible repeat (first | refine blk_drewN ?_ _ | refine blk_drew ?_ | refine blk_alloc ?_ _)); refine blk_far ?_ NB213_224.out _; (with_reducible repeat (first | refine blk_drewN ?_ _ | refine blk_drew ?_ | refine blk_alloc ?_ _)); refine blk_far ?_ NB213_224.out _; (with_reducible repeat (first | refine blk_drewN ?_ _ | refine blk_drew ?_ | refine blk_alloc ?_ _)); exact BK213.out) hb); have n4_ := Aside0.mk (blk_below (g := gb224) (o := .cells #[.int .i64 t219, .slice Ao24 t220.length co24] 25 (0, 0)) (by (with_reducible repeat (first | refine blk_drewN ?_ _ | refine blk_drew ?_ | refine blk_alloc ?_ _)); refine blk_put (cs := #[.int .i64 t219, .slice none 0 0]) ?_ 1 _ rfl; (with_reducible repeat (first | refine blk_drewN ?_ _ | refine blk_drew ?_ | refine blk_alloc ?_ _)); refine blk_put (cs := #[.int .i64 0, .slice none 0 0]) ?_ 0 _ rfl; (with_reducible repeat (first | refine blk_drewN ?_ _ | refine blk_drew ?_ | refine blk_alloc ?_ _)); exact BK224.out) hb); have n5_ := Aside0.mk (below_step (by repeat (first | (with_reducible first | exact HB.out | apply bwA | apply bwN | apply bwD | refine below_set ?_ GE213.out | refine below_set ?_ GE224.out) | exact HB.out)) hb); clear HO218; clear HO222; clear BK213; clear BK224; clear HB; have HO218 := n0_; have HO222 := n1_; have HO228 := n2_; have BK213 := n3_; have BK224 := n4_; have HB := n5_; clear n0_ n1_ n2_ n3_ n4_ n5_; (try clear hb); (try clear hb2); (try clear hk); (try clear hi); (try clear ho0)) | ((with_reducible refine gate_dst (N := 10) rfl ?_); refine box_event ?hg (N := 10) ?hd (cs := #[.int .i64 0, .slice none 0 0]) (t := 25) ?hr ?_; (case hd => rfl); (case hg => rfl); (case hr => first | (go_simp; done) | (go_simp; rfl)); intro gb229 hg w27 hbox hb; have n0_ := Aside0.mk (Kd.R_below (by (with_reducible repeat (first | apply Kd.R_alloc | apply Kd.R_drewN | apply Kd.R_drew)); exact HO218.out) hb); have n1_ := Aside0.mk (Kd.R_below (by (with_reducible repeat (first | apply Kd.R_alloc | apply Kd.R_drewN | apply Kd.R_drew)); exact HO222.out) hb); have n2_ := Aside0.mk (Kd.R_below (by (with_reducible repeat (first | apply Kd.R_alloc | apply Kd.R_drewN | apply Kd.R_drew)); exact HO228.out) hb); have n3_ := Aside0.mk (blk_below (g := gb213) (o := .cells #[.int .i64 a0_0, .slice A0_1 l0_1.length c0_1] 34 (0, 0)) (by (with_reducible repeat (first | refine blk_drewN ?_ _ | refine blk_drew ?_ | refine blk_alloc ?_ _)); exact BK213.out) hb); have n4_ := Aside0.mk (blk_below (g := gb224) (o := .cells #[.int .i64 t219, .slice Ao24 t220.length co24] 25 (0, 0)) (by (with_reducible repeat (first | refine blk_drewN ?_ _ | refine blk_drew ?_ | refine blk_alloc ?_ _)); exact BK224.out) hb); have n5_ := Aside0.mk (below_step (by repeat (first | (with_reducible first | exact HB.out | apply bwA | apply bwN | apply bwD | refine below_set ?_ GE213.out | refine below_set ?_ GE224.out) | exact HB.out)) hb); have n6_ := Aside0.mk (hbox); have n7_ := Aside0.mk ((by rw [hg]; exact (below_size (by repeat (first | (with_reducible first | exact HB.out | apply bwA | apply bwN | apply bwD | refine below_set ?_ GE213.out | refine below_set ?_ GE224.out) | exact HB.out))) : w.heap.size ≤ gb229)); have n8_ := Aside0.mk ((by rw [hg]; exact (below_size (by repeat (first | (with_reducible first | exact HB.out | apply bwA | apply bwN | apply bwD | refine below_set ?_ GE213.out | refine below_set ?_ GE224.out) | exact HB.out))) : w.heap.size ≤ gb229)); have n9_ := Aside0.mk ((by rw [hg]; exact Nat.ne_of_lt (blk_lt (g := gb213) (o := .cells #[.int .i64 a0_0, .slice A0_1 l0_1.length c0_1] 34 (0, 0)) (by (with_reducible repeat (first | refine blk_drewN ?_ _ | refine blk_drew ?_ | refine blk_alloc ?_ _)); exact BK213.out)) : gb213 ≠ gb229)); have n10_ := Aside0.mk ((by rw [hg]; exact Nat.ne_of_gt (blk_lt (g := gb213) (o := .cells #[.int .i64 a0_0, .slice A0_1 l0_1.length c0_1] 34 (0, 0)) (by (with_reducible repeat (first | refine blk_drewN ?_ _ | refine blk_drew ?_ | refine blk_alloc ?_ _)); exact BK213.out)) : gb229 ≠ gb213)); have n11_ := Aside0.mk ((by rw [hg]; exact Nat.ne_of_lt (blk_lt (g := gb224) (o := .cells #[.int .i64 t219, .slice Ao24 t220.length co24] 25 (0, 0)) (by (with_reducible repeat (first | refine blk_drewN ?_ _ | refine blk_drew ?_ | refine blk_alloc ?_ _)); exact BK224.out)) : gb224 ≠ gb229)); have n12_ := Aside0.mk ((by rw [hg]; exact Nat.ne_of_gt (blk_lt (g := gb224) (o := .cells #[.int .i64 t219, .slice Ao24 t220.length co24] 25 (0, 0)) (by (with_reducible repeat (first | refine blk_drewN ?_ _ | refine blk_drew ?_ | refine blk_alloc ?_ _)); exact BK224.out)) : gb229 ≠ gb224)); clear HO218; clear HO222; clear HO228; clear BK213; clear BK224; clear HB; have HO218 := n0_; have HO222 := n1_; have HO228 := n2_; have BK213 := n3_; have BK224 := n4_; have HB := n5_; have BK229 := n6_; have GW229 := n7_; have GE229 := n8_; have NB213_229 := n9_; have NB229_213 := n10_; have NB224_229 := n11_; have NB229_224 := n12_; clear n0_ n1_ n2_ n3_ n4_ n5_ n6_ n7_ n8_ n9_ n10_ n11_ n12_; clear hb hbox hg; have hnb28 := NB229_213.out; have hnc28 := NB213_229.out; have hnb29 := NB229_224.out; have hnc29 := NB224_229.out; have hcz30_0 : w27.cell? ⟨gb229, 0, none⟩ = some (.int .i64 0) := (blk_cell BK229.out 0).trans rfl; have hcz30_1 : w27.cell? ⟨gb229, 1, none⟩ = some (.slice none 0 0) := (blk_cell BK229.out 1).trans rfl; have hfz30_0 := blk_frozen BK229.out 0; have hfz30_1 := blk_frozen BK229.out 1; obtain ⟨Ao31, co31, eo31⟩ := Kd.R_slice HO228.out; subst eo31) | ((with_reducible refine gate_callee (f := 28) rfl ?_); refine goesL_ (some 37) rfl rfl Try.func28 (by kernel_rfl) rfl #[.agg #[.int .i64 t225, .slice Ao31 t226.length co31], .int .i64 a1, .int .i64 a2] rfl (by (try simp only [List.map_toArray, List.map_cons, List.map_nil]); first | done | rfl | (simp only [List.length_drop, List.length_take]; rfl)) ?_; (with_reducible refine (impl_DiagramOr.calls k t225 _ _ t226 a1 a2 t230 t231 t234 _ ?side1 ?side2 A12.out).mono ?_); (case side1 => refine (Kd.R_reads' (e := 71) (base := w.heap.size) (ok := fun k_ => ((True ∧ some k_ ≠ (.slice Ao19 t216.length co19 : Value).ownBlock) ∧ some k_ ≠ (.slice Ao24 t220.length co24 : Value).ownBlock)) (n := t226.length) (c := co31) ?_).2.2; exact (by (with_reducible repeat (first | apply Kd.R_alloc | apply Kd.R_drewN | apply Kd.R_drew)); exact (Kd.R_mono (Kd.R_far (p := ⟨gb229, 1, none⟩) (Kd.R_far (p := ⟨gb229, 0, none⟩) (Kd.R_types HO228.out BK229.out (by decide)) (fun _ hk => hk.2) (.int .i64 t225)) (fun _ hk => hk.2) (.slice Ao31 t226.length co31)) (fun _ h_ => h_.1)))); (case side2 => exact (Kd.R_reads' HO228.out).2.1); rintro e w32 ⟨v232, rfl, ho0, hb⟩; refine ⟨_, rfl, ?_⟩; have n0_ := Aside0.mk (Kd.R_elder' (by (with_reducible repeat (first | apply Kd.R_alloc | apply Kd.R_drewN | apply Kd.R_drew)); exact (Kd.R_mono (Kd.R_far (p := ⟨gb229, 1, none⟩) (Kd.R_far (p := ⟨gb229, 0, none⟩) (Kd.R_types HO218.out BK229.out (by decide)) (fun _ hk => hk.2) (.int .i64 t225)) (fun _ hk => hk.2) (.slice Ao31 t226.length co31)) (fun _ h_ => h_.1))) (Kd.R_base ho0) hb); have n1_ := Aside0.mk (Kd.R_elder' (by (with_reducible repeat (first | apply Kd.R_alloc | apply Kd.R_drewN | apply Kd.R_drew)); exact (Kd.R_mono (Kd.R_far (p := ⟨gb229, 1, none⟩) (Kd.R_far (p := ⟨gb229, 0, none⟩) (Kd.R_types HO222.out BK229.out (by decide)) (fun _ hk => hk.2) (.int .i64 t225)) (fun _ hk => hk.2) (.slice Ao31 t226.length co31)) (fun _ h_ => h_.1))) (Kd.R_base ho0) hb); have n2_ := Aside0.mk (Kd.R_elder' (by (with_reducible repeat (first | apply Kd.R_alloc | apply Kd.R_drewN | apply Kd.R_drew)); exact (Kd.R_mono (Kd.R_far (p := ⟨gb229, 1, none⟩) (Kd.R_far (p := ⟨gb229, 0, none⟩) (Kd.R_types HO228.out BK229.out (by decide)) (fun _ hk => hk.2) (.int .i64 t225)) (fun _ hk => hk.2) (.slice Ao31 t226.length co31)) (fun _ h_ => h_.1))) (Kd.R_base ho0) hb); have n3_ := Aside0.mk (Kd.R_lower (Kd.R_new' (Kd.R_new' (Kd.R_new' ho0 (Kd.R_lt (by (with_reducible repeat (first | apply Kd.R_alloc | apply Kd.R_drewN | apply Kd.R_drew)); exact (Kd.R_mono (Kd.R_far (p := ⟨gb229, 1, none⟩) (Kd.R_far (p := ⟨gb229, 0, none⟩) (Kd.R_types HO218.out BK229.out (by decide)) (fun _ hk => hk.2) (.int .i64 t225)) (fun _ hk => hk.2) (.slice Ao31 t226.length co31)) (fun _ h_ => h_.1))))) (Kd.R_lt (by (with_reducible repeat (first | apply Kd.R_alloc | apply Kd.R_drewN | apply Kd.R_drew)); exact (Kd.R_mono (Kd.R_far (p := ⟨gb229, 1, none⟩) (Kd.R_far (p := ⟨gb229, 0, none⟩) (Kd.R_types HO222.out BK229.out (by decide)) (fun _ hk => hk.2) (.int .i64 t225)) (fun _ hk => hk.2) (.slice Ao31 t226.length co31)) (fun _ h_ => h_.1))))) (Kd.R_lt (by (with_reducible repeat (first | apply Kd.R_alloc | apply Kd.R_drewN | apply Kd.R_drew)); exact (Kd.R_mono (Kd.R_far (p := ⟨gb229, 1, none⟩) (Kd.R_far (p := ⟨gb229, 0, none⟩) (Kd.R_types HO228.out BK229.out (by decide)) (fun _ hk => hk.2) (.int .i64 t225)) (fun _ hk => hk.2) (.slice Ao31 t226.length co31)) (fun _ h_ => h_.1))))) (below_size (by repeat (first | (with_reducible first | exact HB.out | apply bwA | apply bwN | apply bwD | refine below_set ?_ GE213.out | refine below_set ?_ GE224.out | refine below_set ?_ GE229.out) | exact HB.out)))); have n4_ := Aside0.mk (blk_below (g := gb213) (o := .cells #[.int .i64 a0_0, .slice A0_1 l0_1.length c0_1] 34 (0, 0)) (by (with_reducible repeat (first | refine blk_drewN ?_ _ | refine blk_drew ?_ | refine blk_alloc ?_ _)); refine blk_far ?_ NB213_229.out _; (with_reducible repeat (first | refine blk_drewN ?_ _ | refine blk_drew ?_ | refine blk_alloc ?_ _)); refine blk_far ?_ NB213_229.out _; (with_reducible repeat (first | refine blk_drewN ?_ _ | refine blk_drew ?_ | refine blk_alloc ?_ _)); exact BK213.out) hb); have n5_ := Aside0.mk (blk_below (g := gb224) (o := .cells #[.int .i64 t219, .slice Ao24 t220.length co24] 25 (0, 0)) (by (with_reducible repeat (first | refine blk_drewN ?_ _ | refine blk_drew ?_ | refine blk_alloc ?_ _)); refine blk_far ?_ NB224_229.out _; (with_reducible repeat (first | refine blk_drewN ?_ _ | refine blk_drew ?_ | refine blk_alloc ?_ _)); refine blk_far ?_ NB224_229.out _; (with_reducible repeat (first | refine blk_drewN ?_ _ | refine blk_drew ?_ | refine blk_alloc ?_ _)); exact BK224.out) hb); have n6_ := Aside0.mk (blk_below (g := gb229) (o := .cells #[.int .i64 t225, .slice Ao31 t226.length co31] 25 (0, 0)) (by (with_reducible repeat (first | refine blk_drewN ?_ _ | refine blk_drew ?_ | refine blk_alloc ?_ _)); refine blk_put (cs := #[.int .i64 t225, .slice none 0 0]) ?_ 1 _ rfl; (with_reducible repeat (first | refine blk_drewN ?_ _ | refine blk_drew ?_ | refine blk_alloc ?_ _)); refine blk_put (cs := #[.int .i64 0, .slice none 0 0]) ?_ 0 _ rfl; (with_reducible repeat (first | refine blk_drewN ?_ _ | refine blk_drew ?_ | refine blk_alloc ?_ _)); exact BK229.out) hb); have n7_ := Aside0.mk (below_step (by repeat (first | (with_reducible first | exact HB.out | apply bwA | apply bwN | apply bwD | refine below_set ?_ GE213.out | refine below_set ?_ GE224.out | refine below_set ?_ GE229.out) | exact HB.out)) hb); clear HO218; clear HO222; clear HO228; clear BK213; clear BK224; clear BK229; clear HB; have HO218 := n0_; have HO222 := n1_; have HO228 := n2_; have HO233 := n3_; have BK213 := n4_; have BK224 := n5_; have BK229 := n6_; have HB := n7_; clear n0_ n1_ n2_ n3_ n4_ n5_ n6_ n7_; (try clear hb); (try clear hb2); (try clear hk); (try clear hi); (try clear ho0)) | ((with_reducible refine gate_dst (N := 11) rfl ?_); refine box_event ?hg (N := 11) ?hd (cs := #[.int .i64 0, .slice none 0 0]) (t := 25) ?hr ?_; (case hd => rfl); (case hg => rfl); (case hr => first | (go_simp; done) | (go_simp; rfl)); intro gb235 hg w33 hbox hb; have n0_ := Aside0.mk (Kd.R_below (by (with_reducible repeat (first | apply Kd.R_alloc | apply Kd.R_drewN | apply Kd.R_drew)); exact HO218.out) hb); have n1_ := Aside0.mk (Kd.R_below (by (with_reducible repeat (first | apply Kd.R_alloc | apply Kd.R_drewN | apply Kd.R_drew)); exact HO222.out) hb); have n2_ := Aside0.mk (Kd.R_below (by (with_reducible repeat (first | apply Kd.R_alloc | apply Kd.R_drewN | apply Kd.R_drew)); exact HO228.out) hb); have n3_ := Aside0.mk (Kd.R_below (by (with_reducible repeat (first | apply Kd.R_alloc | apply Kd.R_drewN | apply Kd.R_drew)); exact HO233.out) hb); have n4_ := Aside0.mk (blk_below (g := gb213) (o := .cells #[.int .i64 a0_0, .slice A0_1 l0_1.length c0_1] 34 (0, 0)) (by (with_reducible repeat (first | refine blk_drewN ?_ _ | refine blk_drew ?_ | refine blk_alloc ?_ _)); exact BK213.out) hb); have n5_ := Aside0.mk (blk_below (g := gb224) (o := .cells #[.int .i64 t219, .slice Ao24 t220.length co24] 25 (0, 0)) (by (with_reducible repeat (first | refine blk_drewN ?_ _ | refine blk_drew ?_ | refine blk_alloc ?_ _)); exact BK224.out) hb); have n6_ := Aside0.mk (blk_below (g := gb229) (o := .cells #[.int .i64 t225, .slice Ao31 t226.length co31] 25 (0, 0)) (by (with_reducible repeat (first | refine blk_drewN ?_ _ | refine blk_drew ?_ | refine blk_alloc ?_ _)); exact BK229.out) hb); have n7_ := Aside0.mk (below_step (by repeat (first | (with_reducible first | exact HB.out | apply bwA | apply bwN | apply bwD | refine below_set ?_ GE213.out | refine below_set ?_ GE224.out | refine below_set ?_ GE229.out) | exact HB.out)) hb); have n8_ := Aside0.mk (hbox); have n9_ := Aside0.mk ((by rw [hg]; exact (below_size (by repeat (first | (with_reducible first | exact HB.out | apply bwA | apply bwN | apply bwD | refine below_set ?_ GE213.out | refine below_set ?_ GE224.out | refine below_set ?_ GE229.out) | exact HB.out))) : w.heap.size ≤ gb235)); have n10_ := Aside0.mk ((by rw [hg]; exact (below_size (by repeat (first | (with_reducible first | exact HB.out | apply bwA | apply bwN | apply bwD | refine below_set ?_ GE213.out | refine below_set ?_ GE224.out | refine below_set ?_ GE229.out) | exact HB.out))) : w.heap.size ≤ gb235)); have n11_ := Aside0.mk ((by rw [hg]; exact Nat.ne_of_lt (blk_lt (g := gb213) (o := .cells #[.int .i64 a0_0, .slice A0_1 l0_1.length c0_1] 34 (0, 0)) (by (with_reducible repeat (first | refine blk_drewN ?_ _ | refine blk_drew ?_ | refine blk_alloc ?_ _)); exact BK213.out)) : gb213 ≠ gb235)); have n12_ := Aside0.mk ((by rw [hg]; exact Nat.ne_of_gt (blk_lt (g := gb213) (o := .cells #[.int .i64 a0_0, .slice A0_1 l0_1.length c0_1] 34 (0, 0)) (by (with_reducible repeat (first | refine blk_drewN ?_ _ | refine blk_drew ?_ | refine blk_alloc ?_ _)); exact BK213.out)) : gb235 ≠ gb213)); have n13_ := Aside0.mk ((by rw [hg]; exact Nat.ne_of_lt (blk_lt (g := gb224) (o := .cells #[.int .i64 t219, .slice Ao24 t220.length co24] 25 (0, 0)) (by (with_reducible repeat (first | refine blk_drewN ?_ _ | refine blk_drew ?_ | refine blk_alloc ?_ _)); exact BK224.out)) : gb224 ≠ gb235)); have n14_ := Aside0.mk ((by rw [hg]; exact Nat.ne_of_gt (blk_lt (g := gb224) (o := .cells #[.int .i64 t219, .slice Ao24 t220.length co24] 25 (0, 0)) (by (with_reducible repeat (first | refine blk_drewN ?_ _ | refine blk_drew ?_ | refine blk_alloc ?_ _)); exact BK224.out)) : gb235 ≠ gb224)); have n15_ := Aside0.mk ((by rw [hg]; exact Nat.ne_of_lt (blk_lt (g := gb229) (o := .cells #[.int .i64 t225, .slice Ao31 t226.length co31] 25 (0, 0)) (by (with_reducible repeat (first | refine blk_drewN ?_ _ | refine blk_drew ?_ | refine blk_alloc ?_ _)); exact BK229.out)) : gb229 ≠ gb235)); have n16_ := Aside0.mk ((by rw [hg]; exact Nat.ne_of_gt (blk_lt (g := gb229) (o := .cells #[.int .i64 t225, .slice Ao31 t226.length co31] 25 (0, 0)) (by (with_reducible repeat (first | refine blk_drewN ?_ _ | refine blk_drew ?_ | refine blk_alloc ?_ _)); exact BK229.out)) : gb235 ≠ gb229)); clear HO218; clear HO222; clear HO228; clear HO233; clear BK213; clear BK224; clear BK229; clear HB; have HO218 := n0_; have HO222 := n1_; have HO228 := n2_; have HO233 := n3_; have BK213 := n4_; have BK224 := n5_; have BK229 := n6_; have HB := n7_; have BK235 := n8_; have GW235 := n9_; have GE235 := n10_; have NB213_235 := n11_; have NB235_213 := n12_; have NB224_235 := n13_; have NB235_224 := n14_; have NB229_235 := n15_; have NB235_229 := n16_; clear n0_ n1_ n2_ n3_ n4_ n5_ n6_ n7_ n8_ n9_ n10_ n11_ n12_ n13_ n14_ n15_ n16_; clear hb hbox hg; have hnb34 := NB235_213.out; have hnc34 := NB213_235.out; have hnb35 := NB235_224.out; have hnc35 := NB224_235.out; have hnb36 := NB235_229.out; have hnc36 := NB229_235.out; have hcz37_0 : w33.cell? ⟨gb235, 0, none⟩ = some (.int .i64 0) := (blk_cell BK235.out 0).trans rfl; have hcz37_1 : w33.cell? ⟨gb235, 1, none⟩ = some (.slice none 0 0) := (blk_cell BK235.out 1).trans rfl; have hfz37_0 := blk_frozen BK235.out 0; have hfz37_1 := blk_frozen BK235.out 1; obtain ⟨Ao38, co38, eo38⟩ := Kd.R_slice HO233.out; subst eo38))
  (try simp only [Act.put, List.setIfInBounds_toArray, List.set_cons_zero, List.set_cons_succ])
  go_cut [48] (fun v48 wc => ∃ (kq : Nat) (x48_12 : Bool), v48 = .bool x48_12 ∧ Aside0 (laws_FnExactDiagramOr.j0 kq a1 a2 t223 t234 x48_12 a0_0 l0_1 t219 t220 t225 t226 t230 t231 = some r) ∧ Aside0 (kq ≤ k) ∧ Aside0 (Kd.R k71 71 wc w.heap.size (fun k_ => some k_ ≠ ((.slice Ao31 t226.length co31) : Value).ownBlock ∧ some k_ ≠ ((.slice Ao38 t231.length co38) : Value).ownBlock) (.slice Ao24 t220.length co24) t220) ∧ Aside0 (Kd.R k71 71 wc w.heap.size (fun k_ => some k_ ≠ ((.slice Ao24 t220.length co24) : Value).ownBlock ∧ some k_ ≠ ((.slice Ao38 t231.length co38) : Value).ownBlock) (.slice Ao31 t226.length co31) t226) ∧ Aside0 (Kd.R k71 71 wc w.heap.size (fun k_ => some k_ ≠ ((.slice Ao24 t220.length co24) : Value).ownBlock ∧ some k_ ≠ ((.slice Ao31 t226.length co31) : Value).ownBlock) (.slice Ao38 t231.length co38) t231) ∧ Aside0 (wc.heap[gb213]? = some (.cells #[.int .i64 a0_0, (.slice A0_1 l0_1.length c0_1)] 34 (0, 0))) ∧ Aside0 (wc.heap[gb224]? = some (.cells #[.int .i64 t219, (.slice Ao24 t220.length co24)] 25 (0, 0))) ∧ Aside0 (wc.heap[gb229]? = some (.cells #[.int .i64 t225, (.slice Ao31 t226.length co31)] 25 (0, 0))) ∧ Aside0 (wc.heap[gb235]? = some (.cells #[.int .i64 t230, (.slice Ao38 t231.length co38)] 25 (0, 0))) ∧ Aside0 (Below w.heap.size w wc))
  case first =>
   have H := HC13.out
   clear HC13
   replace H := Option.bind_eq_some_iff.mp H
   obtain ⟨t236, A390, H⟩ := H
   replace H : (if t236 = true then (laws_FnExactDiagramOr.j0 k a1 a2 t223 t234 (t234 != t223) a0_0 l0_1 t219 t220 t225 t226 t230 t231) else (laws_FnExactDiagramOr.j0 k a1 a2 t223 t234 true a0_0 l0_1 t219 t220 t225 t226 t230 t231)) = some r := H
   have A39 := Aside0.mk A390
   clear A390
   by_cases c40 : t236 = true
   ·subst c40
    have H1 : (laws_FnExactDiagramOr.j0 k a1 a2 t223 t234 (t234 != t223) a0_0 l0_1 t219 t220 t225 t226 t230 t231) = some r := by rw [if_pos rfl] at H; exact H
    clear H
    have H := H1
    clear H1
    have H' := Aside0.mk H
    clear H
    have hnb41 := NB235_213.out
    have hnc41 := NB213_235.out
    have hnb42 := NB235_224.out
    have hnc42 := NB224_235.out
    have hnb43 := NB235_229.out
    have hnc43 := NB229_235.out
    have hcz44_0 : w33.cell? ⟨gb235, 0, none⟩ = some (.int .i64 0) := (blk_cell BK235.out 0).trans rfl
    have hcz44_1 : w33.cell? ⟨gb235, 1, none⟩ = some (.slice none 0 0) := (blk_cell BK235.out 1).trans rfl
    have hfz44_0 := blk_frozen BK235.out 0
    have hfz44_1 := blk_frozen BK235.out 1
    have hnb45 := NB224_213.out
    have hnc45 := NB213_224.out
    have hnb46 := NB224_229.out
    have hnc46 := NB229_224.out
    have hcz47_0 : w33.cell? ⟨gb224, 0, none⟩ = some (.int .i64 t219) := (blk_cell BK224.out 0).trans rfl
    have hcz47_1 : w33.cell? ⟨gb224, 1, none⟩ = some (.slice Ao24 t220.length co24) := (blk_cell BK224.out 1).trans rfl
    have hfz47_0 := blk_frozen BK224.out 0
    have hfz47_1 := blk_frozen BK224.out 1
    go_wp2_with (first | ((with_reducible refine gate_callee (f := 21) rfl ?_); refine goesL_ (some 42) rfl rfl Try.func21 (by kernel_rfl) rfl #[.agg #[.int .i64 t230, .slice Ao38 t231.length co38], .agg #[.int .i64 t219, .slice Ao24 t220.length co24]] rfl (by (try simp only [List.map_toArray, List.map_cons, List.map_nil]); first | done | rfl | (simp only [List.length_drop, List.length_take]; rfl)) ?_; (with_reducible refine (laws_eqDiagram.calls k t230 _ _ t231 t219 _ _ t220 true _ ?side1 ?side2 ?side3 ?side4 A39.out).mono ?_); (case side1 => refine (Kd.R_reads' (e := 71) (base := w.heap.size) (ok := fun k_ => (((True ∧ some k_ ≠ (.slice Ao19 t216.length co19 : Value).ownBlock) ∧ some k_ ≠ (.slice Ao24 t220.length co24 : Value).ownBlock) ∧ some k_ ≠ (.slice Ao31 t226.length co31 : Value).ownBlock)) (n := t231.length) (c := co38) ?_).2.2; exact (by (with_reducible repeat (first | apply Kd.R_alloc | apply Kd.R_drewN | apply Kd.R_drew)); exact (Kd.R_mono (Kd.R_far (p := ⟨gb235, 1, none⟩) (Kd.R_far (p := ⟨gb235, 0, none⟩) (Kd.R_types HO233.out BK235.out (by decide)) (fun _ hk => hk.2) (.int .i64 t230)) (fun _ hk => hk.2) (.slice Ao38 t231.length co38)) (fun _ h_ => h_.1)))); (case side2 => exact (Kd.R_reads' HO233.out).2.1); (case side3 => refine (Kd.R_reads' (e := 71) (base := w.heap.size) (ok := fun k_ => (((True ∧ some k_ ≠ (.slice Ao19 t216.length co19 : Value).ownBlock) ∧ some k_ ≠ (.slice Ao31 t226.length co31 : Value).ownBlock) ∧ some k_ ≠ (.slice Ao38 t231.length co38 : Value).ownBlock)) (n := t220.length) (c := co24) ?_).2.2; exact (by (with_reducible repeat (first | apply Kd.R_alloc | apply Kd.R_drewN | apply Kd.R_drew)); exact (Kd.R_mono (Kd.R_far (p := ⟨gb235, 1, none⟩) (Kd.R_far (p := ⟨gb235, 0, none⟩) (Kd.R_types HO222.out BK235.out (by decide)) (fun _ hk => hk.2) (.int .i64 t230)) (fun _ hk => hk.2) (.slice Ao38 t231.length co38)) (fun _ h_ => h_.1)))); (case side4 => exact (Kd.R_reads' HO222.out).2.1); rintro e w48 ⟨rfl, hb⟩; refine ⟨_, rfl, ?_⟩; have n0_ := Aside0.mk (Kd.R_below (by (with_reducible repeat (first | apply Kd.R_alloc | apply Kd.R_drewN | apply Kd.R_drew)); exact (Kd.R_mono (Kd.R_far (p := ⟨gb235, 1, none⟩) (Kd.R_far (p := ⟨gb235, 0, none⟩) (Kd.R_types HO218.out BK235.out (by decide)) (fun _ hk => hk.2) (.int .i64 t230)) (fun _ hk => hk.2) (.slice Ao38 t231.length co38)) (fun _ h_ => h_.1))) hb); have n1_ := Aside0.mk (Kd.R_below (by (with_reducible repeat (first | apply Kd.R_alloc | apply Kd.R_drewN | apply Kd.R_drew)); exact (Kd.R_mono (Kd.R_far (p := ⟨gb235, 1, none⟩) (Kd.R_far (p := ⟨gb235, 0, none⟩) (Kd.R_types HO222.out BK235.out (by decide)) (fun _ hk => hk.2) (.int .i64 t230)) (fun _ hk => hk.2) (.slice Ao38 t231.length co38)) (fun _ h_ => h_.1))) hb); have n2_ := Aside0.mk (Kd.R_below (by (with_reducible repeat (first | apply Kd.R_alloc | apply Kd.R_drewN | apply Kd.R_drew)); exact (Kd.R_mono (Kd.R_far (p := ⟨gb235, 1, none⟩) (Kd.R_far (p := ⟨gb235, 0, none⟩) (Kd.R_types HO228.out BK235.out (by decide)) (fun _ hk => hk.2) (.int .i64 t230)) (fun _ hk => hk.2) (.slice Ao38 t231.length co38)) (fun _ h_ => h_.1))) hb); have n3_ := Aside0.mk (Kd.R_below (by (with_reducible repeat (first | apply Kd.R_alloc | apply Kd.R_drewN | apply Kd.R_drew)); exact (Kd.R_mono (Kd.R_far (p := ⟨gb235, 1, none⟩) (Kd.R_far (p := ⟨gb235, 0, none⟩) (Kd.R_types HO233.out BK235.out (by decide)) (fun _ hk => hk.2) (.int .i64 t230)) (fun _ hk => hk.2) (.slice Ao38 t231.length co38)) (fun _ h_ => h_.1))) hb); have n4_ := Aside0.mk (blk_below (g := gb213) (o := .cells #[.int .i64 a0_0, .slice A0_1 l0_1.length c0_1] 34 (0, 0)) (by (with_reducible repeat (first | refine blk_drewN ?_ _ | refine blk_drew ?_ | refine blk_alloc ?_ _)); refine blk_far ?_ NB213_235.out _; (with_reducible repeat (first | refine blk_drewN ?_ _ | refine blk_drew ?_ | refine blk_alloc ?_ _)); refine blk_far ?_ NB213_235.out _; (with_reducible repeat (first | refine blk_drewN ?_ _ | refine blk_drew ?_ | refine blk_alloc ?_ _)); exact BK213.out) hb); have n5_ := Aside0.mk (blk_below (g := gb224) (o := .cells #[.int .i64 t219, .slice Ao24 t220.length co24] 25 (0, 0)) (by (with_reducible repeat (first | refine blk_drewN ?_ _ | refine blk_drew ?_ | refine blk_alloc ?_ _)); refine blk_far ?_ NB224_235.out _; (with_reducible repeat (first | refine blk_drewN ?_ _ | refine blk_drew ?_ | refine blk_alloc ?_ _)); refine blk_far ?_ NB224_235.out _; (with_reducible repeat (first | refine blk_drewN ?_ _ | refine blk_drew ?_ | refine blk_alloc ?_ _)); exact BK224.out) hb); have n6_ := Aside0.mk (blk_below (g := gb229) (o := .cells #[.int .i64 t225, .slice Ao31 t226.length co31] 25 (0, 0)) (by (with_reducible repeat (first | refine blk_drewN ?_ _ | refine blk_drew ?_ | refine blk_alloc ?_ _)); refine blk_far ?_ NB229_235.out _; (with_reducible repeat (first | refine blk_drewN ?_ _ | refine blk_drew ?_ | refine blk_alloc ?_ _)); refine blk_far ?_ NB229_235.out _; (with_reducible repeat (first | refine blk_drewN ?_ _ | refine blk_drew ?_ | refine blk_alloc ?_ _)); exact BK229.out) hb); have n7_ := Aside0.mk (blk_below (g := gb235) (o := .cells #[.int .i64 t230, .slice Ao38 t231.length co38] 25 (0, 0)) (by (with_reducible repeat (first | refine blk_drewN ?_ _ | refine blk_drew ?_ | refine blk_alloc ?_ _)); refine blk_put (cs := #[.int .i64 t230, .slice none 0 0]) ?_ 1 _ rfl; (with_reducible repeat (first | refine blk_drewN ?_ _ | refine blk_drew ?_ | refine blk_alloc ?_ _)); refine blk_put (cs := #[.int .i64 0, .slice none 0 0]) ?_ 0 _ rfl; (with_reducible repeat (first | refine blk_drewN ?_ _ | refine blk_drew ?_ | refine blk_alloc ?_ _)); exact BK235.out) hb); have n8_ := Aside0.mk (below_step (by repeat (first | (with_reducible first | exact HB.out | apply bwA | apply bwN | apply bwD | refine below_set ?_ GE213.out | refine below_set ?_ GE224.out | refine below_set ?_ GE229.out | refine below_set ?_ GE235.out) | exact HB.out)) hb); clear HO218; clear HO222; clear HO228; clear HO233; clear BK213; clear BK224; clear BK229; clear BK235; clear HB; have HO218 := n0_; have HO222 := n1_; have HO228 := n2_; have HO233 := n3_; have BK213 := n4_; have BK224 := n5_; have BK229 := n6_; have BK235 := n7_; have HB := n8_; clear n0_ n1_ n2_ n3_ n4_ n5_ n6_ n7_ n8_; (try clear hb); (try clear hb2); (try clear hk); (try clear hi)))
    go_meet
    case rel => exact ⟨_, ((t234 != t223)), (by first | rfl | (simp; done) | (simp [*]; done)), H', ⟨by first | omega | exact Nat.le_refl _⟩, ⟨by (with_reducible repeat (first | apply Kd.R_alloc | apply Kd.R_drewN | apply Kd.R_drew)); exact Kd.R_mono HO222.out (fun _ hk => ⟨hk.1.2, hk.2⟩)⟩, ⟨by (with_reducible repeat (first | apply Kd.R_alloc | apply Kd.R_drewN | apply Kd.R_drew)); exact Kd.R_mono HO228.out (fun _ hk => ⟨hk.1.2, hk.2⟩)⟩, ⟨by (with_reducible repeat (first | apply Kd.R_alloc | apply Kd.R_drewN | apply Kd.R_drew)); exact Kd.R_mono HO233.out (fun _ hk => ⟨hk.1.2, hk.2⟩)⟩, ⟨by (with_reducible repeat (first | refine blk_drewN ?_ _ | refine blk_drew ?_ | refine blk_alloc ?_ _)); exact BK213.out⟩, ⟨by (with_reducible repeat (first | refine blk_drewN ?_ _ | refine blk_drew ?_ | refine blk_alloc ?_ _)); exact BK224.out⟩, ⟨by (with_reducible repeat (first | refine blk_drewN ?_ _ | refine blk_drew ?_ | refine blk_alloc ?_ _)); exact BK229.out⟩, ⟨by (with_reducible repeat (first | refine blk_drewN ?_ _ | refine blk_drew ?_ | refine blk_alloc ?_ _)); exact BK235.out⟩, ⟨by repeat (first | (with_reducible first | exact HB.out | apply bwA | apply bwN | apply bwD | refine below_set ?_ GE213.out | refine below_set ?_ GE224.out | refine below_set ?_ GE229.out | refine below_set ?_ GE235.out) | exact HB.out)⟩⟩
   ·replace c40 := Bool.eq_false_iff.mpr c40
    subst c40
    have H1 : (laws_FnExactDiagramOr.j0 k a1 a2 t223 t234 true a0_0 l0_1 t219 t220 t225 t226 t230 t231) = some r := by rw [if_neg (show ¬ (false = true) by decide)] at H; exact H
    clear H
    have H := H1
    clear H1
    have H' := Aside0.mk H
    clear H
    have hnb49 := NB235_213.out
    have hnc49 := NB213_235.out
    have hnb50 := NB235_224.out
    have hnc50 := NB224_235.out
    have hnb51 := NB235_229.out
    have hnc51 := NB229_235.out
    have hcz52_0 : w33.cell? ⟨gb235, 0, none⟩ = some (.int .i64 0) := (blk_cell BK235.out 0).trans rfl
    have hcz52_1 : w33.cell? ⟨gb235, 1, none⟩ = some (.slice none 0 0) := (blk_cell BK235.out 1).trans rfl
    have hfz52_0 := blk_frozen BK235.out 0
    have hfz52_1 := blk_frozen BK235.out 1
    have hnb53 := NB224_213.out
    have hnc53 := NB213_224.out
    have hnb54 := NB224_229.out
    have hnc54 := NB229_224.out
    have hcz55_0 : w33.cell? ⟨gb224, 0, none⟩ = some (.int .i64 t219) := (blk_cell BK224.out 0).trans rfl
    have hcz55_1 : w33.cell? ⟨gb224, 1, none⟩ = some (.slice Ao24 t220.length co24) := (blk_cell BK224.out 1).trans rfl
    have hfz55_0 := blk_frozen BK224.out 0
    have hfz55_1 := blk_frozen BK224.out 1
    go_wp2_with (first | ((with_reducible refine gate_callee (f := 21) rfl ?_); refine goesL_ (some 42) rfl rfl Try.func21 (by kernel_rfl) rfl #[.agg #[.int .i64 t230, .slice Ao38 t231.length co38], .agg #[.int .i64 t219, .slice Ao24 t220.length co24]] rfl (by (try simp only [List.map_toArray, List.map_cons, List.map_nil]); first | done | rfl | (simp only [List.length_drop, List.length_take]; rfl)) ?_; (with_reducible refine (laws_eqDiagram.calls k t230 _ _ t231 t219 _ _ t220 false _ ?side1 ?side2 ?side3 ?side4 A39.out).mono ?_); (case side1 => refine (Kd.R_reads' (e := 71) (base := w.heap.size) (ok := fun k_ => (((True ∧ some k_ ≠ (.slice Ao19 t216.length co19 : Value).ownBlock) ∧ some k_ ≠ (.slice Ao24 t220.length co24 : Value).ownBlock) ∧ some k_ ≠ (.slice Ao31 t226.length co31 : Value).ownBlock)) (n := t231.length) (c := co38) ?_).2.2; exact (by (with_reducible repeat (first | apply Kd.R_alloc | apply Kd.R_drewN | apply Kd.R_drew)); exact (Kd.R_mono (Kd.R_far (p := ⟨gb235, 1, none⟩) (Kd.R_far (p := ⟨gb235, 0, none⟩) (Kd.R_types HO233.out BK235.out (by decide)) (fun _ hk => hk.2) (.int .i64 t230)) (fun _ hk => hk.2) (.slice Ao38 t231.length co38)) (fun _ h_ => h_.1)))); (case side2 => exact (Kd.R_reads' HO233.out).2.1); (case side3 => refine (Kd.R_reads' (e := 71) (base := w.heap.size) (ok := fun k_ => (((True ∧ some k_ ≠ (.slice Ao19 t216.length co19 : Value).ownBlock) ∧ some k_ ≠ (.slice Ao31 t226.length co31 : Value).ownBlock) ∧ some k_ ≠ (.slice Ao38 t231.length co38 : Value).ownBlock)) (n := t220.length) (c := co24) ?_).2.2; exact (by (with_reducible repeat (first | apply Kd.R_alloc | apply Kd.R_drewN | apply Kd.R_drew)); exact (Kd.R_mono (Kd.R_far (p := ⟨gb235, 1, none⟩) (Kd.R_far (p := ⟨gb235, 0, none⟩) (Kd.R_types HO222.out BK235.out (by decide)) (fun _ hk => hk.2) (.int .i64 t230)) (fun _ hk => hk.2) (.slice Ao38 t231.length co38)) (fun _ h_ => h_.1)))); (case side4 => exact (Kd.R_reads' HO222.out).2.1); rintro e w56 ⟨rfl, hb⟩; refine ⟨_, rfl, ?_⟩; have n0_ := Aside0.mk (Kd.R_below (by (with_reducible repeat (first | apply Kd.R_alloc | apply Kd.R_drewN | apply Kd.R_drew)); exact (Kd.R_mono (Kd.R_far (p := ⟨gb235, 1, none⟩) (Kd.R_far (p := ⟨gb235, 0, none⟩) (Kd.R_types HO218.out BK235.out (by decide)) (fun _ hk => hk.2) (.int .i64 t230)) (fun _ hk => hk.2) (.slice Ao38 t231.length co38)) (fun _ h_ => h_.1))) hb); have n1_ := Aside0.mk (Kd.R_below (by (with_reducible repeat (first | apply Kd.R_alloc | apply Kd.R_drewN | apply Kd.R_drew)); exact (Kd.R_mono (Kd.R_far (p := ⟨gb235, 1, none⟩) (Kd.R_far (p := ⟨gb235, 0, none⟩) (Kd.R_types HO222.out BK235.out (by decide)) (fun _ hk => hk.2) (.int .i64 t230)) (fun _ hk => hk.2) (.slice Ao38 t231.length co38)) (fun _ h_ => h_.1))) hb); have n2_ := Aside0.mk (Kd.R_below (by (with_reducible repeat (first | apply Kd.R_alloc | apply Kd.R_drewN | apply Kd.R_drew)); exact (Kd.R_mono (Kd.R_far (p := ⟨gb235, 1, none⟩) (Kd.R_far (p := ⟨gb235, 0, none⟩) (Kd.R_types HO228.out BK235.out (by decide)) (fun _ hk => hk.2) (.int .i64 t230)) (fun _ hk => hk.2) (.slice Ao38 t231.length co38)) (fun _ h_ => h_.1))) hb); have n3_ := Aside0.mk (Kd.R_below (by (with_reducible repeat (first | apply Kd.R_alloc | apply Kd.R_drewN | apply Kd.R_drew)); exact (Kd.R_mono (Kd.R_far (p := ⟨gb235, 1, none⟩) (Kd.R_far (p := ⟨gb235, 0, none⟩) (Kd.R_types HO233.out BK235.out (by decide)) (fun _ hk => hk.2) (.int .i64 t230)) (fun _ hk => hk.2) (.slice Ao38 t231.length co38)) (fun _ h_ => h_.1))) hb); have n4_ := Aside0.mk (blk_below (g := gb213) (o := .cells #[.int .i64 a0_0, .slice A0_1 l0_1.length c0_1] 34 (0, 0)) (by (with_reducible repeat (first | refine blk_drewN ?_ _ | refine blk_drew ?_ | refine blk_alloc ?_ _)); refine blk_far ?_ NB213_235.out _; (with_reducible repeat (first | refine blk_drewN ?_ _ | refine blk_drew ?_ | refine blk_alloc ?_ _)); refine blk_far ?_ NB213_235.out _; (with_reducible repeat (first | refine blk_drewN ?_ _ | refine blk_drew ?_ | refine blk_alloc ?_ _)); exact BK213.out) hb); have n5_ := Aside0.mk (blk_below (g := gb224) (o := .cells #[.int .i64 t219, .slice Ao24 t220.length co24] 25 (0, 0)) (by (with_reducible repeat (first | refine blk_drewN ?_ _ | refine blk_drew ?_ | refine blk_alloc ?_ _)); refine blk_far ?_ NB224_235.out _; (with_reducible repeat (first | refine blk_drewN ?_ _ | refine blk_drew ?_ | refine blk_alloc ?_ _)); refine blk_far ?_ NB224_235.out _; (with_reducible repeat (first | refine blk_drewN ?_ _ | refine blk_drew ?_ | refine blk_alloc ?_ _)); exact BK224.out) hb); have n6_ := Aside0.mk (blk_below (g := gb229) (o := .cells #[.int .i64 t225, .slice Ao31 t226.length co31] 25 (0, 0)) (by (with_reducible repeat (first | refine blk_drewN ?_ _ | refine blk_drew ?_ | refine blk_alloc ?_ _)); refine blk_far ?_ NB229_235.out _; (with_reducible repeat (first | refine blk_drewN ?_ _ | refine blk_drew ?_ | refine blk_alloc ?_ _)); refine blk_far ?_ NB229_235.out _; (with_reducible repeat (first | refine blk_drewN ?_ _ | refine blk_drew ?_ | refine blk_alloc ?_ _)); exact BK229.out) hb); have n7_ := Aside0.mk (blk_below (g := gb235) (o := .cells #[.int .i64 t230, .slice Ao38 t231.length co38] 25 (0, 0)) (by (with_reducible repeat (first | refine blk_drewN ?_ _ | refine blk_drew ?_ | refine blk_alloc ?_ _)); refine blk_put (cs := #[.int .i64 t230, .slice none 0 0]) ?_ 1 _ rfl; (with_reducible repeat (first | refine blk_drewN ?_ _ | refine blk_drew ?_ | refine blk_alloc ?_ _)); refine blk_put (cs := #[.int .i64 0, .slice none 0 0]) ?_ 0 _ rfl; (with_reducible repeat (first | refine blk_drewN ?_ _ | refine blk_drew ?_ | refine blk_alloc ?_ _)); exact BK235.out) hb); have n8_ := Aside0.mk (below_step (by repeat (first | (with_reducible first | exact HB.out | apply bwA | apply bwN | apply bwD | refine below_set ?_ GE213.out | refine below_set ?_ GE224.out | refine below_set ?_ GE229.out | refine below_set ?_ GE235.out) | exact HB.out)) hb); clear HO218; clear HO222; clear HO228; clear HO233; clear BK213; clear BK224; clear BK229; clear BK235; clear HB; have HO218 := n0_; have HO222 := n1_; have HO228 := n2_; have HO233 := n3_; have BK213 := n4_; have BK224 := n5_; have BK229 := n6_; have BK235 := n7_; have HB := n8_; clear n0_ n1_ n2_ n3_ n4_ n5_ n6_ n7_ n8_; (try clear hb); (try clear hb2); (try clear hk); (try clear hi)))
    go_meet
    case rel => exact ⟨_, (true), (by first | rfl | (simp; done) | (simp [*]; done)), H', ⟨by first | omega | exact Nat.le_refl _⟩, ⟨by (with_reducible repeat (first | apply Kd.R_alloc | apply Kd.R_drewN | apply Kd.R_drew)); exact Kd.R_mono HO222.out (fun _ hk => ⟨hk.1.2, hk.2⟩)⟩, ⟨by (with_reducible repeat (first | apply Kd.R_alloc | apply Kd.R_drewN | apply Kd.R_drew)); exact Kd.R_mono HO228.out (fun _ hk => ⟨hk.1.2, hk.2⟩)⟩, ⟨by (with_reducible repeat (first | apply Kd.R_alloc | apply Kd.R_drewN | apply Kd.R_drew)); exact Kd.R_mono HO233.out (fun _ hk => ⟨hk.1.2, hk.2⟩)⟩, ⟨by (with_reducible repeat (first | refine blk_drewN ?_ _ | refine blk_drew ?_ | refine blk_alloc ?_ _)); exact BK213.out⟩, ⟨by (with_reducible repeat (first | refine blk_drewN ?_ _ | refine blk_drew ?_ | refine blk_alloc ?_ _)); exact BK224.out⟩, ⟨by (with_reducible repeat (first | refine blk_drewN ?_ _ | refine blk_drew ?_ | refine blk_alloc ?_ _)); exact BK229.out⟩, ⟨by (with_reducible repeat (first | refine blk_drewN ?_ _ | refine blk_drew ?_ | refine blk_alloc ?_ _)); exact BK235.out⟩, ⟨by repeat (first | (with_reducible first | exact HB.out | apply bwA | apply bwN | apply bwD | refine below_set ?_ GE213.out | refine below_set ?_ GE224.out | refine below_set ?_ GE229.out | refine below_set ?_ GE235.out) | exact HB.out)⟩⟩
  case rest =>
   clear HC13
   try clear c1
   try clear c2
   try clear p2
   try clear c3
   try clear c4
   try clear c5
   try clear c5b0
   try clear c9
   try clear c18
   try clear c20
   try clear c21
   try clear c22
   try clear c28
   try clear c29
   try clear c34
   try clear c35
   try clear c36
   try clear c40
   try clear c41
   try clear c42
   try clear c43
   try clear c45
   try clear c46
   try clear c49
   try clear c50
   try clear c51
   try clear c53
   try clear c54
   try clear hcz15_0
   try clear hcz15_1
   try clear hcz17_0
   try clear hcz17_1
   try clear hcz23_0
   try clear hcz23_1
   try clear hcz25_0
   try clear hcz25_1
   try clear hcz30_0
   try clear hcz30_1
   try clear hcz37_0
   try clear hcz37_1
   try clear hcz44_0
   try clear hcz44_1
   try clear hcz47_0
   try clear hcz47_1
   try clear hcz52_0
   try clear hcz52_1
   try clear hcz55_0
   try clear hcz55_1
   try clear hcz7_0
   try clear hcz7_1
   try clear hfz15_0
   try clear hfz15_1
   try clear hfz17_0
   try clear hfz17_1
   try clear hfz23_0
   try clear hfz23_1
   try clear hfz25_0
   try clear hfz25_1
   try clear hfz30_0
   try clear hfz30_1
   try clear hfz37_0
   try clear hfz37_1
   try clear hfz44_0
   try clear hfz44_1
   try clear hfz47_0
   try clear hfz47_1
   try clear hfz52_0
   try clear hfz52_1
   try clear hfz55_0
   try clear hfz55_1
   try clear hfz7_0
   try clear hfz7_1
   obtain ⟨kq, x48_12, rfl, HA, HJ12, HO_225001, HO_230001, HO_236001, BK213, BK224, BK229, BK235, HB⟩ := hcut
   cases kq with
   | zero => exact absurd HA.out (by simp [laws_FnExactDiagramOr.j0])
   | succ kj12 =>
    have H := HA.out
    clear HA
    simp only [laws_FnExactDiagramOr.j0] at H
    by_cases c57 : x48_12 = true
    ·subst c57
     have H1 : (some false) = some r := by rw [if_pos rfl] at H; exact H
     clear H
     have H := H1
     clear H1
     obtain rfl := Option.some.inj H
     go_wp2
     go_ret
     exact ⟨by first | rfl | (simp [errW_none, errW_some] <;> rfl) | (simp [*, errW_none, errW_some] <;> rfl), by repeat (first | (with_reducible first | exact HB.out | apply bwA | apply bwN | apply bwD | refine below_set ?_ GE213.out | refine below_set ?_ GE224.out | refine below_set ?_ GE229.out | refine below_set ?_ GE235.out) | exact HB.out)⟩
    ·replace c57 := Bool.eq_false_iff.mpr c57
     subst c57
     have H1 : ((laws_toDiagram.f kj12 a0_0 l0_1).bind fun bt237 => ((laws_eqDiagram.f kj12 t225 t226 bt237.1 bt237.2).bind fun t241 => (if t241 = true then ((laws_markDiagram.f kj12 t225 t226 1).bind fun bt242 => (if bt242.1 < 0 then (laws_FnExactDiagramOr.j1 kj12 a1 a2 t223 true a0_0 l0_1 t219 t220 t230 t231) else ((laws_eqDiagram.f kj12 t230 t231 t219 t220).bind fun t244 => (if t244 = true then (laws_FnExactDiagramOr.j1 kj12 a1 a2 t223 (t234 != t223) a0_0 l0_1 t219 t220 t230 t231) else (laws_FnExactDiagramOr.j1 kj12 a1 a2 t223 true a0_0 l0_1 t219 t220 t230 t231))))) else (some false)))) = some r := by rw [if_neg (show ¬ (false = true) by decide)] at H; exact H
     clear H
     have H := H1
     clear H1
     replace H := Option.bind_eq_some_iff.mp H
     obtain ⟨⟨t237, t238⟩, A580, H⟩ := H
     replace H : ((laws_eqDiagram.f kj12 t225 t226 t237 t238).bind fun t241 => (if t241 = true then ((laws_markDiagram.f kj12 t225 t226 1).bind fun bt242 => (if bt242.1 < 0 then (laws_FnExactDiagramOr.j1 kj12 a1 a2 t223 true a0_0 l0_1 t219 t220 t230 t231) else ((laws_eqDiagram.f kj12 t230 t231 t219 t220).bind fun t244 => (if t244 = true then (laws_FnExactDiagramOr.j1 kj12 a1 a2 t223 (t234 != t223) a0_0 l0_1 t219 t220 t230 t231) else (laws_FnExactDiagramOr.j1 kj12 a1 a2 t223 true a0_0 l0_1 t219 t220 t230 t231))))) else (some false))) = some r := H
     have A58 := Aside0.mk A580
     clear A580
     replace H := Option.bind_eq_some_iff.mp H
     obtain ⟨t241, A590, H⟩ := H
     replace H : (if t241 = true then ((laws_markDiagram.f kj12 t225 t226 1).bind fun bt242 => (if bt242.1 < 0 then (laws_FnExactDiagramOr.j1 kj12 a1 a2 t223 true a0_0 l0_1 t219 t220 t230 t231) else ((laws_eqDiagram.f kj12 t230 t231 t219 t220).bind fun t244 => (if t244 = true then (laws_FnExactDiagramOr.j1 kj12 a1 a2 t223 (t234 != t223) a0_0 l0_1 t219 t220 t230 t231) else (laws_FnExactDiagramOr.j1 kj12 a1 a2 t223 true a0_0 l0_1 t219 t220 t230 t231))))) else (some false)) = some r := H
     have A59 := Aside0.mk A590
     clear A590
     by_cases c60 : t241 = true
     ·subst c60
      have H1 : ((laws_markDiagram.f kj12 t225 t226 1).bind fun bt242 => (if bt242.1 < 0 then (laws_FnExactDiagramOr.j1 kj12 a1 a2 t223 true a0_0 l0_1 t219 t220 t230 t231) else ((laws_eqDiagram.f kj12 t230 t231 t219 t220).bind fun t244 => (if t244 = true then (laws_FnExactDiagramOr.j1 kj12 a1 a2 t223 (t234 != t223) a0_0 l0_1 t219 t220 t230 t231) else (laws_FnExactDiagramOr.j1 kj12 a1 a2 t223 true a0_0 l0_1 t219 t220 t230 t231))))) = some r := by rw [if_pos rfl] at H; exact H
      clear H
      have H := H1
      clear H1
      replace H := Option.bind_eq_some_iff.mp H
      obtain ⟨⟨t242, t243⟩, A610, H⟩ := H
      replace H : (if t242 < 0 then (laws_FnExactDiagramOr.j1 kj12 a1 a2 t223 true a0_0 l0_1 t219 t220 t230 t231) else ((laws_eqDiagram.f kj12 t230 t231 t219 t220).bind fun t244 => (if t244 = true then (laws_FnExactDiagramOr.j1 kj12 a1 a2 t223 (t234 != t223) a0_0 l0_1 t219 t220 t230 t231) else (laws_FnExactDiagramOr.j1 kj12 a1 a2 t223 true a0_0 l0_1 t219 t220 t230 t231)))) = some r := H
      have A61 := Aside0.mk A610
      clear A610
      have HC62 := Aside0.mk H
      clear H
      try go_wp2
      have n0_ := Aside0.mk (Kd.R_drew HO_225001.out)
      have n1_ := Aside0.mk (Kd.R_drew HO_230001.out)
      have n2_ := Aside0.mk (Kd.R_drew HO_236001.out)
      have n3_ := Aside0.mk (blk_drew BK213.out)
      have n4_ := Aside0.mk (blk_drew BK224.out)
      have n5_ := Aside0.mk (blk_drew BK229.out)
      have n6_ := Aside0.mk (blk_drew BK235.out)
      have n7_ := Aside0.mk (below_drew1 HB.out)
      clear HO_225001
      clear HO_230001
      clear HO_236001
      clear BK213
      clear BK224
      clear BK229
      clear BK235
      clear HB
      have HO_225001 := n0_
      have HO_230001 := n1_
      have HO_236001 := n2_
      have BK213 := n3_
      have BK224 := n4_
      have BK229 := n5_
      have BK235 := n6_
      have HB := n7_
      clear n0_ n1_ n2_ n3_ n4_ n5_ n6_ n7_
      refine start_ (n := 5) (S := fun w' => w'.cell? ⟨gb229, 0, none⟩ = some (.int .i64 t225) ∧ w'.cell? ⟨gb229, 1, none⟩ = some (.slice Ao31 t226.length co31) ∧ w'.cell? ⟨gb213, 0, none⟩ = some (.int .i64 a0_0) ∧ w'.cell? ⟨gb213, 1, none⟩ = some (.slice A0_1 l0_1.length c0_1)) (ds := []) #[false, false, false, false, false] (by kernel_rfl) rfl rfl ⟨(blk_cell BK229.out 0).trans rfl, (blk_cell BK229.out 1).trans rfl, (blk_cell BK213.out 0).trans rfl, (blk_cell BK213.out 1).trans rfl⟩ (fun hHeld => ?_)
      generalize wc.drew = w63 at HO_225001 HO_230001 HO_236001 BK213 BK224 BK229 BK235 HB hHeld ⊢
      refine take_ (i := 0) (N := some 49) (v := ?_) (a' := ?_) #[true, false, false, false, false] rfl rfl (by kernel_rfl) (fun _ _ _ h => h) (Or.inl ⟨by rfl, ?_⟩) hHeld ?_ ?_
      rotate_left
      ·rintro w' ⟨s0, s1, s2, s3⟩
       go_simp
       with_reducible rfl
      rotate_left
      ·simp only [Act.put, List.setIfInBounds_toArray, List.set_cons_zero, List.set_cons_succ, i64_w, i32_w]
       rfl
      refine take_ (i := 1) (N := some 50) (v := ?_) (a' := ?_) #[true, true, false, false, false] rfl rfl (by kernel_rfl) (fun _ _ _ h => h) (Or.inl ⟨by rfl, ?_⟩) hHeld ?_ ?_
      rotate_left
      ·rintro w' ⟨s0, s1, s2, s3⟩
       go_simp
       with_reducible rfl
      rotate_left
      ·simp only [Act.put, List.setIfInBounds_toArray, List.set_cons_zero, List.set_cons_succ, i64_w, i32_w]
       rfl
      refine one_ (i := 2) (N := some 51) #[true, true, true, false, false] rfl rfl (by kernel_rfl) (by decide) (fun K hK => ?_)
      refine goes_ Try.func20 (by kernel_rfl) rfl #[.agg #[.int .i64 a0_0, .slice A0_1 l0_1.length c0_1]] (by rfl) rfl rfl (by (try simp only [List.map_toArray, List.map_cons, List.map_nil]); first | done | rfl | (simp only [List.length_drop, List.length_take]; rfl)) ?_
      with_reducible refine (laws_toDiagram.calls kj12 a0_0 _ _ l0_1 t237 t238 _ ?side1 ?side2 A58.out).mono ?_
      (case side1 => repeat (first | exact (Kd.C_below HR0_1.out HB.out) | (with_reducible refine Kd.C_alloc ?_ _) | (with_reducible refine Kd.C_drewN ?_ _) | (with_reducible refine Kd.C_drew ?_)))
      (case side2 => exact HC0_1.out)
      rintro e w64 ⟨v239, rfl, ho0, hb⟩
      refine ⟨_, rfl, ?_⟩
      have n0_ := Aside0.mk (Kd.R_elder' (by (with_reducible repeat (first | apply Kd.R_alloc | apply Kd.R_drewN | apply Kd.R_drew)); exact HO_225001.out) (Kd.R_base ho0) hb)
      have n1_ := Aside0.mk (Kd.R_elder' (by (with_reducible repeat (first | apply Kd.R_alloc | apply Kd.R_drewN | apply Kd.R_drew)); exact HO_230001.out) (Kd.R_base ho0) hb)
      have n2_ := Aside0.mk (Kd.R_elder' (by (with_reducible repeat (first | apply Kd.R_alloc | apply Kd.R_drewN | apply Kd.R_drew)); exact HO_236001.out) (Kd.R_base ho0) hb)
      have n3_ := Aside0.mk (Kd.R_lower (Kd.R_new' (Kd.R_new' (Kd.R_new' ho0 (Kd.R_lt (by (with_reducible repeat (first | apply Kd.R_alloc | apply Kd.R_drewN | apply Kd.R_drew)); exact HO_225001.out))) (Kd.R_lt (by (with_reducible repeat (first | apply Kd.R_alloc | apply Kd.R_drewN | apply Kd.R_drew)); exact HO_230001.out))) (Kd.R_lt (by (with_reducible repeat (first | apply Kd.R_alloc | apply Kd.R_drewN | apply Kd.R_drew)); exact HO_236001.out))) (below_size (by repeat (first | (with_reducible first | exact HB.out | apply bwA | apply bwN | apply bwD | refine below_set ?_ GE213.out | refine below_set ?_ GE224.out | refine below_set ?_ GE229.out | refine below_set ?_ GE235.out) | exact HB.out))))
      have n4_ := Aside0.mk (blk_below (g := gb213) (o := .cells #[.int .i64 a0_0, .slice A0_1 l0_1.length c0_1] 34 (0, 0)) (by (with_reducible repeat (first | refine blk_drewN ?_ _ | refine blk_drew ?_ | refine blk_alloc ?_ _)); exact BK213.out) hb)
      have n5_ := Aside0.mk (blk_below (g := gb224) (o := .cells #[.int .i64 t219, .slice Ao24 t220.length co24] 25 (0, 0)) (by (with_reducible repeat (first | refine blk_drewN ?_ _ | refine blk_drew ?_ | refine blk_alloc ?_ _)); exact BK224.out) hb)
      have n6_ := Aside0.mk (blk_below (g := gb229) (o := .cells #[.int .i64 t225, .slice Ao31 t226.length co31] 25 (0, 0)) (by (with_reducible repeat (first | refine blk_drewN ?_ _ | refine blk_drew ?_ | refine blk_alloc ?_ _)); exact BK229.out) hb)
      have n7_ := Aside0.mk (blk_below (g := gb235) (o := .cells #[.int .i64 t230, .slice Ao38 t231.length co38] 25 (0, 0)) (by (with_reducible repeat (first | refine blk_drewN ?_ _ | refine blk_drew ?_ | refine blk_alloc ?_ _)); exact BK235.out) hb)
      have n8_ := Aside0.mk (below_step (by repeat (first | (with_reducible first | exact HB.out | apply bwA | apply bwN | apply bwD | refine below_set ?_ GE213.out | refine below_set ?_ GE224.out | refine below_set ?_ GE229.out | refine below_set ?_ GE235.out) | exact HB.out)) hb)
      clear HO_225001
      clear HO_230001
      clear HO_236001
      clear BK213
      clear BK224
      clear BK229
      clear BK235
      clear HB
      have HO_225001 := n0_
      have HO_230001 := n1_
      have HO_236001 := n2_
      have HO240 := n3_
      have BK213 := n4_
      have BK224 := n5_
      have BK229 := n6_
      have BK235 := n7_
      have HB := n8_
      clear n0_ n1_ n2_ n3_ n4_ n5_ n6_ n7_ n8_
      (try clear hb)
      (try clear hb2)
      (try clear hk)
      (try clear hi)
      (try clear ho0)
      obtain ⟨Ao65, co65, eo65⟩ := Kd.R_slice HO240.out
      (first | subst eo65 | (injection eo65 with f1_ f2_ f3_; have f4_ := f1_.symm; have f5_ := f3_.symm; clear f1_ f2_ f3_; subst f4_; subst f5_))
      refine hK.out _ _ ⟨(blk_cell BK229.out 0).trans rfl, (blk_cell BK229.out 1).trans rfl, (blk_cell BK213.out 0).trans rfl, (blk_cell BK213.out 1).trans rfl⟩ (fun hHeld => ?_)
      clear hK K
      refine norm_ (a' := ?_) ?_ ?_
      rotate_left
      ·show Act.put _ (some 51) _ = _
       simp only [Act.put, List.setIfInBounds_toArray, List.set_cons_zero, List.set_cons_succ, i64_w, i32_w]
       rfl
      refine one_ (i := 3) (N := some 52) #[true, true, true, true, false] rfl rfl (by kernel_rfl) (by decide) (fun K hK => ?_)
      refine goes_ Try.func21 (by kernel_rfl) rfl #[.agg #[.int .i64 t225, .slice Ao31 t226.length co31], .agg #[.int .i64 t237, .slice Ao65 t238.length co65]] (by rfl) rfl rfl (by (try simp only [List.map_toArray, List.map_cons, List.map_nil]); first | done | rfl | (simp only [List.length_drop, List.length_take]; rfl)) ?_
      with_reducible refine (laws_eqDiagram.calls kj12 t225 _ _ t226 t237 _ _ t238 true _ ?side1 ?side2 ?side3 ?side4 A59.out).mono ?_
      (case side1 => repeat (first | exact (Kd.R_reads' HO_230001.out).2.2 | (with_reducible refine Kd.C_alloc ?_ _) | (with_reducible refine Kd.C_drewN ?_ _) | (with_reducible refine Kd.C_drew ?_)))
      (case side2 => exact (Kd.R_reads' HO_230001.out).2.1)
      (case side3 => repeat (first | exact (Kd.R_reads' HO240.out).2.2 | (with_reducible refine Kd.C_alloc ?_ _) | (with_reducible refine Kd.C_drewN ?_ _) | (with_reducible refine Kd.C_drew ?_)))
      (case side4 => exact (Kd.R_reads' HO240.out).2.1)
      rintro e w66 ⟨rfl, hb⟩
      refine ⟨_, rfl, ?_⟩
      have n0_ := Aside0.mk (Kd.R_below (by (with_reducible repeat (first | apply Kd.R_alloc | apply Kd.R_drewN | apply Kd.R_drew)); exact HO_225001.out) hb)
      have n1_ := Aside0.mk (Kd.R_below (by (with_reducible repeat (first | apply Kd.R_alloc | apply Kd.R_drewN | apply Kd.R_drew)); exact HO_230001.out) hb)
      have n2_ := Aside0.mk (Kd.R_below (by (with_reducible repeat (first | apply Kd.R_alloc | apply Kd.R_drewN | apply Kd.R_drew)); exact HO_236001.out) hb)
      have n3_ := Aside0.mk (Kd.R_below (by (with_reducible repeat (first | apply Kd.R_alloc | apply Kd.R_drewN | apply Kd.R_drew)); exact HO240.out) hb)
      have n4_ := Aside0.mk (blk_below (g := gb213) (o := .cells #[.int .i64 a0_0, .slice A0_1 l0_1.length c0_1] 34 (0, 0)) (by (with_reducible repeat (first | refine blk_drewN ?_ _ | refine blk_drew ?_ | refine blk_alloc ?_ _)); exact BK213.out) hb)
      have n5_ := Aside0.mk (blk_below (g := gb224) (o := .cells #[.int .i64 t219, .slice Ao24 t220.length co24] 25 (0, 0)) (by (with_reducible repeat (first | refine blk_drewN ?_ _ | refine blk_drew ?_ | refine blk_alloc ?_ _)); exact BK224.out) hb)
      have n6_ := Aside0.mk (blk_below (g := gb229) (o := .cells #[.int .i64 t225, .slice Ao31 t226.length co31] 25 (0, 0)) (by (with_reducible repeat (first | refine blk_drewN ?_ _ | refine blk_drew ?_ | refine blk_alloc ?_ _)); exact BK229.out) hb)
      have n7_ := Aside0.mk (blk_below (g := gb235) (o := .cells #[.int .i64 t230, .slice Ao38 t231.length co38] 25 (0, 0)) (by (with_reducible repeat (first | refine blk_drewN ?_ _ | refine blk_drew ?_ | refine blk_alloc ?_ _)); exact BK235.out) hb)
      have n8_ := Aside0.mk (below_step (by repeat (first | (with_reducible first | exact HB.out | apply bwA | apply bwN | apply bwD | refine below_set ?_ GE213.out | refine below_set ?_ GE224.out | refine below_set ?_ GE229.out | refine below_set ?_ GE235.out) | exact HB.out)) hb)
      clear HO_225001
      clear HO_230001
      clear HO_236001
      clear HO240
      clear BK213
      clear BK224
      clear BK229
      clear BK235
      clear HB
      have HO_225001 := n0_
      have HO_230001 := n1_
      have HO_236001 := n2_
      have HO240 := n3_
      have BK213 := n4_
      have BK224 := n5_
      have BK229 := n6_
      have BK235 := n7_
      have HB := n8_
      clear n0_ n1_ n2_ n3_ n4_ n5_ n6_ n7_ n8_
      (try clear hb)
      (try clear hb2)
      (try clear hk)
      (try clear hi)
      refine hK.out _ _ ⟨(blk_cell BK229.out 0).trans rfl, (blk_cell BK229.out 1).trans rfl, (blk_cell BK213.out 0).trans rfl, (blk_cell BK213.out 1).trans rfl⟩ (fun hHeld => ?_)
      clear hK K
      refine norm_ (a' := ?_) ?_ ?_
      rotate_left
      ·show Act.put _ (some 52) _ = _
       simp only [Act.put, List.setIfInBounds_toArray, List.set_cons_zero, List.set_cons_succ, i64_w, i32_w]
       rfl
      refine pure_ (i := 4) (N := some 53) (v := ?_) (a' := ?_) #[true, true, true, true, true] rfl rfl (by kernel_rfl) (fun _ _ _ h => h) (Or.inl ⟨by rfl, ?_⟩) ?_ ?_
      rotate_left
      ·intro w'
       go_simp
       with_reducible rfl
      rotate_left
      ·simp only [Act.put, List.setIfInBounds_toArray, List.set_cons_zero, List.set_cons_succ, i64_w, i32_w]
       rfl
      refine done_ (by kernel_rfl) ?_
      have hnb67 := NB229_213.out
      have hnc67 := NB213_229.out
      have hnb68 := NB229_224.out
      have hnc68 := NB224_229.out
      have hnb69 := NB229_235.out
      have hnc69 := NB235_229.out
      have hcz70_0 : w66.cell? ⟨gb229, 0, none⟩ = some (.int .i64 t225) := (blk_cell BK229.out 0).trans rfl
      have hcz70_1 : w66.cell? ⟨gb229, 1, none⟩ = some (.slice Ao31 t226.length co31) := (blk_cell BK229.out 1).trans rfl
      have hfz70_0 := blk_frozen BK229.out 0
      have hfz70_1 := blk_frozen BK229.out 1
      go_upto_region 14 with (first | ((with_reducible refine gate_callee (f := 22) rfl ?_); refine goesL_ (some 56) rfl rfl Try.func22 (by kernel_rfl) rfl #[.agg #[.int .i64 t225, .slice Ao31 t226.length co31], .int .i64 1] rfl (by (try simp only [List.map_toArray, List.map_cons, List.map_nil]); first | done | rfl | (simp only [List.length_drop, List.length_take]; rfl)) ?_; (with_reducible refine (laws_markDiagram.calls kj12 t225 (fun k_ => some k_ = (.slice Ao31 t226.length co31 : Value).ownBlock) (.slice Ao31 t226.length co31) t226 1 t242 t243 w _ ?side1 ?side2 A61.out).mono ?_); (case side1 => repeat (first | (with_reducible first | exact HB.out | apply bwA | apply bwN | apply bwD | refine below_set ?_ GE213.out | refine below_set ?_ GE224.out | refine below_set ?_ GE229.out | refine below_set ?_ GE235.out) | exact HB.out)); (case side2 => exact Kd.R_tight rfl HO_230001.out); rintro e w71 ⟨rfl, hy0, hb, hkp⟩; refine ⟨_, rfl, ?_⟩; have n0_ := Aside0.mk (Kd.R_mono (ok' := fun k_ => some k_ ≠ (.slice Ao31 t226.length co31 : Value).ownBlock ∧ some k_ ≠ (.slice Ao38 t231.length co38 : Value).ownBlock ∧ some k_ ≠ (.slice Ao65 t238.length co65 : Value).ownBlock) (Kd.R_keptB (HO_225001.out) hkp (fun k_ hk_ hs_ => (hk_.1.1) hs_)) (fun k_ hk_ => ⟨hk_.1.1.1, hk_.1.1.2, hk_.1.2⟩)); have n1_ := Aside0.mk (Kd.R_reok rfl hy0 (fun k_ e_ => HO_230001.out.1 k_ e_)); have n2_ := Aside0.mk (Kd.R_mono (ok' := fun k_ => some k_ ≠ (.slice Ao24 t220.length co24 : Value).ownBlock ∧ some k_ ≠ (.slice Ao31 t226.length co31 : Value).ownBlock ∧ some k_ ≠ (.slice Ao65 t238.length co65 : Value).ownBlock) (Kd.R_keptB (HO_236001.out) hkp (fun k_ hk_ hs_ => (hk_.1.2) hs_)) (fun k_ hk_ => ⟨hk_.1.1.1, hk_.1.1.2, hk_.1.2⟩)); have n3_ := Aside0.mk (blk_kept (by (with_reducible repeat (first | refine blk_drewN ?_ _ | refine blk_drew ?_ | refine blk_alloc ?_ _)); exact BK213.out) hkp (fun hs_ => (fun e_ => (Kd.R_ne HO_230001.out BK213.out (by decide)) e_) hs_)); have n4_ := Aside0.mk (blk_kept (by (with_reducible repeat (first | refine blk_drewN ?_ _ | refine blk_drew ?_ | refine blk_alloc ?_ _)); exact BK224.out) hkp (fun hs_ => (fun e_ => (Kd.R_ne HO_230001.out BK224.out (by decide)) e_) hs_)); have n5_ := Aside0.mk (blk_kept (by (with_reducible repeat (first | refine blk_drewN ?_ _ | refine blk_drew ?_ | refine blk_alloc ?_ _)); exact BK229.out) hkp (fun hs_ => (fun e_ => (Kd.R_ne HO_230001.out BK229.out (by decide)) e_) hs_)); have n6_ := Aside0.mk (blk_kept (by (with_reducible repeat (first | refine blk_drewN ?_ _ | refine blk_drew ?_ | refine blk_alloc ?_ _)); exact BK235.out) hkp (fun hs_ => (fun e_ => (Kd.R_ne HO_230001.out BK235.out (by decide)) e_) hs_)); have n7_ := Aside0.mk (Kd.R_mono (ok' := fun k_ => some k_ ≠ (.slice Ao24 t220.length co24 : Value).ownBlock ∧ some k_ ≠ (.slice Ao31 t226.length co31 : Value).ownBlock ∧ some k_ ≠ (.slice Ao38 t231.length co38 : Value).ownBlock) (Kd.R_keptB (HO240.out) hkp (fun k_ hk_ hs_ => (hk_.1.2) hs_)) (fun k_ hk_ => ⟨hk_.1.1.1.2, hk_.1.1.2, hk_.1.2⟩)); have n8_ := Aside0.mk (hb); clear HO_225001; clear HO_230001; clear HO_236001; clear BK213; clear BK224; clear BK229; clear BK235; clear HO240; clear HB; have HO_225001 := n0_; have HO_230001 := n1_; have HO_236001 := n2_; have BK213 := n3_; have BK224 := n4_; have BK229 := n5_; have BK235 := n6_; have HO240 := n7_; have HB := n8_; clear n0_ n1_ n2_ n3_ n4_ n5_ n6_ n7_ n8_; (try clear hb); (try clear hkp); (try clear hy0)))
      (try simp only [Act.put, List.setIfInBounds_toArray, List.set_cons_zero, List.set_cons_succ])
      go_cut [69] (fun v69 wc => ∃ (kq : Nat) (x69_61 : Bool), v69 = .bool x69_61 ∧ Aside0 (laws_FnExactDiagramOr.j1 kq a1 a2 t223 x69_61 a0_0 l0_1 t219 t220 t230 t231 = some r) ∧ Aside0 (kq ≤ kj12) ∧ Aside0 (Kd.R k71 71 wc w.heap.size (fun k_ => some k_ ≠ ((.slice Ao31 t226.length co31) : Value).ownBlock ∧ some k_ ≠ ((.slice Ao38 t231.length co38) : Value).ownBlock) (.slice Ao24 t220.length co24) t220) ∧ Aside0 (Kd.R k71 71 wc w.heap.size (fun k_ => some k_ ≠ ((.slice Ao24 t220.length co24) : Value).ownBlock ∧ some k_ ≠ ((.slice Ao38 t231.length co38) : Value).ownBlock) (.slice Ao31 t226.length co31) t243) ∧ Aside0 (Kd.R k71 71 wc w.heap.size (fun k_ => some k_ ≠ ((.slice Ao24 t220.length co24) : Value).ownBlock ∧ some k_ ≠ ((.slice Ao31 t226.length co31) : Value).ownBlock) (.slice Ao38 t231.length co38) t231) ∧ Aside0 (wc.heap[gb213]? = some (.cells #[.int .i64 a0_0, (.slice A0_1 l0_1.length c0_1)] 34 (0, 0))) ∧ Aside0 (wc.heap[gb224]? = some (.cells #[.int .i64 t219, (.slice Ao24 t220.length co24)] 25 (0, 0))) ∧ Aside0 (wc.heap[gb229]? = some (.cells #[.int .i64 t225, (.slice Ao31 t226.length co31)] 25 (0, 0))) ∧ Aside0 (wc.heap[gb235]? = some (.cells #[.int .i64 t230, (.slice Ao38 t231.length co38)] 25 (0, 0))) ∧ Aside0 (Below w.heap.size w wc))
      case first =>
       have H := HC62.out
       clear HC62
       by_cases c72 : t242 < 0
       ·rw [if_pos c72] at H
        have c72b0 : decide (t242 < 0) = true := decide_eq_true c72
        clear c72
        (first | rw [c72b0] | (simp only [i64_w, i32_w]; rw [c72b0]) | skip)
        have H' := Aside0.mk H
        clear H
        go_wp2
        go_meet
        case rel => exact ⟨_, (true), (by first | rfl | (simp; done) | (simp [*]; done)), H', ⟨by have := HJ12.out; first | omega | exact Nat.le_refl _⟩, ⟨by (with_reducible repeat (first | apply Kd.R_alloc | apply Kd.R_drewN | apply Kd.R_drew)); exact Kd.R_mono HO_225001.out (fun _ hk => ⟨hk.1, hk.2.1⟩)⟩, ⟨by (with_reducible repeat (first | apply Kd.R_alloc | apply Kd.R_drewN | apply Kd.R_drew)); exact Kd.R_mono HO_230001.out (fun _ hk => ⟨hk.1.1, hk.1.2⟩)⟩, ⟨by (with_reducible repeat (first | apply Kd.R_alloc | apply Kd.R_drewN | apply Kd.R_drew)); exact Kd.R_mono HO_236001.out (fun _ hk => ⟨hk.1, hk.2.1⟩)⟩, ⟨by (with_reducible repeat (first | refine blk_drewN ?_ _ | refine blk_drew ?_ | refine blk_alloc ?_ _)); exact BK213.out⟩, ⟨by (with_reducible repeat (first | refine blk_drewN ?_ _ | refine blk_drew ?_ | refine blk_alloc ?_ _)); exact BK224.out⟩, ⟨by (with_reducible repeat (first | refine blk_drewN ?_ _ | refine blk_drew ?_ | refine blk_alloc ?_ _)); exact BK229.out⟩, ⟨by (with_reducible repeat (first | refine blk_drewN ?_ _ | refine blk_drew ?_ | refine blk_alloc ?_ _)); exact BK235.out⟩, ⟨by repeat (first | (with_reducible first | exact HB.out | apply bwA | apply bwN | apply bwD | refine below_set ?_ GE213.out | refine below_set ?_ GE224.out | refine below_set ?_ GE229.out | refine below_set ?_ GE235.out) | exact HB.out)⟩⟩
       ·rw [if_neg c72] at H
        have c72b0 : decide (t242 < 0) = false := decide_eq_false c72
        clear c72
        (first | rw [c72b0] | (simp only [i64_w, i32_w]; rw [c72b0]) | skip)
        replace H := Option.bind_eq_some_iff.mp H
        obtain ⟨t244, A730, H⟩ := H
        replace H : (if t244 = true then (laws_FnExactDiagramOr.j1 kj12 a1 a2 t223 (t234 != t223) a0_0 l0_1 t219 t220 t230 t231) else (laws_FnExactDiagramOr.j1 kj12 a1 a2 t223 true a0_0 l0_1 t219 t220 t230 t231)) = some r := H
        have A73 := Aside0.mk A730
        clear A730
        by_cases c74 : t244 = true
        ·subst c74
         have H1 : (laws_FnExactDiagramOr.j1 kj12 a1 a2 t223 (t234 != t223) a0_0 l0_1 t219 t220 t230 t231) = some r := by rw [if_pos rfl] at H; exact H
         clear H
         have H := H1
         clear H1
         have H' := Aside0.mk H
         clear H
         have hnb75 := NB235_213.out
         have hnc75 := NB213_235.out
         have hnb76 := NB235_224.out
         have hnc76 := NB224_235.out
         have hnb77 := NB235_229.out
         have hnc77 := NB229_235.out
         have hcz78_0 : w71.cell? ⟨gb235, 0, none⟩ = some (.int .i64 t230) := (blk_cell BK235.out 0).trans rfl
         have hcz78_1 : w71.cell? ⟨gb235, 1, none⟩ = some (.slice Ao38 t231.length co38) := (blk_cell BK235.out 1).trans rfl
         have hfz78_0 := blk_frozen BK235.out 0
         have hfz78_1 := blk_frozen BK235.out 1
         have hnb79 := NB224_213.out
         have hnc79 := NB213_224.out
         have hnb80 := NB224_229.out
         have hnc80 := NB229_224.out
         have hcz81_0 : w71.cell? ⟨gb224, 0, none⟩ = some (.int .i64 t219) := (blk_cell BK224.out 0).trans rfl
         have hcz81_1 : w71.cell? ⟨gb224, 1, none⟩ = some (.slice Ao24 t220.length co24) := (blk_cell BK224.out 1).trans rfl
         have hfz81_0 := blk_frozen BK224.out 0
         have hfz81_1 := blk_frozen BK224.out 1
         go_wp2_with (first | (go_at_call 21; (with_reducible refine (laws_eqDiagram.calls kj12 t230 _ _ t231 t219 _ _ t220 true _ ?side1 ?side2 ?side3 ?side4 A73.out).mono ?_); (case side1 => repeat (first | exact (Kd.R_reads' HO_236001.out).2.2 | (with_reducible refine Kd.C_alloc ?_ _) | (with_reducible refine Kd.C_drewN ?_ _) | (with_reducible refine Kd.C_drew ?_))); (case side2 => exact (Kd.R_reads' HO_236001.out).2.1); (case side3 => repeat (first | exact (Kd.R_reads' HO_225001.out).2.2 | (with_reducible refine Kd.C_alloc ?_ _) | (with_reducible refine Kd.C_drewN ?_ _) | (with_reducible refine Kd.C_drew ?_))); (case side4 => exact (Kd.R_reads' HO_225001.out).2.1); rintro e w82 ⟨rfl, hb⟩; have n0_ := Aside0.mk (Kd.R_below (by (with_reducible repeat (first | apply Kd.R_alloc | apply Kd.R_drewN | apply Kd.R_drew)); exact HO_225001.out) hb); have n1_ := Aside0.mk (Kd.R_below (by (with_reducible repeat (first | apply Kd.R_alloc | apply Kd.R_drewN | apply Kd.R_drew)); exact HO_230001.out) hb); have n2_ := Aside0.mk (Kd.R_below (by (with_reducible repeat (first | apply Kd.R_alloc | apply Kd.R_drewN | apply Kd.R_drew)); exact HO_236001.out) hb); have n3_ := Aside0.mk (Kd.R_below (by (with_reducible repeat (first | apply Kd.R_alloc | apply Kd.R_drewN | apply Kd.R_drew)); exact HO240.out) hb); have n4_ := Aside0.mk (blk_below (g := gb213) (o := .cells #[.int .i64 a0_0, .slice A0_1 l0_1.length c0_1] 34 (0, 0)) (by (with_reducible repeat (first | refine blk_drewN ?_ _ | refine blk_drew ?_ | refine blk_alloc ?_ _)); exact BK213.out) hb); have n5_ := Aside0.mk (blk_below (g := gb224) (o := .cells #[.int .i64 t219, .slice Ao24 t220.length co24] 25 (0, 0)) (by (with_reducible repeat (first | refine blk_drewN ?_ _ | refine blk_drew ?_ | refine blk_alloc ?_ _)); exact BK224.out) hb); have n6_ := Aside0.mk (blk_below (g := gb229) (o := .cells #[.int .i64 t225, .slice Ao31 t226.length co31] 25 (0, 0)) (by (with_reducible repeat (first | refine blk_drewN ?_ _ | refine blk_drew ?_ | refine blk_alloc ?_ _)); exact BK229.out) hb); have n7_ := Aside0.mk (blk_below (g := gb235) (o := .cells #[.int .i64 t230, .slice Ao38 t231.length co38] 25 (0, 0)) (by (with_reducible repeat (first | refine blk_drewN ?_ _ | refine blk_drew ?_ | refine blk_alloc ?_ _)); exact BK235.out) hb); have n8_ := Aside0.mk (below_step (by repeat (first | (with_reducible first | exact HB.out | apply bwA | apply bwN | apply bwD | refine below_set ?_ GE213.out | refine below_set ?_ GE224.out | refine below_set ?_ GE229.out | refine below_set ?_ GE235.out) | exact HB.out)) hb); clear HO_225001; clear HO_230001; clear HO_236001; clear HO240; clear BK213; clear BK224; clear BK229; clear BK235; clear HB; have HO_225001 := n0_; have HO_230001 := n1_; have HO_236001 := n2_; have HO240 := n3_; have BK213 := n4_; have BK224 := n5_; have BK229 := n6_; have BK235 := n7_; have HB := n8_; clear n0_ n1_ n2_ n3_ n4_ n5_ n6_ n7_ n8_; (try clear hb); (try clear hb2); (try clear hk); (try clear hi)))
         go_meet
         case rel => exact ⟨_, ((t234 != t223)), (by first | rfl | (simp; done) | (simp [*]; done)), H', ⟨by have := HJ12.out; first | omega | exact Nat.le_refl _⟩, ⟨by (with_reducible repeat (first | apply Kd.R_alloc | apply Kd.R_drewN | apply Kd.R_drew)); exact Kd.R_mono HO_225001.out (fun _ hk => ⟨hk.1, hk.2.1⟩)⟩, ⟨by (with_reducible repeat (first | apply Kd.R_alloc | apply Kd.R_drewN | apply Kd.R_drew)); exact Kd.R_mono HO_230001.out (fun _ hk => ⟨hk.1.1, hk.1.2⟩)⟩, ⟨by (with_reducible repeat (first | apply Kd.R_alloc | apply Kd.R_drewN | apply Kd.R_drew)); exact Kd.R_mono HO_236001.out (fun _ hk => ⟨hk.1, hk.2.1⟩)⟩, ⟨by (with_reducible repeat (first | refine blk_drewN ?_ _ | refine blk_drew ?_ | refine blk_alloc ?_ _)); exact BK213.out⟩, ⟨by (with_reducible repeat (first | refine blk_drewN ?_ _ | refine blk_drew ?_ | refine blk_alloc ?_ _)); exact BK224.out⟩, ⟨by (with_reducible repeat (first | refine blk_drewN ?_ _ | refine blk_drew ?_ | refine blk_alloc ?_ _)); exact BK229.out⟩, ⟨by (with_reducible repeat (first | refine blk_drewN ?_ _ | refine blk_drew ?_ | refine blk_alloc ?_ _)); exact BK235.out⟩, ⟨by repeat (first | (with_reducible first | exact HB.out | apply bwA | apply bwN | apply bwD | refine below_set ?_ GE213.out | refine below_set ?_ GE224.out | refine below_set ?_ GE229.out | refine below_set ?_ GE235.out) | exact HB.out)⟩⟩
        ·replace c74 := Bool.eq_false_iff.mpr c74
         subst c74
         have H1 : (laws_FnExactDiagramOr.j1 kj12 a1 a2 t223 true a0_0 l0_1 t219 t220 t230 t231) = some r := by rw [if_neg (show ¬ (false = true) by decide)] at H; exact H
         clear H
         have H := H1
         clear H1
         have H' := Aside0.mk H
         clear H
         have hnb83 := NB235_213.out
         have hnc83 := NB213_235.out
         have hnb84 := NB235_224.out
         have hnc84 := NB224_235.out
         have hnb85 := NB235_229.out
         have hnc85 := NB229_235.out
         have hcz86_0 : w71.cell? ⟨gb235, 0, none⟩ = some (.int .i64 t230) := (blk_cell BK235.out 0).trans rfl
         have hcz86_1 : w71.cell? ⟨gb235, 1, none⟩ = some (.slice Ao38 t231.length co38) := (blk_cell BK235.out 1).trans rfl
         have hfz86_0 := blk_frozen BK235.out 0
         have hfz86_1 := blk_frozen BK235.out 1
         have hnb87 := NB224_213.out
         have hnc87 := NB213_224.out
         have hnb88 := NB224_229.out
         have hnc88 := NB229_224.out
         have hcz89_0 : w71.cell? ⟨gb224, 0, none⟩ = some (.int .i64 t219) := (blk_cell BK224.out 0).trans rfl
         have hcz89_1 : w71.cell? ⟨gb224, 1, none⟩ = some (.slice Ao24 t220.length co24) := (blk_cell BK224.out 1).trans rfl
         have hfz89_0 := blk_frozen BK224.out 0
         have hfz89_1 := blk_frozen BK224.out 1
         go_wp2_with (first | (go_at_call 21; (with_reducible refine (laws_eqDiagram.calls kj12 t230 _ _ t231 t219 _ _ t220 false _ ?side1 ?side2 ?side3 ?side4 A73.out).mono ?_); (case side1 => repeat (first | exact (Kd.R_reads' HO_236001.out).2.2 | (with_reducible refine Kd.C_alloc ?_ _) | (with_reducible refine Kd.C_drewN ?_ _) | (with_reducible refine Kd.C_drew ?_))); (case side2 => exact (Kd.R_reads' HO_236001.out).2.1); (case side3 => repeat (first | exact (Kd.R_reads' HO_225001.out).2.2 | (with_reducible refine Kd.C_alloc ?_ _) | (with_reducible refine Kd.C_drewN ?_ _) | (with_reducible refine Kd.C_drew ?_))); (case side4 => exact (Kd.R_reads' HO_225001.out).2.1); rintro e w90 ⟨rfl, hb⟩; have n0_ := Aside0.mk (Kd.R_below (by (with_reducible repeat (first | apply Kd.R_alloc | apply Kd.R_drewN | apply Kd.R_drew)); exact HO_225001.out) hb); have n1_ := Aside0.mk (Kd.R_below (by (with_reducible repeat (first | apply Kd.R_alloc | apply Kd.R_drewN | apply Kd.R_drew)); exact HO_230001.out) hb); have n2_ := Aside0.mk (Kd.R_below (by (with_reducible repeat (first | apply Kd.R_alloc | apply Kd.R_drewN | apply Kd.R_drew)); exact HO_236001.out) hb); have n3_ := Aside0.mk (Kd.R_below (by (with_reducible repeat (first | apply Kd.R_alloc | apply Kd.R_drewN | apply Kd.R_drew)); exact HO240.out) hb); have n4_ := Aside0.mk (blk_below (g := gb213) (o := .cells #[.int .i64 a0_0, .slice A0_1 l0_1.length c0_1] 34 (0, 0)) (by (with_reducible repeat (first | refine blk_drewN ?_ _ | refine blk_drew ?_ | refine blk_alloc ?_ _)); exact BK213.out) hb); have n5_ := Aside0.mk (blk_below (g := gb224) (o := .cells #[.int .i64 t219, .slice Ao24 t220.length co24] 25 (0, 0)) (by (with_reducible repeat (first | refine blk_drewN ?_ _ | refine blk_drew ?_ | refine blk_alloc ?_ _)); exact BK224.out) hb); have n6_ := Aside0.mk (blk_below (g := gb229) (o := .cells #[.int .i64 t225, .slice Ao31 t226.length co31] 25 (0, 0)) (by (with_reducible repeat (first | refine blk_drewN ?_ _ | refine blk_drew ?_ | refine blk_alloc ?_ _)); exact BK229.out) hb); have n7_ := Aside0.mk (blk_below (g := gb235) (o := .cells #[.int .i64 t230, .slice Ao38 t231.length co38] 25 (0, 0)) (by (with_reducible repeat (first | refine blk_drewN ?_ _ | refine blk_drew ?_ | refine blk_alloc ?_ _)); exact BK235.out) hb); have n8_ := Aside0.mk (below_step (by repeat (first | (with_reducible first | exact HB.out | apply bwA | apply bwN | apply bwD | refine below_set ?_ GE213.out | refine below_set ?_ GE224.out | refine below_set ?_ GE229.out | refine below_set ?_ GE235.out) | exact HB.out)) hb); clear HO_225001; clear HO_230001; clear HO_236001; clear HO240; clear BK213; clear BK224; clear BK229; clear BK235; clear HB; have HO_225001 := n0_; have HO_230001 := n1_; have HO_236001 := n2_; have HO240 := n3_; have BK213 := n4_; have BK224 := n5_; have BK229 := n6_; have BK235 := n7_; have HB := n8_; clear n0_ n1_ n2_ n3_ n4_ n5_ n6_ n7_ n8_; (try clear hb); (try clear hb2); (try clear hk); (try clear hi)))
         go_meet
         case rel => exact ⟨_, (true), (by first | rfl | (simp; done) | (simp [*]; done)), H', ⟨by have := HJ12.out; first | omega | exact Nat.le_refl _⟩, ⟨by (with_reducible repeat (first | apply Kd.R_alloc | apply Kd.R_drewN | apply Kd.R_drew)); exact Kd.R_mono HO_225001.out (fun _ hk => ⟨hk.1, hk.2.1⟩)⟩, ⟨by (with_reducible repeat (first | apply Kd.R_alloc | apply Kd.R_drewN | apply Kd.R_drew)); exact Kd.R_mono HO_230001.out (fun _ hk => ⟨hk.1.1, hk.1.2⟩)⟩, ⟨by (with_reducible repeat (first | apply Kd.R_alloc | apply Kd.R_drewN | apply Kd.R_drew)); exact Kd.R_mono HO_236001.out (fun _ hk => ⟨hk.1, hk.2.1⟩)⟩, ⟨by (with_reducible repeat (first | refine blk_drewN ?_ _ | refine blk_drew ?_ | refine blk_alloc ?_ _)); exact BK213.out⟩, ⟨by (with_reducible repeat (first | refine blk_drewN ?_ _ | refine blk_drew ?_ | refine blk_alloc ?_ _)); exact BK224.out⟩, ⟨by (with_reducible repeat (first | refine blk_drewN ?_ _ | refine blk_drew ?_ | refine blk_alloc ?_ _)); exact BK229.out⟩, ⟨by (with_reducible repeat (first | refine blk_drewN ?_ _ | refine blk_drew ?_ | refine blk_alloc ?_ _)); exact BK235.out⟩, ⟨by repeat (first | (with_reducible first | exact HB.out | apply bwA | apply bwN | apply bwD | refine below_set ?_ GE213.out | refine below_set ?_ GE224.out | refine below_set ?_ GE229.out | refine below_set ?_ GE235.out) | exact HB.out)⟩⟩
      case rest =>
       clear HC62
       try clear c1
       try clear c2
       try clear p2
       try clear c3
       try clear c4
       try clear c5
       try clear c5b0
       try clear c6
       try clear c7
       try clear c8
       try clear c9
       try clear c18
       try clear c20
       try clear c21
       try clear c22
       try clear c28
       try clear c29
       try clear c34
       try clear c35
       try clear c36
       try clear c40
       try clear c41
       try clear c42
       try clear c43
       try clear c45
       try clear c46
       try clear c49
       try clear c50
       try clear c51
       try clear c53
       try clear c54
       try clear c57
       try clear c60
       try clear c67
       try clear c68
       try clear c69
       try clear c72
       try clear c72b0
       try clear c74
       try clear c75
       try clear c76
       try clear c77
       try clear c79
       try clear c80
       try clear c83
       try clear c84
       try clear c85
       try clear c87
       try clear c88
       try clear hcz15_0
       try clear hcz15_1
       try clear hcz17_0
       try clear hcz17_1
       try clear hcz23_0
       try clear hcz23_1
       try clear hcz25_0
       try clear hcz25_1
       try clear hcz30_0
       try clear hcz30_1
       try clear hcz37_0
       try clear hcz37_1
       try clear hcz44_0
       try clear hcz44_1
       try clear hcz47_0
       try clear hcz47_1
       try clear hcz52_0
       try clear hcz52_1
       try clear hcz55_0
       try clear hcz55_1
       try clear hcz70_0
       try clear hcz70_1
       try clear hcz78_0
       try clear hcz78_1
       try clear hcz7_0
       try clear hcz7_1
       try clear hcz81_0
       try clear hcz81_1
       try clear hcz86_0
       try clear hcz86_1
       try clear hcz89_0
       try clear hcz89_1
       try clear hfz15_0
       try clear hfz15_1
       try clear hfz17_0
       try clear hfz17_1
       try clear hfz23_0
       try clear hfz23_1
       try clear hfz25_0
       try clear hfz25_1
       try clear hfz30_0
       try clear hfz30_1
       try clear hfz37_0
       try clear hfz37_1
       try clear hfz44_0
       try clear hfz44_1
       try clear hfz47_0
       try clear hfz47_1
       try clear hfz52_0
       try clear hfz52_1
       try clear hfz55_0
       try clear hfz55_1
       try clear hfz70_0
       try clear hfz70_1
       try clear hfz78_0
       try clear hfz78_1
       try clear hfz7_0
       try clear hfz7_1
       try clear hfz81_0
       try clear hfz81_1
       try clear hfz86_0
       try clear hfz86_1
       try clear hfz89_0
       try clear hfz89_1
       try clear p2
       obtain ⟨kq, x69_61, rfl, HA, HJ61, HO_225001, HO_230001, HO_236001, BK213, BK224, BK229, BK235, HB⟩ := hcut
       have hl230001_61 := (Kd.R_reads' HO_230001.out).1
       rw [hl230001_61] at HO_230001
       (try simp only [hl230001_61])
       (try simp only [hl230001_61] at BK213)
       (try simp only [hl230001_61] at BK224)
       (try simp only [hl230001_61] at BK229)
       (try simp only [hl230001_61] at BK235)
       (try simp only [hl230001_61] at HO_225001)
       (try simp only [hl230001_61] at HO_236001)
       cases kq with
       | zero => exact absurd HA.out (by simp [laws_FnExactDiagramOr.j1])
       | succ kj61 =>
        have H := HA.out
        clear HA
        simp only [laws_FnExactDiagramOr.j1] at H
        by_cases c91 : x69_61 = true
        ·subst c91
         have H1 : (some false) = some r := by rw [if_pos rfl] at H; exact H
         clear H
         have H := H1
         clear H1
         obtain rfl := Option.some.inj H
         go_wp2
         go_ret
         exact ⟨by first | rfl | (simp [errW_none, errW_some] <;> rfl) | (simp [*, errW_none, errW_some] <;> rfl), by repeat (first | (with_reducible first | exact HB.out | apply bwA | apply bwN | apply bwD | refine below_set ?_ GE213.out | refine below_set ?_ GE224.out | refine below_set ?_ GE229.out | refine below_set ?_ GE235.out) | exact HB.out)⟩
        ·replace c91 := Bool.eq_false_iff.mpr c91
         subst c91
         have H1 : ((laws_markDiagram.f kj61 t230 t231 1).bind fun bt245 => ((laws_heldDiagram.f kj61 t230 bt245.2 1).bind fun t247 => (if t247 < 0 then (some false) else (if t247 = bt245.1 then ((laws_toDiagram.f kj61 a0_0 l0_1).bind fun bt248 => ((impl_DiagramOr.f kj61 bt248.1 bt248.2 a1 a2).bind fun bt252 => ((laws_eqDiagram.f kj61 bt252.1 bt252.2.1 t219 t220).bind fun t258 => (if t258 = true then (laws_FnExactDiagramOr.j2 kj61 bt245.1 (bt252.2.2 != t223) t230 bt245.2) else (laws_FnExactDiagramOr.j2 kj61 bt245.1 true t230 bt245.2))))) else (some false))))) = some r := by rw [if_neg (show ¬ (false = true) by decide)] at H; exact H
         clear H
         have H := H1
         clear H1
         replace H := Option.bind_eq_some_iff.mp H
         obtain ⟨⟨t245, t246⟩, A920, H⟩ := H
         replace H : ((laws_heldDiagram.f kj61 t230 t246 1).bind fun t247 => (if t247 < 0 then (some false) else (if t247 = t245 then ((laws_toDiagram.f kj61 a0_0 l0_1).bind fun bt248 => ((impl_DiagramOr.f kj61 bt248.1 bt248.2 a1 a2).bind fun bt252 => ((laws_eqDiagram.f kj61 bt252.1 bt252.2.1 t219 t220).bind fun t258 => (if t258 = true then (laws_FnExactDiagramOr.j2 kj61 t245 (bt252.2.2 != t223) t230 t246) else (laws_FnExactDiagramOr.j2 kj61 t245 true t230 t246))))) else (some false)))) = some r := H
         have A92 := Aside0.mk A920
         clear A920
         replace H := Option.bind_eq_some_iff.mp H
         obtain ⟨t247, A930, H⟩ := H
         replace H : (if t247 < 0 then (some false) else (if t247 = t245 then ((laws_toDiagram.f kj61 a0_0 l0_1).bind fun bt248 => ((impl_DiagramOr.f kj61 bt248.1 bt248.2 a1 a2).bind fun bt252 => ((laws_eqDiagram.f kj61 bt252.1 bt252.2.1 t219 t220).bind fun t258 => (if t258 = true then (laws_FnExactDiagramOr.j2 kj61 t245 (bt252.2.2 != t223) t230 t246) else (laws_FnExactDiagramOr.j2 kj61 t245 true t230 t246))))) else (some false))) = some r := H
         have A93 := Aside0.mk A930
         clear A930
         by_cases c94 : t247 < 0
         ·rw [if_pos c94] at H
          have c94b0 : decide (t247 < 0) = true := decide_eq_true c94
          clear c94
          obtain rfl := Option.some.inj H
          have hnb95 := NB235_213.out
          have hnc95 := NB213_235.out
          have hnb96 := NB235_224.out
          have hnc96 := NB224_235.out
          have hnb97 := NB235_229.out
          have hnc97 := NB229_235.out
          have hcz98_0 : wc.cell? ⟨gb235, 0, none⟩ = some (.int .i64 t230) := (blk_cell BK235.out 0).trans rfl
          have hcz98_1 : wc.cell? ⟨gb235, 1, none⟩ = some (.slice Ao38 t231.length co38) := (blk_cell BK235.out 1).trans rfl
          have hfz98_0 := blk_frozen BK235.out 0
          have hfz98_1 := blk_frozen BK235.out 1
          go_wp2_with (first | ((with_reducible refine gate_callee (f := 22) rfl ?_); refine goesL_ (some 72) rfl rfl Try.func22 (by kernel_rfl) rfl #[.agg #[.int .i64 t230, .slice Ao38 t231.length co38], .int .i64 1] rfl (by (try simp only [List.map_toArray, List.map_cons, List.map_nil]); first | done | rfl | (simp only [List.length_drop, List.length_take]; rfl)) ?_; (with_reducible refine (laws_markDiagram.calls kj61 t230 (fun k_ => some k_ = (.slice Ao38 t231.length co38 : Value).ownBlock) (.slice Ao38 t231.length co38) t231 1 t245 t246 w _ ?side1 ?side2 A92.out).mono ?_); (case side1 => repeat (first | (with_reducible first | exact HB.out | apply bwA | apply bwN | apply bwD | refine below_set ?_ GE213.out | refine below_set ?_ GE224.out | refine below_set ?_ GE229.out | refine below_set ?_ GE235.out) | exact HB.out)); (case side2 => exact Kd.R_tight rfl HO_236001.out); rintro e w99 ⟨rfl, hy0, hb, hkp⟩; refine ⟨_, rfl, ?_⟩; have n0_ := Aside0.mk (Kd.R_mono (ok' := fun k_ => some k_ ≠ (.slice Ao31 t243.length co31 : Value).ownBlock ∧ some k_ ≠ (.slice Ao38 t231.length co38 : Value).ownBlock) (Kd.R_keptB (HO_225001.out) hkp (fun k_ hk_ hs_ => (hk_.2) hs_)) (fun k_ hk_ => ⟨hk_.1.1, hk_.1.2⟩)); have n1_ := Aside0.mk (Kd.R_mono (ok' := fun k_ => some k_ ≠ (.slice Ao24 t220.length co24 : Value).ownBlock ∧ some k_ ≠ (.slice Ao38 t231.length co38 : Value).ownBlock) (Kd.R_keptB (HO_230001.out) hkp (fun k_ hk_ hs_ => (hk_.2) hs_)) (fun k_ hk_ => ⟨hk_.1.1, hk_.1.2⟩)); have n2_ := Aside0.mk (Kd.R_reok rfl hy0 (fun k_ e_ => HO_236001.out.1 k_ e_)); have n3_ := Aside0.mk (blk_kept (by (with_reducible repeat (first | refine blk_drewN ?_ _ | refine blk_drew ?_ | refine blk_alloc ?_ _)); exact BK213.out) hkp (fun hs_ => (fun e_ => (Kd.R_ne HO_236001.out BK213.out (by decide)) e_) hs_)); have n4_ := Aside0.mk (blk_kept (by (with_reducible repeat (first | refine blk_drewN ?_ _ | refine blk_drew ?_ | refine blk_alloc ?_ _)); exact BK224.out) hkp (fun hs_ => (fun e_ => (Kd.R_ne HO_236001.out BK224.out (by decide)) e_) hs_)); have n5_ := Aside0.mk (blk_kept (by (with_reducible repeat (first | refine blk_drewN ?_ _ | refine blk_drew ?_ | refine blk_alloc ?_ _)); exact BK229.out) hkp (fun hs_ => (fun e_ => (Kd.R_ne HO_236001.out BK229.out (by decide)) e_) hs_)); have n6_ := Aside0.mk (blk_kept (by (with_reducible repeat (first | refine blk_drewN ?_ _ | refine blk_drew ?_ | refine blk_alloc ?_ _)); exact BK235.out) hkp (fun hs_ => (fun e_ => (Kd.R_ne HO_236001.out BK235.out (by decide)) e_) hs_)); have n7_ := Aside0.mk (hb); clear HO_225001; clear HO_230001; clear HO_236001; clear BK213; clear BK224; clear BK229; clear BK235; clear HB; have HO_225001 := n0_; have HO_230001 := n1_; have HO_236001 := n2_; have BK213 := n3_; have BK224 := n4_; have BK229 := n5_; have BK235 := n6_; have HB := n7_; clear n0_ n1_ n2_ n3_ n4_ n5_ n6_ n7_; (try clear hb); (try clear hkp); (try clear hy0); have hcz100_0 : w99.cell? ⟨gb235, 0, none⟩ = some (.int .i64 t230) := (blk_cell BK235.out 0).trans rfl; have hcz100_1 : w99.cell? ⟨gb235, 1, none⟩ = some (.slice Ao38 t231.length co38) := (blk_cell BK235.out 1).trans rfl; have hfz100_0 := blk_frozen BK235.out 0; have hfz100_1 := blk_frozen BK235.out 1) | ((with_reducible refine gate_callee (f := 23) rfl ?_); refine goesL_ (some 75) rfl rfl Try.func23 (by kernel_rfl) rfl #[.agg #[.int .i64 t230, .slice Ao38 t246.length co38], .int .i64 1] rfl (by (try simp only [List.map_toArray, List.map_cons, List.map_nil]); first | done | (rw [show t246.length = t231.length from (Kd.R_reads' HO_236001.out).1.symm] <;> rfl) | rfl | (simp only [List.length_drop, List.length_take]; rfl)) ?_; (with_reducible refine (laws_heldDiagram.calls kj61 t230 _ _ t246 1 t247 _ ?side1 ?side2 A93.out).mono ?_); (case side1 => repeat (first | exact (Kd.R_reads' HO_236001.out).2.2 | (with_reducible refine Kd.C_alloc ?_ _) | (with_reducible refine Kd.C_drewN ?_ _) | (with_reducible refine Kd.C_drew ?_))); (case side2 => rw [show t246.length = t231.length from (Kd.R_reads' HO_236001.out).1.symm]; exact (Kd.R_reads' HO_236001.out).2.1); rintro e w101 ⟨rfl, hb⟩; refine ⟨_, rfl, ?_⟩; have n0_ := Aside0.mk (Kd.R_below (by (with_reducible repeat (first | apply Kd.R_alloc | apply Kd.R_drewN | apply Kd.R_drew)); exact HO_225001.out) hb); have n1_ := Aside0.mk (Kd.R_below (by (with_reducible repeat (first | apply Kd.R_alloc | apply Kd.R_drewN | apply Kd.R_drew)); exact HO_230001.out) hb); have n2_ := Aside0.mk (Kd.R_below (by (with_reducible repeat (first | apply Kd.R_alloc | apply Kd.R_drewN | apply Kd.R_drew)); exact HO_236001.out) hb); have n3_ := Aside0.mk (blk_below (g := gb213) (o := .cells #[.int .i64 a0_0, .slice A0_1 l0_1.length c0_1] 34 (0, 0)) (by (with_reducible repeat (first | refine blk_drewN ?_ _ | refine blk_drew ?_ | refine blk_alloc ?_ _)); exact BK213.out) hb); have n4_ := Aside0.mk (blk_below (g := gb224) (o := .cells #[.int .i64 t219, .slice Ao24 t220.length co24] 25 (0, 0)) (by (with_reducible repeat (first | refine blk_drewN ?_ _ | refine blk_drew ?_ | refine blk_alloc ?_ _)); exact BK224.out) hb); have n5_ := Aside0.mk (blk_below (g := gb229) (o := .cells #[.int .i64 t225, .slice Ao31 t243.length co31] 25 (0, 0)) (by (with_reducible repeat (first | refine blk_drewN ?_ _ | refine blk_drew ?_ | refine blk_alloc ?_ _)); exact BK229.out) hb); have n6_ := Aside0.mk (blk_below (g := gb235) (o := .cells #[.int .i64 t230, .slice Ao38 t231.length co38] 25 (0, 0)) (by (with_reducible repeat (first | refine blk_drewN ?_ _ | refine blk_drew ?_ | refine blk_alloc ?_ _)); exact BK235.out) hb); have n7_ := Aside0.mk (below_step (by repeat (first | (with_reducible first | exact HB.out | apply bwA | apply bwN | apply bwD | refine below_set ?_ GE213.out | refine below_set ?_ GE224.out | refine below_set ?_ GE229.out | refine below_set ?_ GE235.out) | exact HB.out)) hb); clear HO_225001; clear HO_230001; clear HO_236001; clear BK213; clear BK224; clear BK229; clear BK235; clear HB; have HO_225001 := n0_; have HO_230001 := n1_; have HO_236001 := n2_; have BK213 := n3_; have BK224 := n4_; have BK229 := n5_; have BK235 := n6_; have HB := n7_; clear n0_ n1_ n2_ n3_ n4_ n5_ n6_ n7_; (try clear hb); (try clear hb2); (try clear hk); (try clear hi)))
          go_ret
          exact ⟨by first | rfl | (simp [errW_none, errW_some] <;> rfl) | (simp [*, errW_none, errW_some] <;> rfl), by repeat (first | (with_reducible first | exact HB.out | apply bwA | apply bwN | apply bwD | refine below_set ?_ GE213.out | refine below_set ?_ GE224.out | refine below_set ?_ GE229.out | refine below_set ?_ GE235.out) | exact HB.out)⟩
         ·rw [if_neg c94] at H
          have c94b0 : decide (t247 < 0) = false := decide_eq_false c94
          clear c94
          by_cases c102 : t247 = t245
          ·rw [if_pos c102] at H
           have c102b0 : (t247 == t245) = true := beq_iff_eq.mpr c102
           have c102b1 : (t247 != t245) = false := bne_eq_false_iff_eq.mpr c102
           clear c102
           replace H := Option.bind_eq_some_iff.mp H
           obtain ⟨⟨t248, t249⟩, A1030, H⟩ := H
           replace H : ((impl_DiagramOr.f kj61 t248 t249 a1 a2).bind fun bt252 => ((laws_eqDiagram.f kj61 bt252.1 bt252.2.1 t219 t220).bind fun t258 => (if t258 = true then (laws_FnExactDiagramOr.j2 kj61 t245 (bt252.2.2 != t223) t230 t246) else (laws_FnExactDiagramOr.j2 kj61 t245 true t230 t246)))) = some r := H
           have A103 := Aside0.mk A1030
           clear A1030
           replace H := Option.bind_eq_some_iff.mp H
           obtain ⟨⟨t252, t253, t256⟩, A1040, H⟩ := H
           replace H : ((laws_eqDiagram.f kj61 t252 t253 t219 t220).bind fun t258 => (if t258 = true then (laws_FnExactDiagramOr.j2 kj61 t245 (t256 != t223) t230 t246) else (laws_FnExactDiagramOr.j2 kj61 t245 true t230 t246))) = some r := H
           have A104 := Aside0.mk A1040
           clear A1040
           have HC105 := Aside0.mk H
           clear H
           have hnb106 := NB235_213.out
           have hnc106 := NB213_235.out
           have hnb107 := NB235_224.out
           have hnc107 := NB224_235.out
           have hnb108 := NB235_229.out
           have hnc108 := NB229_235.out
           have hcz109_0 : wc.cell? ⟨gb235, 0, none⟩ = some (.int .i64 t230) := (blk_cell BK235.out 0).trans rfl
           have hcz109_1 : wc.cell? ⟨gb235, 1, none⟩ = some (.slice Ao38 t231.length co38) := (blk_cell BK235.out 1).trans rfl
           have hfz109_0 := blk_frozen BK235.out 0
           have hfz109_1 := blk_frozen BK235.out 1
           go_upto_region 25 with (first | ((with_reducible refine gate_callee (f := 22) rfl ?_); refine goesL_ (some 72) rfl rfl Try.func22 (by kernel_rfl) rfl #[.agg #[.int .i64 t230, .slice Ao38 t231.length co38], .int .i64 1] rfl (by (try simp only [List.map_toArray, List.map_cons, List.map_nil]); first | done | rfl | (simp only [List.length_drop, List.length_take]; rfl)) ?_; (with_reducible refine (laws_markDiagram.calls kj61 t230 (fun k_ => some k_ = (.slice Ao38 t231.length co38 : Value).ownBlock) (.slice Ao38 t231.length co38) t231 1 t245 t246 w _ ?side1 ?side2 A92.out).mono ?_); (case side1 => repeat (first | (with_reducible first | exact HB.out | apply bwA | apply bwN | apply bwD | refine below_set ?_ GE213.out | refine below_set ?_ GE224.out | refine below_set ?_ GE229.out | refine below_set ?_ GE235.out) | exact HB.out)); (case side2 => exact Kd.R_tight rfl HO_236001.out); rintro e w110 ⟨rfl, hy0, hb, hkp⟩; refine ⟨_, rfl, ?_⟩; have n0_ := Aside0.mk (Kd.R_mono (ok' := fun k_ => some k_ ≠ (.slice Ao31 t243.length co31 : Value).ownBlock ∧ some k_ ≠ (.slice Ao38 t231.length co38 : Value).ownBlock) (Kd.R_keptB (HO_225001.out) hkp (fun k_ hk_ hs_ => (hk_.2) hs_)) (fun k_ hk_ => ⟨hk_.1.1, hk_.1.2⟩)); have n1_ := Aside0.mk (Kd.R_mono (ok' := fun k_ => some k_ ≠ (.slice Ao24 t220.length co24 : Value).ownBlock ∧ some k_ ≠ (.slice Ao38 t231.length co38 : Value).ownBlock) (Kd.R_keptB (HO_230001.out) hkp (fun k_ hk_ hs_ => (hk_.2) hs_)) (fun k_ hk_ => ⟨hk_.1.1, hk_.1.2⟩)); have n2_ := Aside0.mk (Kd.R_reok rfl hy0 (fun k_ e_ => HO_236001.out.1 k_ e_)); have n3_ := Aside0.mk (blk_kept (by (with_reducible repeat (first | refine blk_drewN ?_ _ | refine blk_drew ?_ | refine blk_alloc ?_ _)); exact BK213.out) hkp (fun hs_ => (fun e_ => (Kd.R_ne HO_236001.out BK213.out (by decide)) e_) hs_)); have n4_ := Aside0.mk (blk_kept (by (with_reducible repeat (first | refine blk_drewN ?_ _ | refine blk_drew ?_ | refine blk_alloc ?_ _)); exact BK224.out) hkp (fun hs_ => (fun e_ => (Kd.R_ne HO_236001.out BK224.out (by decide)) e_) hs_)); have n5_ := Aside0.mk (blk_kept (by (with_reducible repeat (first | refine blk_drewN ?_ _ | refine blk_drew ?_ | refine blk_alloc ?_ _)); exact BK229.out) hkp (fun hs_ => (fun e_ => (Kd.R_ne HO_236001.out BK229.out (by decide)) e_) hs_)); have n6_ := Aside0.mk (blk_kept (by (with_reducible repeat (first | refine blk_drewN ?_ _ | refine blk_drew ?_ | refine blk_alloc ?_ _)); exact BK235.out) hkp (fun hs_ => (fun e_ => (Kd.R_ne HO_236001.out BK235.out (by decide)) e_) hs_)); have n7_ := Aside0.mk (hb); clear HO_225001; clear HO_230001; clear HO_236001; clear BK213; clear BK224; clear BK229; clear BK235; clear HB; have HO_225001 := n0_; have HO_230001 := n1_; have HO_236001 := n2_; have BK213 := n3_; have BK224 := n4_; have BK229 := n5_; have BK235 := n6_; have HB := n7_; clear n0_ n1_ n2_ n3_ n4_ n5_ n6_ n7_; (try clear hb); (try clear hkp); (try clear hy0); have hcz111_0 : w110.cell? ⟨gb235, 0, none⟩ = some (.int .i64 t230) := (blk_cell BK235.out 0).trans rfl; have hcz111_1 : w110.cell? ⟨gb235, 1, none⟩ = some (.slice Ao38 t231.length co38) := (blk_cell BK235.out 1).trans rfl; have hfz111_0 := blk_frozen BK235.out 0; have hfz111_1 := blk_frozen BK235.out 1) | ((with_reducible refine gate_callee (f := 23) rfl ?_); refine goesL_ (some 75) rfl rfl Try.func23 (by kernel_rfl) rfl #[.agg #[.int .i64 t230, .slice Ao38 t246.length co38], .int .i64 1] rfl (by (try simp only [List.map_toArray, List.map_cons, List.map_nil]); first | done | (rw [show t246.length = t231.length from (Kd.R_reads' HO_236001.out).1.symm] <;> rfl) | rfl | (simp only [List.length_drop, List.length_take]; rfl)) ?_; (with_reducible refine (laws_heldDiagram.calls kj61 t230 _ _ t246 1 t247 _ ?side1 ?side2 A93.out).mono ?_); (case side1 => repeat (first | exact (Kd.R_reads' HO_236001.out).2.2 | (with_reducible refine Kd.C_alloc ?_ _) | (with_reducible refine Kd.C_drewN ?_ _) | (with_reducible refine Kd.C_drew ?_))); (case side2 => rw [show t246.length = t231.length from (Kd.R_reads' HO_236001.out).1.symm]; exact (Kd.R_reads' HO_236001.out).2.1); rintro e w112 ⟨rfl, hb⟩; refine ⟨_, rfl, ?_⟩; have n0_ := Aside0.mk (Kd.R_below (by (with_reducible repeat (first | apply Kd.R_alloc | apply Kd.R_drewN | apply Kd.R_drew)); exact HO_225001.out) hb); have n1_ := Aside0.mk (Kd.R_below (by (with_reducible repeat (first | apply Kd.R_alloc | apply Kd.R_drewN | apply Kd.R_drew)); exact HO_230001.out) hb); have n2_ := Aside0.mk (Kd.R_below (by (with_reducible repeat (first | apply Kd.R_alloc | apply Kd.R_drewN | apply Kd.R_drew)); exact HO_236001.out) hb); have n3_ := Aside0.mk (blk_below (g := gb213) (o := .cells #[.int .i64 a0_0, .slice A0_1 l0_1.length c0_1] 34 (0, 0)) (by (with_reducible repeat (first | refine blk_drewN ?_ _ | refine blk_drew ?_ | refine blk_alloc ?_ _)); exact BK213.out) hb); have n4_ := Aside0.mk (blk_below (g := gb224) (o := .cells #[.int .i64 t219, .slice Ao24 t220.length co24] 25 (0, 0)) (by (with_reducible repeat (first | refine blk_drewN ?_ _ | refine blk_drew ?_ | refine blk_alloc ?_ _)); exact BK224.out) hb); have n5_ := Aside0.mk (blk_below (g := gb229) (o := .cells #[.int .i64 t225, .slice Ao31 t243.length co31] 25 (0, 0)) (by (with_reducible repeat (first | refine blk_drewN ?_ _ | refine blk_drew ?_ | refine blk_alloc ?_ _)); exact BK229.out) hb); have n6_ := Aside0.mk (blk_below (g := gb235) (o := .cells #[.int .i64 t230, .slice Ao38 t231.length co38] 25 (0, 0)) (by (with_reducible repeat (first | refine blk_drewN ?_ _ | refine blk_drew ?_ | refine blk_alloc ?_ _)); exact BK235.out) hb); have n7_ := Aside0.mk (below_step (by repeat (first | (with_reducible first | exact HB.out | apply bwA | apply bwN | apply bwD | refine below_set ?_ GE213.out | refine below_set ?_ GE224.out | refine below_set ?_ GE229.out | refine below_set ?_ GE235.out) | exact HB.out)) hb); clear HO_225001; clear HO_230001; clear HO_236001; clear BK213; clear BK224; clear BK229; clear BK235; clear HB; have HO_225001 := n0_; have HO_230001 := n1_; have HO_236001 := n2_; have BK213 := n3_; have BK224 := n4_; have BK229 := n5_; have BK235 := n6_; have HB := n7_; clear n0_ n1_ n2_ n3_ n4_ n5_ n6_ n7_; (try clear hb); (try clear hb2); (try clear hk); (try clear hi); have hnb113 := NB213_224.out; have hnc113 := NB224_213.out; have hnb114 := NB213_229.out; have hnc114 := NB229_213.out; have hcz115_0 : w112.cell? ⟨gb213, 0, none⟩ = some (.int .i64 a0_0) := (blk_cell BK213.out 0).trans rfl; have hcz115_1 : w112.cell? ⟨gb213, 1, none⟩ = some (.slice A0_1 l0_1.length c0_1) := (blk_cell BK213.out 1).trans rfl; have hfz115_0 := blk_frozen BK213.out 0; have hfz115_1 := blk_frozen BK213.out 1) | ((with_reducible refine gate_callee (f := 20) rfl ?_); refine goesL_ (some 83) rfl rfl Try.func20 (by kernel_rfl) rfl #[.agg #[.int .i64 a0_0, .slice A0_1 l0_1.length c0_1]] rfl (by (try simp only [List.map_toArray, List.map_cons, List.map_nil]); first | done | rfl | (simp only [List.length_drop, List.length_take]; rfl)) ?_; (with_reducible refine (laws_toDiagram.calls kj61 a0_0 _ _ l0_1 t248 t249 _ ?side1 ?side2 A103.out).mono ?_); (case side1 => repeat (first | exact (Kd.C_below HR0_1.out HB.out) | (with_reducible refine Kd.C_alloc ?_ _) | (with_reducible refine Kd.C_drewN ?_ _) | (with_reducible refine Kd.C_drew ?_))); (case side2 => exact HC0_1.out); rintro e w116 ⟨v250, rfl, ho0, hb⟩; refine ⟨_, rfl, ?_⟩; have n0_ := Aside0.mk (Kd.R_elder' (by (with_reducible repeat (first | apply Kd.R_alloc | apply Kd.R_drewN | apply Kd.R_drew)); exact HO_225001.out) (Kd.R_base ho0) hb); have n1_ := Aside0.mk (Kd.R_elder' (by (with_reducible repeat (first | apply Kd.R_alloc | apply Kd.R_drewN | apply Kd.R_drew)); exact HO_230001.out) (Kd.R_base ho0) hb); have n2_ := Aside0.mk (Kd.R_elder' (by (with_reducible repeat (first | apply Kd.R_alloc | apply Kd.R_drewN | apply Kd.R_drew)); exact HO_236001.out) (Kd.R_base ho0) hb); have n3_ := Aside0.mk (Kd.R_lower (Kd.R_new' (Kd.R_new' (Kd.R_new' ho0 (Kd.R_lt (by (with_reducible repeat (first | apply Kd.R_alloc | apply Kd.R_drewN | apply Kd.R_drew)); exact HO_225001.out))) (Kd.R_lt (by (with_reducible repeat (first | apply Kd.R_alloc | apply Kd.R_drewN | apply Kd.R_drew)); exact HO_230001.out))) (Kd.R_lt (by (with_reducible repeat (first | apply Kd.R_alloc | apply Kd.R_drewN | apply Kd.R_drew)); exact HO_236001.out))) (below_size (by repeat (first | (with_reducible first | exact HB.out | apply bwA | apply bwN | apply bwD | refine below_set ?_ GE213.out | refine below_set ?_ GE224.out | refine below_set ?_ GE229.out | refine below_set ?_ GE235.out) | exact HB.out)))); have n4_ := Aside0.mk (blk_below (g := gb213) (o := .cells #[.int .i64 a0_0, .slice A0_1 l0_1.length c0_1] 34 (0, 0)) (by (with_reducible repeat (first | refine blk_drewN ?_ _ | refine blk_drew ?_ | refine blk_alloc ?_ _)); exact BK213.out) hb); have n5_ := Aside0.mk (blk_below (g := gb224) (o := .cells #[.int .i64 t219, .slice Ao24 t220.length co24] 25 (0, 0)) (by (with_reducible repeat (first | refine blk_drewN ?_ _ | refine blk_drew ?_ | refine blk_alloc ?_ _)); exact BK224.out) hb); have n6_ := Aside0.mk (blk_below (g := gb229) (o := .cells #[.int .i64 t225, .slice Ao31 t243.length co31] 25 (0, 0)) (by (with_reducible repeat (first | refine blk_drewN ?_ _ | refine blk_drew ?_ | refine blk_alloc ?_ _)); exact BK229.out) hb); have n7_ := Aside0.mk (blk_below (g := gb235) (o := .cells #[.int .i64 t230, .slice Ao38 t231.length co38] 25 (0, 0)) (by (with_reducible repeat (first | refine blk_drewN ?_ _ | refine blk_drew ?_ | refine blk_alloc ?_ _)); exact BK235.out) hb); have n8_ := Aside0.mk (below_step (by repeat (first | (with_reducible first | exact HB.out | apply bwA | apply bwN | apply bwD | refine below_set ?_ GE213.out | refine below_set ?_ GE224.out | refine below_set ?_ GE229.out | refine below_set ?_ GE235.out) | exact HB.out)) hb); clear HO_225001; clear HO_230001; clear HO_236001; clear BK213; clear BK224; clear BK229; clear BK235; clear HB; have HO_225001 := n0_; have HO_230001 := n1_; have HO_236001 := n2_; have HO251 := n3_; have BK213 := n4_; have BK224 := n5_; have BK229 := n6_; have BK235 := n7_; have HB := n8_; clear n0_ n1_ n2_ n3_ n4_ n5_ n6_ n7_ n8_; (try clear hb); (try clear hb2); (try clear hk); (try clear hi); (try clear ho0); obtain ⟨Ao117, co117, eo117⟩ := Kd.R_slice HO251.out; subst eo117) | ((with_reducible refine gate_callee (f := 28) rfl ?_); refine goesL_ (some 86) rfl rfl Try.func28 (by kernel_rfl) rfl #[.agg #[.int .i64 t248, .slice Ao117 t249.length co117], .int .i64 a1, .int .i64 a2] rfl (by (try simp only [List.map_toArray, List.map_cons, List.map_nil]); first | done | rfl | (simp only [List.length_drop, List.length_take]; rfl)) ?_; (with_reducible refine (impl_DiagramOr.calls kj61 t248 _ _ t249 a1 a2 t252 t253 t256 _ ?side1 ?side2 A104.out).mono ?_); (case side1 => repeat (first | exact (Kd.R_reads' HO251.out).2.2 | (with_reducible refine Kd.C_alloc ?_ _) | (with_reducible refine Kd.C_drewN ?_ _) | (with_reducible refine Kd.C_drew ?_))); (case side2 => exact (Kd.R_reads' HO251.out).2.1); rintro e w118 ⟨v254, rfl, ho0, hb⟩; refine ⟨_, rfl, ?_⟩; have n0_ := Aside0.mk (Kd.R_elder' (by (with_reducible repeat (first | apply Kd.R_alloc | apply Kd.R_drewN | apply Kd.R_drew)); exact HO_225001.out) (Kd.R_base ho0) hb); have n1_ := Aside0.mk (Kd.R_elder' (by (with_reducible repeat (first | apply Kd.R_alloc | apply Kd.R_drewN | apply Kd.R_drew)); exact HO_230001.out) (Kd.R_base ho0) hb); have n2_ := Aside0.mk (Kd.R_elder' (by (with_reducible repeat (first | apply Kd.R_alloc | apply Kd.R_drewN | apply Kd.R_drew)); exact HO_236001.out) (Kd.R_base ho0) hb); have n3_ := Aside0.mk (Kd.R_elder' (by (with_reducible repeat (first | apply Kd.R_alloc | apply Kd.R_drewN | apply Kd.R_drew)); exact HO251.out) (Kd.R_base ho0) hb); have n4_ := Aside0.mk (Kd.R_lower (Kd.R_new' (Kd.R_new' (Kd.R_new' (Kd.R_new' ho0 (Kd.R_lt (by (with_reducible repeat (first | apply Kd.R_alloc | apply Kd.R_drewN | apply Kd.R_drew)); exact HO_225001.out))) (Kd.R_lt (by (with_reducible repeat (first | apply Kd.R_alloc | apply Kd.R_drewN | apply Kd.R_drew)); exact HO_230001.out))) (Kd.R_lt (by (with_reducible repeat (first | apply Kd.R_alloc | apply Kd.R_drewN | apply Kd.R_drew)); exact HO_236001.out))) (Kd.R_lt (by (with_reducible repeat (first | apply Kd.R_alloc | apply Kd.R_drewN | apply Kd.R_drew)); exact HO251.out))) (below_size (by repeat (first | (with_reducible first | exact HB.out | apply bwA | apply bwN | apply bwD | refine below_set ?_ GE213.out | refine below_set ?_ GE224.out | refine below_set ?_ GE229.out | refine below_set ?_ GE235.out) | exact HB.out)))); have n5_ := Aside0.mk (blk_below (g := gb213) (o := .cells #[.int .i64 a0_0, .slice A0_1 l0_1.length c0_1] 34 (0, 0)) (by (with_reducible repeat (first | refine blk_drewN ?_ _ | refine blk_drew ?_ | refine blk_alloc ?_ _)); exact BK213.out) hb); have n6_ := Aside0.mk (blk_below (g := gb224) (o := .cells #[.int .i64 t219, .slice Ao24 t220.length co24] 25 (0, 0)) (by (with_reducible repeat (first | refine blk_drewN ?_ _ | refine blk_drew ?_ | refine blk_alloc ?_ _)); exact BK224.out) hb); have n7_ := Aside0.mk (blk_below (g := gb229) (o := .cells #[.int .i64 t225, .slice Ao31 t243.length co31] 25 (0, 0)) (by (with_reducible repeat (first | refine blk_drewN ?_ _ | refine blk_drew ?_ | refine blk_alloc ?_ _)); exact BK229.out) hb); have n8_ := Aside0.mk (blk_below (g := gb235) (o := .cells #[.int .i64 t230, .slice Ao38 t231.length co38] 25 (0, 0)) (by (with_reducible repeat (first | refine blk_drewN ?_ _ | refine blk_drew ?_ | refine blk_alloc ?_ _)); exact BK235.out) hb); have n9_ := Aside0.mk (below_step (by repeat (first | (with_reducible first | exact HB.out | apply bwA | apply bwN | apply bwD | refine below_set ?_ GE213.out | refine below_set ?_ GE224.out | refine below_set ?_ GE229.out | refine below_set ?_ GE235.out) | exact HB.out)) hb); clear HO_225001; clear HO_230001; clear HO_236001; clear HO251; clear BK213; clear BK224; clear BK229; clear BK235; clear HB; have HO_225001 := n0_; have HO_230001 := n1_; have HO_236001 := n2_; have HO251 := n3_; have HO255 := n4_; have BK213 := n5_; have BK224 := n6_; have BK229 := n7_; have BK235 := n8_; have HB := n9_; clear n0_ n1_ n2_ n3_ n4_ n5_ n6_ n7_ n8_ n9_; (try clear hb); (try clear hb2); (try clear hk); (try clear hi); (try clear ho0)) | ((with_reducible refine gate_dst (N := 16) rfl ?_); refine box_event ?hg (N := 16) ?hd (cs := #[.int .i64 0, .slice none 0 0]) (t := 25) ?hr ?_; (case hd => rfl); (case hg => rfl); (case hr => first | (go_simp; done) | (go_simp; rfl)); intro gb257 hg w119 hbox hb; have n0_ := Aside0.mk (Kd.R_below (by (with_reducible repeat (first | apply Kd.R_alloc | apply Kd.R_drewN | apply Kd.R_drew)); exact HO_225001.out) hb); have n1_ := Aside0.mk (Kd.R_below (by (with_reducible repeat (first | apply Kd.R_alloc | apply Kd.R_drewN | apply Kd.R_drew)); exact HO_230001.out) hb); have n2_ := Aside0.mk (Kd.R_below (by (with_reducible repeat (first | apply Kd.R_alloc | apply Kd.R_drewN | apply Kd.R_drew)); exact HO_236001.out) hb); have n3_ := Aside0.mk (Kd.R_below (by (with_reducible repeat (first | apply Kd.R_alloc | apply Kd.R_drewN | apply Kd.R_drew)); exact HO251.out) hb); have n4_ := Aside0.mk (Kd.R_below (by (with_reducible repeat (first | apply Kd.R_alloc | apply Kd.R_drewN | apply Kd.R_drew)); exact HO255.out) hb); have n5_ := Aside0.mk (blk_below (g := gb213) (o := .cells #[.int .i64 a0_0, .slice A0_1 l0_1.length c0_1] 34 (0, 0)) (by (with_reducible repeat (first | refine blk_drewN ?_ _ | refine blk_drew ?_ | refine blk_alloc ?_ _)); exact BK213.out) hb); have n6_ := Aside0.mk (blk_below (g := gb224) (o := .cells #[.int .i64 t219, .slice Ao24 t220.length co24] 25 (0, 0)) (by (with_reducible repeat (first | refine blk_drewN ?_ _ | refine blk_drew ?_ | refine blk_alloc ?_ _)); exact BK224.out) hb); have n7_ := Aside0.mk (blk_below (g := gb229) (o := .cells #[.int .i64 t225, .slice Ao31 t243.length co31] 25 (0, 0)) (by (with_reducible repeat (first | refine blk_drewN ?_ _ | refine blk_drew ?_ | refine blk_alloc ?_ _)); exact BK229.out) hb); have n8_ := Aside0.mk (blk_below (g := gb235) (o := .cells #[.int .i64 t230, .slice Ao38 t231.length co38] 25 (0, 0)) (by (with_reducible repeat (first | refine blk_drewN ?_ _ | refine blk_drew ?_ | refine blk_alloc ?_ _)); exact BK235.out) hb); have n9_ := Aside0.mk (below_step (by repeat (first | (with_reducible first | exact HB.out | apply bwA | apply bwN | apply bwD | refine below_set ?_ GE213.out | refine below_set ?_ GE224.out | refine below_set ?_ GE229.out | refine below_set ?_ GE235.out) | exact HB.out)) hb); have n10_ := Aside0.mk (hbox); have n11_ := Aside0.mk ((by rw [hg]; exact (below_size (by repeat (first | (with_reducible first | exact HB.out | apply bwA | apply bwN | apply bwD | refine below_set ?_ GE213.out | refine below_set ?_ GE224.out | refine below_set ?_ GE229.out | refine below_set ?_ GE235.out) | exact HB.out))) : w.heap.size ≤ gb257)); have n12_ := Aside0.mk ((by rw [hg]; exact (below_size (by repeat (first | (with_reducible first | exact HB.out | apply bwA | apply bwN | apply bwD | refine below_set ?_ GE213.out | refine below_set ?_ GE224.out | refine below_set ?_ GE229.out | refine below_set ?_ GE235.out) | exact HB.out))) : w.heap.size ≤ gb257)); have n13_ := Aside0.mk ((by rw [hg]; exact Nat.ne_of_lt (blk_lt (g := gb213) (o := .cells #[.int .i64 a0_0, .slice A0_1 l0_1.length c0_1] 34 (0, 0)) (by (with_reducible repeat (first | refine blk_drewN ?_ _ | refine blk_drew ?_ | refine blk_alloc ?_ _)); exact BK213.out)) : gb213 ≠ gb257)); have n14_ := Aside0.mk ((by rw [hg]; exact Nat.ne_of_gt (blk_lt (g := gb213) (o := .cells #[.int .i64 a0_0, .slice A0_1 l0_1.length c0_1] 34 (0, 0)) (by (with_reducible repeat (first | refine blk_drewN ?_ _ | refine blk_drew ?_ | refine blk_alloc ?_ _)); exact BK213.out)) : gb257 ≠ gb213)); have n15_ := Aside0.mk ((by rw [hg]; exact Nat.ne_of_lt (blk_lt (g := gb224) (o := .cells #[.int .i64 t219, .slice Ao24 t220.length co24] 25 (0, 0)) (by (with_reducible repeat (first | refine blk_drewN ?_ _ | refine blk_drew ?_ | refine blk_alloc ?_ _)); exact BK224.out)) : gb224 ≠ gb257)); have n16_ := Aside0.mk ((by rw [hg]; exact Nat.ne_of_gt (blk_lt (g := gb224) (o := .cells #[.int .i64 t219, .slice Ao24 t220.length co24] 25 (0, 0)) (by (with_reducible repeat (first | refine blk_drewN ?_ _ | refine blk_drew ?_ | refine blk_alloc ?_ _)); exact BK224.out)) : gb257 ≠ gb224)); have n17_ := Aside0.mk ((by rw [hg]; exact Nat.ne_of_lt (blk_lt (g := gb229) (o := .cells #[.int .i64 t225, .slice Ao31 t243.length co31] 25 (0, 0)) (by (with_reducible repeat (first | refine blk_drewN ?_ _ | refine blk_drew ?_ | refine blk_alloc ?_ _)); exact BK229.out)) : gb229 ≠ gb257)); have n18_ := Aside0.mk ((by rw [hg]; exact Nat.ne_of_gt (blk_lt (g := gb229) (o := .cells #[.int .i64 t225, .slice Ao31 t243.length co31] 25 (0, 0)) (by (with_reducible repeat (first | refine blk_drewN ?_ _ | refine blk_drew ?_ | refine blk_alloc ?_ _)); exact BK229.out)) : gb257 ≠ gb229)); have n19_ := Aside0.mk ((by rw [hg]; exact Nat.ne_of_lt (blk_lt (g := gb235) (o := .cells #[.int .i64 t230, .slice Ao38 t231.length co38] 25 (0, 0)) (by (with_reducible repeat (first | refine blk_drewN ?_ _ | refine blk_drew ?_ | refine blk_alloc ?_ _)); exact BK235.out)) : gb235 ≠ gb257)); have n20_ := Aside0.mk ((by rw [hg]; exact Nat.ne_of_gt (blk_lt (g := gb235) (o := .cells #[.int .i64 t230, .slice Ao38 t231.length co38] 25 (0, 0)) (by (with_reducible repeat (first | refine blk_drewN ?_ _ | refine blk_drew ?_ | refine blk_alloc ?_ _)); exact BK235.out)) : gb257 ≠ gb235)); clear HO_225001; clear HO_230001; clear HO_236001; clear HO251; clear HO255; clear BK213; clear BK224; clear BK229; clear BK235; clear HB; have HO_225001 := n0_; have HO_230001 := n1_; have HO_236001 := n2_; have HO251 := n3_; have HO255 := n4_; have BK213 := n5_; have BK224 := n6_; have BK229 := n7_; have BK235 := n8_; have HB := n9_; have BK257 := n10_; have GW257 := n11_; have GE257 := n12_; have NB213_257 := n13_; have NB257_213 := n14_; have NB224_257 := n15_; have NB257_224 := n16_; have NB229_257 := n17_; have NB257_229 := n18_; have NB235_257 := n19_; have NB257_235 := n20_; clear n0_ n1_ n2_ n3_ n4_ n5_ n6_ n7_ n8_ n9_ n10_ n11_ n12_ n13_ n14_ n15_ n16_ n17_ n18_ n19_ n20_; clear hb hbox hg; have hnb120 := NB257_213.out; have hnc120 := NB213_257.out; have hnb121 := NB257_224.out; have hnc121 := NB224_257.out; have hnb122 := NB257_229.out; have hnc122 := NB229_257.out; have hnb123 := NB257_235.out; have hnc123 := NB235_257.out; have hcz124_0 : w119.cell? ⟨gb257, 0, none⟩ = some (.int .i64 0) := (blk_cell BK257.out 0).trans rfl; have hcz124_1 : w119.cell? ⟨gb257, 1, none⟩ = some (.slice none 0 0) := (blk_cell BK257.out 1).trans rfl; have hfz124_0 := blk_frozen BK257.out 0; have hfz124_1 := blk_frozen BK257.out 1; obtain ⟨Ao125, co125, eo125⟩ := Kd.R_slice HO255.out; subst eo125))
           (try simp only [Act.put, List.setIfInBounds_toArray, List.set_cons_zero, List.set_cons_succ])
           go_cut [97] (fun v97 wc => ∃ (kq : Nat) (x97_104 : Bool), v97 = .bool x97_104 ∧ Aside0 (laws_FnExactDiagramOr.j2 kq t245 x97_104 t230 t246 = some r) ∧ Aside0 (kq ≤ kj61) ∧ Aside0 (Kd.R k71 71 wc w.heap.size (fun k_ => some k_ ≠ ((.slice Ao31 t243.length co31) : Value).ownBlock ∧ some k_ ≠ ((.slice Ao38 t231.length co38) : Value).ownBlock ∧ some k_ ≠ ((.slice Ao125 t253.length co125) : Value).ownBlock) (.slice Ao24 t220.length co24) t220) ∧ Aside0 (Kd.R k71 71 wc w.heap.size (fun k_ => some k_ ≠ ((.slice Ao24 t220.length co24) : Value).ownBlock ∧ some k_ ≠ ((.slice Ao38 t231.length co38) : Value).ownBlock ∧ some k_ ≠ ((.slice Ao125 t253.length co125) : Value).ownBlock) (.slice Ao31 t243.length co31) t243) ∧ Aside0 (Kd.R k71 71 wc w.heap.size (fun k_ => some k_ ≠ ((.slice Ao24 t220.length co24) : Value).ownBlock ∧ some k_ ≠ ((.slice Ao31 t243.length co31) : Value).ownBlock ∧ some k_ ≠ ((.slice Ao125 t253.length co125) : Value).ownBlock) (.slice Ao38 t231.length co38) t246) ∧ Aside0 (Kd.R k71 71 wc w.heap.size (fun k_ => some k_ ≠ ((.slice Ao24 t220.length co24) : Value).ownBlock ∧ some k_ ≠ ((.slice Ao31 t243.length co31) : Value).ownBlock ∧ some k_ ≠ ((.slice Ao38 t231.length co38) : Value).ownBlock) (.slice Ao125 t253.length co125) t253) ∧ Aside0 (wc.heap[gb213]? = some (.cells #[.int .i64 a0_0, (.slice A0_1 l0_1.length c0_1)] 34 (0, 0))) ∧ Aside0 (wc.heap[gb224]? = some (.cells #[.int .i64 t219, (.slice Ao24 t220.length co24)] 25 (0, 0))) ∧ Aside0 (wc.heap[gb229]? = some (.cells #[.int .i64 t225, (.slice Ao31 t243.length co31)] 25 (0, 0))) ∧ Aside0 (wc.heap[gb235]? = some (.cells #[.int .i64 t230, (.slice Ao38 t231.length co38)] 25 (0, 0))) ∧ Aside0 (wc.heap[gb257]? = some (.cells #[.int .i64 t252, (.slice Ao125 t253.length co125)] 25 (0, 0))) ∧ Aside0 (Below w.heap.size w wc))
           case first =>
            have H := HC105.out
            clear HC105
            replace H := Option.bind_eq_some_iff.mp H
            obtain ⟨t258, A1260, H⟩ := H
            replace H : (if t258 = true then (laws_FnExactDiagramOr.j2 kj61 t245 (t256 != t223) t230 t246) else (laws_FnExactDiagramOr.j2 kj61 t245 true t230 t246)) = some r := H
            have A126 := Aside0.mk A1260
            clear A1260
            by_cases c127 : t258 = true
            ·subst c127
             have H1 : (laws_FnExactDiagramOr.j2 kj61 t245 (t256 != t223) t230 t246) = some r := by rw [if_pos rfl] at H; exact H
             clear H
             have H := H1
             clear H1
             have H' := Aside0.mk H
             clear H
             have hnb128 := NB257_213.out
             have hnc128 := NB213_257.out
             have hnb129 := NB257_224.out
             have hnc129 := NB224_257.out
             have hnb130 := NB257_229.out
             have hnc130 := NB229_257.out
             have hnb131 := NB257_235.out
             have hnc131 := NB235_257.out
             have hcz132_0 : w119.cell? ⟨gb257, 0, none⟩ = some (.int .i64 0) := (blk_cell BK257.out 0).trans rfl
             have hcz132_1 : w119.cell? ⟨gb257, 1, none⟩ = some (.slice none 0 0) := (blk_cell BK257.out 1).trans rfl
             have hfz132_0 := blk_frozen BK257.out 0
             have hfz132_1 := blk_frozen BK257.out 1
             have hnb133 := NB224_213.out
             have hnc133 := NB213_224.out
             have hnb134 := NB224_229.out
             have hnc134 := NB229_224.out
             have hnb135 := NB224_235.out
             have hnc135 := NB235_224.out
             have hcz136_0 : w119.cell? ⟨gb224, 0, none⟩ = some (.int .i64 t219) := (blk_cell BK224.out 0).trans rfl
             have hcz136_1 : w119.cell? ⟨gb224, 1, none⟩ = some (.slice Ao24 t220.length co24) := (blk_cell BK224.out 1).trans rfl
             have hfz136_0 := blk_frozen BK224.out 0
             have hfz136_1 := blk_frozen BK224.out 1
             go_wp2_with (first | ((with_reducible refine gate_callee (f := 21) rfl ?_); refine goesL_ (some 91) rfl rfl Try.func21 (by kernel_rfl) rfl #[.agg #[.int .i64 t252, .slice Ao125 t253.length co125], .agg #[.int .i64 t219, .slice Ao24 t220.length co24]] rfl (by (try simp only [List.map_toArray, List.map_cons, List.map_nil]); first | done | rfl | (simp only [List.length_drop, List.length_take]; rfl)) ?_; (with_reducible refine (laws_eqDiagram.calls kj61 t252 _ _ t253 t219 _ _ t220 true _ ?side1 ?side2 ?side3 ?side4 A126.out).mono ?_); (case side1 => refine (Kd.R_reads' (e := 71) (base := w.heap.size) (ok := fun k_ => ((((True ∧ some k_ ≠ (.slice Ao24 t220.length co24 : Value).ownBlock) ∧ some k_ ≠ (.slice Ao31 t243.length co31 : Value).ownBlock) ∧ some k_ ≠ (.slice Ao38 t231.length co38 : Value).ownBlock) ∧ some k_ ≠ (.slice Ao117 t249.length co117 : Value).ownBlock)) (n := t253.length) (c := co125) ?_).2.2; exact (by (with_reducible repeat (first | apply Kd.R_alloc | apply Kd.R_drewN | apply Kd.R_drew)); exact (Kd.R_mono (Kd.R_far (p := ⟨gb257, 1, none⟩) (Kd.R_far (p := ⟨gb257, 0, none⟩) (Kd.R_types HO255.out BK257.out (by decide)) (fun _ hk => hk.2) (.int .i64 t252)) (fun _ hk => hk.2) (.slice Ao125 t253.length co125)) (fun _ h_ => h_.1)))); (case side2 => exact (Kd.R_reads' HO255.out).2.1); (case side3 => refine (Kd.R_reads' (e := 71) (base := w.heap.size) (ok := fun k_ => (((some k_ ≠ (.slice Ao31 t243.length co31 : Value).ownBlock ∧ some k_ ≠ (.slice Ao38 t231.length co38 : Value).ownBlock) ∧ some k_ ≠ (.slice Ao117 t249.length co117 : Value).ownBlock) ∧ some k_ ≠ (.slice Ao125 t253.length co125 : Value).ownBlock)) (n := t220.length) (c := co24) ?_).2.2; exact (by (with_reducible repeat (first | apply Kd.R_alloc | apply Kd.R_drewN | apply Kd.R_drew)); exact (Kd.R_mono (Kd.R_far (p := ⟨gb257, 1, none⟩) (Kd.R_far (p := ⟨gb257, 0, none⟩) (Kd.R_types HO_225001.out BK257.out (by decide)) (fun _ hk => hk.2) (.int .i64 t252)) (fun _ hk => hk.2) (.slice Ao125 t253.length co125)) (fun _ h_ => h_.1)))); (case side4 => exact (Kd.R_reads' HO_225001.out).2.1); rintro e w137 ⟨rfl, hb⟩; refine ⟨_, rfl, ?_⟩; have n0_ := Aside0.mk (Kd.R_below (by (with_reducible repeat (first | apply Kd.R_alloc | apply Kd.R_drewN | apply Kd.R_drew)); exact (Kd.R_mono (Kd.R_far (p := ⟨gb257, 1, none⟩) (Kd.R_far (p := ⟨gb257, 0, none⟩) (Kd.R_types HO_225001.out BK257.out (by decide)) (fun _ hk => hk.2) (.int .i64 t252)) (fun _ hk => hk.2) (.slice Ao125 t253.length co125)) (fun _ h_ => h_.1))) hb); have n1_ := Aside0.mk (Kd.R_below (by (with_reducible repeat (first | apply Kd.R_alloc | apply Kd.R_drewN | apply Kd.R_drew)); exact (Kd.R_mono (Kd.R_far (p := ⟨gb257, 1, none⟩) (Kd.R_far (p := ⟨gb257, 0, none⟩) (Kd.R_types HO_230001.out BK257.out (by decide)) (fun _ hk => hk.2) (.int .i64 t252)) (fun _ hk => hk.2) (.slice Ao125 t253.length co125)) (fun _ h_ => h_.1))) hb); have n2_ := Aside0.mk (Kd.R_below (by (with_reducible repeat (first | apply Kd.R_alloc | apply Kd.R_drewN | apply Kd.R_drew)); exact (Kd.R_mono (Kd.R_far (p := ⟨gb257, 1, none⟩) (Kd.R_far (p := ⟨gb257, 0, none⟩) (Kd.R_types HO_236001.out BK257.out (by decide)) (fun _ hk => hk.2) (.int .i64 t252)) (fun _ hk => hk.2) (.slice Ao125 t253.length co125)) (fun _ h_ => h_.1))) hb); have n3_ := Aside0.mk (Kd.R_below (by (with_reducible repeat (first | apply Kd.R_alloc | apply Kd.R_drewN | apply Kd.R_drew)); exact (Kd.R_mono (Kd.R_far (p := ⟨gb257, 1, none⟩) (Kd.R_far (p := ⟨gb257, 0, none⟩) (Kd.R_types HO251.out BK257.out (by decide)) (fun _ hk => hk.2) (.int .i64 t252)) (fun _ hk => hk.2) (.slice Ao125 t253.length co125)) (fun _ h_ => h_.1))) hb); have n4_ := Aside0.mk (Kd.R_below (by (with_reducible repeat (first | apply Kd.R_alloc | apply Kd.R_drewN | apply Kd.R_drew)); exact (Kd.R_mono (Kd.R_far (p := ⟨gb257, 1, none⟩) (Kd.R_far (p := ⟨gb257, 0, none⟩) (Kd.R_types HO255.out BK257.out (by decide)) (fun _ hk => hk.2) (.int .i64 t252)) (fun _ hk => hk.2) (.slice Ao125 t253.length co125)) (fun _ h_ => h_.1))) hb); have n5_ := Aside0.mk (blk_below (g := gb213) (o := .cells #[.int .i64 a0_0, .slice A0_1 l0_1.length c0_1] 34 (0, 0)) (by (with_reducible repeat (first | refine blk_drewN ?_ _ | refine blk_drew ?_ | refine blk_alloc ?_ _)); refine blk_far ?_ NB213_257.out _; (with_reducible repeat (first | refine blk_drewN ?_ _ | refine blk_drew ?_ | refine blk_alloc ?_ _)); refine blk_far ?_ NB213_257.out _; (with_reducible repeat (first | refine blk_drewN ?_ _ | refine blk_drew ?_ | refine blk_alloc ?_ _)); exact BK213.out) hb); have n6_ := Aside0.mk (blk_below (g := gb224) (o := .cells #[.int .i64 t219, .slice Ao24 t220.length co24] 25 (0, 0)) (by (with_reducible repeat (first | refine blk_drewN ?_ _ | refine blk_drew ?_ | refine blk_alloc ?_ _)); refine blk_far ?_ NB224_257.out _; (with_reducible repeat (first | refine blk_drewN ?_ _ | refine blk_drew ?_ | refine blk_alloc ?_ _)); refine blk_far ?_ NB224_257.out _; (with_reducible repeat (first | refine blk_drewN ?_ _ | refine blk_drew ?_ | refine blk_alloc ?_ _)); exact BK224.out) hb); have n7_ := Aside0.mk (blk_below (g := gb229) (o := .cells #[.int .i64 t225, .slice Ao31 t243.length co31] 25 (0, 0)) (by (with_reducible repeat (first | refine blk_drewN ?_ _ | refine blk_drew ?_ | refine blk_alloc ?_ _)); refine blk_far ?_ NB229_257.out _; (with_reducible repeat (first | refine blk_drewN ?_ _ | refine blk_drew ?_ | refine blk_alloc ?_ _)); refine blk_far ?_ NB229_257.out _; (with_reducible repeat (first | refine blk_drewN ?_ _ | refine blk_drew ?_ | refine blk_alloc ?_ _)); exact BK229.out) hb); have n8_ := Aside0.mk (blk_below (g := gb235) (o := .cells #[.int .i64 t230, .slice Ao38 t231.length co38] 25 (0, 0)) (by (with_reducible repeat (first | refine blk_drewN ?_ _ | refine blk_drew ?_ | refine blk_alloc ?_ _)); refine blk_far ?_ NB235_257.out _; (with_reducible repeat (first | refine blk_drewN ?_ _ | refine blk_drew ?_ | refine blk_alloc ?_ _)); refine blk_far ?_ NB235_257.out _; (with_reducible repeat (first | refine blk_drewN ?_ _ | refine blk_drew ?_ | refine blk_alloc ?_ _)); exact BK235.out) hb); have n9_ := Aside0.mk (blk_below (g := gb257) (o := .cells #[.int .i64 t252, .slice Ao125 t253.length co125] 25 (0, 0)) (by (with_reducible repeat (first | refine blk_drewN ?_ _ | refine blk_drew ?_ | refine blk_alloc ?_ _)); refine blk_put (cs := #[.int .i64 t252, .slice none 0 0]) ?_ 1 _ rfl; (with_reducible repeat (first | refine blk_drewN ?_ _ | refine blk_drew ?_ | refine blk_alloc ?_ _)); refine blk_put (cs := #[.int .i64 0, .slice none 0 0]) ?_ 0 _ rfl; (with_reducible repeat (first | refine blk_drewN ?_ _ | refine blk_drew ?_ | refine blk_alloc ?_ _)); exact BK257.out) hb); have n10_ := Aside0.mk (below_step (by repeat (first | (with_reducible first | exact HB.out | apply bwA | apply bwN | apply bwD | refine below_set ?_ GE213.out | refine below_set ?_ GE224.out | refine below_set ?_ GE229.out | refine below_set ?_ GE235.out | refine below_set ?_ GE257.out) | exact HB.out)) hb); clear HO_225001; clear HO_230001; clear HO_236001; clear HO251; clear HO255; clear BK213; clear BK224; clear BK229; clear BK235; clear BK257; clear HB; have HO_225001 := n0_; have HO_230001 := n1_; have HO_236001 := n2_; have HO251 := n3_; have HO255 := n4_; have BK213 := n5_; have BK224 := n6_; have BK229 := n7_; have BK235 := n8_; have BK257 := n9_; have HB := n10_; clear n0_ n1_ n2_ n3_ n4_ n5_ n6_ n7_ n8_ n9_ n10_; (try clear hb); (try clear hb2); (try clear hk); (try clear hi)))
             go_meet
             case rel => exact ⟨_, ((t256 != t223)), (by first | rfl | (simp; done) | (simp [*]; done)), H', ⟨by have := HJ12.out; have := HJ61.out; first | omega | exact Nat.le_refl _⟩, ⟨by (try simp only [hl230001_61]); (with_reducible repeat (first | apply Kd.R_alloc | apply Kd.R_drewN | apply Kd.R_drew)); exact Kd.R_mono HO_225001.out (fun _ hk => ⟨hk.1.1.1, ⟨hk.1.1.2, hk.2⟩⟩)⟩, ⟨by (try simp only [hl230001_61]); (with_reducible repeat (first | apply Kd.R_alloc | apply Kd.R_drewN | apply Kd.R_drew)); exact Kd.R_mono HO_230001.out (fun _ hk => ⟨hk.1.1.1, ⟨hk.1.1.2, hk.2⟩⟩)⟩, ⟨by (try simp only [hl230001_61]); (with_reducible repeat (first | apply Kd.R_alloc | apply Kd.R_drewN | apply Kd.R_drew)); exact Kd.R_mono HO_236001.out (fun _ hk => ⟨hk.1.1.1, ⟨hk.1.1.2, hk.2⟩⟩)⟩, ⟨by (try simp only [hl230001_61]); (with_reducible repeat (first | apply Kd.R_alloc | apply Kd.R_drewN | apply Kd.R_drew)); exact Kd.R_mono HO255.out (fun _ hk => ⟨hk.1.1.1.2, ⟨hk.1.1.2, hk.1.2⟩⟩)⟩, ⟨by (try simp only [hl230001_61]); (with_reducible repeat (first | refine blk_drewN ?_ _ | refine blk_drew ?_ | refine blk_alloc ?_ _)); exact BK213.out⟩, ⟨by (try simp only [hl230001_61]); (with_reducible repeat (first | refine blk_drewN ?_ _ | refine blk_drew ?_ | refine blk_alloc ?_ _)); exact BK224.out⟩, ⟨by (try simp only [hl230001_61]); (with_reducible repeat (first | refine blk_drewN ?_ _ | refine blk_drew ?_ | refine blk_alloc ?_ _)); exact BK229.out⟩, ⟨by (try simp only [hl230001_61]); (with_reducible repeat (first | refine blk_drewN ?_ _ | refine blk_drew ?_ | refine blk_alloc ?_ _)); exact BK235.out⟩, ⟨by (try simp only [hl230001_61]); (with_reducible repeat (first | refine blk_drewN ?_ _ | refine blk_drew ?_ | refine blk_alloc ?_ _)); exact BK257.out⟩, ⟨by repeat (first | (with_reducible first | exact HB.out | apply bwA | apply bwN | apply bwD | refine below_set ?_ GE213.out | refine below_set ?_ GE224.out | refine below_set ?_ GE229.out | refine below_set ?_ GE235.out | refine below_set ?_ GE257.out) | exact HB.out)⟩⟩
            ·replace c127 := Bool.eq_false_iff.mpr c127
             subst c127
             have H1 : (laws_FnExactDiagramOr.j2 kj61 t245 true t230 t246) = some r := by rw [if_neg (show ¬ (false = true) by decide)] at H; exact H
             clear H
             have H := H1
             clear H1
             have H' := Aside0.mk H
             clear H
             have hnb138 := NB257_213.out
             have hnc138 := NB213_257.out
             have hnb139 := NB257_224.out
             have hnc139 := NB224_257.out
             have hnb140 := NB257_229.out
             have hnc140 := NB229_257.out
             have hnb141 := NB257_235.out
             have hnc141 := NB235_257.out
             have hcz142_0 : w119.cell? ⟨gb257, 0, none⟩ = some (.int .i64 0) := (blk_cell BK257.out 0).trans rfl
             have hcz142_1 : w119.cell? ⟨gb257, 1, none⟩ = some (.slice none 0 0) := (blk_cell BK257.out 1).trans rfl
             have hfz142_0 := blk_frozen BK257.out 0
             have hfz142_1 := blk_frozen BK257.out 1
             have hnb143 := NB224_213.out
             have hnc143 := NB213_224.out
             have hnb144 := NB224_229.out
             have hnc144 := NB229_224.out
             have hnb145 := NB224_235.out
             have hnc145 := NB235_224.out
             have hcz146_0 : w119.cell? ⟨gb224, 0, none⟩ = some (.int .i64 t219) := (blk_cell BK224.out 0).trans rfl
             have hcz146_1 : w119.cell? ⟨gb224, 1, none⟩ = some (.slice Ao24 t220.length co24) := (blk_cell BK224.out 1).trans rfl
             have hfz146_0 := blk_frozen BK224.out 0
             have hfz146_1 := blk_frozen BK224.out 1
             go_wp2_with (first | ((with_reducible refine gate_callee (f := 21) rfl ?_); refine goesL_ (some 91) rfl rfl Try.func21 (by kernel_rfl) rfl #[.agg #[.int .i64 t252, .slice Ao125 t253.length co125], .agg #[.int .i64 t219, .slice Ao24 t220.length co24]] rfl (by (try simp only [List.map_toArray, List.map_cons, List.map_nil]); first | done | rfl | (simp only [List.length_drop, List.length_take]; rfl)) ?_; (with_reducible refine (laws_eqDiagram.calls kj61 t252 _ _ t253 t219 _ _ t220 false _ ?side1 ?side2 ?side3 ?side4 A126.out).mono ?_); (case side1 => refine (Kd.R_reads' (e := 71) (base := w.heap.size) (ok := fun k_ => ((((True ∧ some k_ ≠ (.slice Ao24 t220.length co24 : Value).ownBlock) ∧ some k_ ≠ (.slice Ao31 t243.length co31 : Value).ownBlock) ∧ some k_ ≠ (.slice Ao38 t231.length co38 : Value).ownBlock) ∧ some k_ ≠ (.slice Ao117 t249.length co117 : Value).ownBlock)) (n := t253.length) (c := co125) ?_).2.2; exact (by (with_reducible repeat (first | apply Kd.R_alloc | apply Kd.R_drewN | apply Kd.R_drew)); exact (Kd.R_mono (Kd.R_far (p := ⟨gb257, 1, none⟩) (Kd.R_far (p := ⟨gb257, 0, none⟩) (Kd.R_types HO255.out BK257.out (by decide)) (fun _ hk => hk.2) (.int .i64 t252)) (fun _ hk => hk.2) (.slice Ao125 t253.length co125)) (fun _ h_ => h_.1)))); (case side2 => exact (Kd.R_reads' HO255.out).2.1); (case side3 => refine (Kd.R_reads' (e := 71) (base := w.heap.size) (ok := fun k_ => (((some k_ ≠ (.slice Ao31 t243.length co31 : Value).ownBlock ∧ some k_ ≠ (.slice Ao38 t231.length co38 : Value).ownBlock) ∧ some k_ ≠ (.slice Ao117 t249.length co117 : Value).ownBlock) ∧ some k_ ≠ (.slice Ao125 t253.length co125 : Value).ownBlock)) (n := t220.length) (c := co24) ?_).2.2; exact (by (with_reducible repeat (first | apply Kd.R_alloc | apply Kd.R_drewN | apply Kd.R_drew)); exact (Kd.R_mono (Kd.R_far (p := ⟨gb257, 1, none⟩) (Kd.R_far (p := ⟨gb257, 0, none⟩) (Kd.R_types HO_225001.out BK257.out (by decide)) (fun _ hk => hk.2) (.int .i64 t252)) (fun _ hk => hk.2) (.slice Ao125 t253.length co125)) (fun _ h_ => h_.1)))); (case side4 => exact (Kd.R_reads' HO_225001.out).2.1); rintro e w147 ⟨rfl, hb⟩; refine ⟨_, rfl, ?_⟩; have n0_ := Aside0.mk (Kd.R_below (by (with_reducible repeat (first | apply Kd.R_alloc | apply Kd.R_drewN | apply Kd.R_drew)); exact (Kd.R_mono (Kd.R_far (p := ⟨gb257, 1, none⟩) (Kd.R_far (p := ⟨gb257, 0, none⟩) (Kd.R_types HO_225001.out BK257.out (by decide)) (fun _ hk => hk.2) (.int .i64 t252)) (fun _ hk => hk.2) (.slice Ao125 t253.length co125)) (fun _ h_ => h_.1))) hb); have n1_ := Aside0.mk (Kd.R_below (by (with_reducible repeat (first | apply Kd.R_alloc | apply Kd.R_drewN | apply Kd.R_drew)); exact (Kd.R_mono (Kd.R_far (p := ⟨gb257, 1, none⟩) (Kd.R_far (p := ⟨gb257, 0, none⟩) (Kd.R_types HO_230001.out BK257.out (by decide)) (fun _ hk => hk.2) (.int .i64 t252)) (fun _ hk => hk.2) (.slice Ao125 t253.length co125)) (fun _ h_ => h_.1))) hb); have n2_ := Aside0.mk (Kd.R_below (by (with_reducible repeat (first | apply Kd.R_alloc | apply Kd.R_drewN | apply Kd.R_drew)); exact (Kd.R_mono (Kd.R_far (p := ⟨gb257, 1, none⟩) (Kd.R_far (p := ⟨gb257, 0, none⟩) (Kd.R_types HO_236001.out BK257.out (by decide)) (fun _ hk => hk.2) (.int .i64 t252)) (fun _ hk => hk.2) (.slice Ao125 t253.length co125)) (fun _ h_ => h_.1))) hb); have n3_ := Aside0.mk (Kd.R_below (by (with_reducible repeat (first | apply Kd.R_alloc | apply Kd.R_drewN | apply Kd.R_drew)); exact (Kd.R_mono (Kd.R_far (p := ⟨gb257, 1, none⟩) (Kd.R_far (p := ⟨gb257, 0, none⟩) (Kd.R_types HO251.out BK257.out (by decide)) (fun _ hk => hk.2) (.int .i64 t252)) (fun _ hk => hk.2) (.slice Ao125 t253.length co125)) (fun _ h_ => h_.1))) hb); have n4_ := Aside0.mk (Kd.R_below (by (with_reducible repeat (first | apply Kd.R_alloc | apply Kd.R_drewN | apply Kd.R_drew)); exact (Kd.R_mono (Kd.R_far (p := ⟨gb257, 1, none⟩) (Kd.R_far (p := ⟨gb257, 0, none⟩) (Kd.R_types HO255.out BK257.out (by decide)) (fun _ hk => hk.2) (.int .i64 t252)) (fun _ hk => hk.2) (.slice Ao125 t253.length co125)) (fun _ h_ => h_.1))) hb); have n5_ := Aside0.mk (blk_below (g := gb213) (o := .cells #[.int .i64 a0_0, .slice A0_1 l0_1.length c0_1] 34 (0, 0)) (by (with_reducible repeat (first | refine blk_drewN ?_ _ | refine blk_drew ?_ | refine blk_alloc ?_ _)); refine blk_far ?_ NB213_257.out _; (with_reducible repeat (first | refine blk_drewN ?_ _ | refine blk_drew ?_ | refine blk_alloc ?_ _)); refine blk_far ?_ NB213_257.out _; (with_reducible repeat (first | refine blk_drewN ?_ _ | refine blk_drew ?_ | refine blk_alloc ?_ _)); exact BK213.out) hb); have n6_ := Aside0.mk (blk_below (g := gb224) (o := .cells #[.int .i64 t219, .slice Ao24 t220.length co24] 25 (0, 0)) (by (with_reducible repeat (first | refine blk_drewN ?_ _ | refine blk_drew ?_ | refine blk_alloc ?_ _)); refine blk_far ?_ NB224_257.out _; (with_reducible repeat (first | refine blk_drewN ?_ _ | refine blk_drew ?_ | refine blk_alloc ?_ _)); refine blk_far ?_ NB224_257.out _; (with_reducible repeat (first | refine blk_drewN ?_ _ | refine blk_drew ?_ | refine blk_alloc ?_ _)); exact BK224.out) hb); have n7_ := Aside0.mk (blk_below (g := gb229) (o := .cells #[.int .i64 t225, .slice Ao31 t243.length co31] 25 (0, 0)) (by (with_reducible repeat (first | refine blk_drewN ?_ _ | refine blk_drew ?_ | refine blk_alloc ?_ _)); refine blk_far ?_ NB229_257.out _; (with_reducible repeat (first | refine blk_drewN ?_ _ | refine blk_drew ?_ | refine blk_alloc ?_ _)); refine blk_far ?_ NB229_257.out _; (with_reducible repeat (first | refine blk_drewN ?_ _ | refine blk_drew ?_ | refine blk_alloc ?_ _)); exact BK229.out) hb); have n8_ := Aside0.mk (blk_below (g := gb235) (o := .cells #[.int .i64 t230, .slice Ao38 t231.length co38] 25 (0, 0)) (by (with_reducible repeat (first | refine blk_drewN ?_ _ | refine blk_drew ?_ | refine blk_alloc ?_ _)); refine blk_far ?_ NB235_257.out _; (with_reducible repeat (first | refine blk_drewN ?_ _ | refine blk_drew ?_ | refine blk_alloc ?_ _)); refine blk_far ?_ NB235_257.out _; (with_reducible repeat (first | refine blk_drewN ?_ _ | refine blk_drew ?_ | refine blk_alloc ?_ _)); exact BK235.out) hb); have n9_ := Aside0.mk (blk_below (g := gb257) (o := .cells #[.int .i64 t252, .slice Ao125 t253.length co125] 25 (0, 0)) (by (with_reducible repeat (first | refine blk_drewN ?_ _ | refine blk_drew ?_ | refine blk_alloc ?_ _)); refine blk_put (cs := #[.int .i64 t252, .slice none 0 0]) ?_ 1 _ rfl; (with_reducible repeat (first | refine blk_drewN ?_ _ | refine blk_drew ?_ | refine blk_alloc ?_ _)); refine blk_put (cs := #[.int .i64 0, .slice none 0 0]) ?_ 0 _ rfl; (with_reducible repeat (first | refine blk_drewN ?_ _ | refine blk_drew ?_ | refine blk_alloc ?_ _)); exact BK257.out) hb); have n10_ := Aside0.mk (below_step (by repeat (first | (with_reducible first | exact HB.out | apply bwA | apply bwN | apply bwD | refine below_set ?_ GE213.out | refine below_set ?_ GE224.out | refine below_set ?_ GE229.out | refine below_set ?_ GE235.out | refine below_set ?_ GE257.out) | exact HB.out)) hb); clear HO_225001; clear HO_230001; clear HO_236001; clear HO251; clear HO255; clear BK213; clear BK224; clear BK229; clear BK235; clear BK257; clear HB; have HO_225001 := n0_; have HO_230001 := n1_; have HO_236001 := n2_; have HO251 := n3_; have HO255 := n4_; have BK213 := n5_; have BK224 := n6_; have BK229 := n7_; have BK235 := n8_; have BK257 := n9_; have HB := n10_; clear n0_ n1_ n2_ n3_ n4_ n5_ n6_ n7_ n8_ n9_ n10_; (try clear hb); (try clear hb2); (try clear hk); (try clear hi)))
             go_meet
             case rel => exact ⟨_, (true), (by first | rfl | (simp; done) | (simp [*]; done)), H', ⟨by have := HJ12.out; have := HJ61.out; first | omega | exact Nat.le_refl _⟩, ⟨by (try simp only [hl230001_61]); (with_reducible repeat (first | apply Kd.R_alloc | apply Kd.R_drewN | apply Kd.R_drew)); exact Kd.R_mono HO_225001.out (fun _ hk => ⟨hk.1.1.1, ⟨hk.1.1.2, hk.2⟩⟩)⟩, ⟨by (try simp only [hl230001_61]); (with_reducible repeat (first | apply Kd.R_alloc | apply Kd.R_drewN | apply Kd.R_drew)); exact Kd.R_mono HO_230001.out (fun _ hk => ⟨hk.1.1.1, ⟨hk.1.1.2, hk.2⟩⟩)⟩, ⟨by (try simp only [hl230001_61]); (with_reducible repeat (first | apply Kd.R_alloc | apply Kd.R_drewN | apply Kd.R_drew)); exact Kd.R_mono HO_236001.out (fun _ hk => ⟨hk.1.1.1, ⟨hk.1.1.2, hk.2⟩⟩)⟩, ⟨by (try simp only [hl230001_61]); (with_reducible repeat (first | apply Kd.R_alloc | apply Kd.R_drewN | apply Kd.R_drew)); exact Kd.R_mono HO255.out (fun _ hk => ⟨hk.1.1.1.2, ⟨hk.1.1.2, hk.1.2⟩⟩)⟩, ⟨by (try simp only [hl230001_61]); (with_reducible repeat (first | refine blk_drewN ?_ _ | refine blk_drew ?_ | refine blk_alloc ?_ _)); exact BK213.out⟩, ⟨by (try simp only [hl230001_61]); (with_reducible repeat (first | refine blk_drewN ?_ _ | refine blk_drew ?_ | refine blk_alloc ?_ _)); exact BK224.out⟩, ⟨by (try simp only [hl230001_61]); (with_reducible repeat (first | refine blk_drewN ?_ _ | refine blk_drew ?_ | refine blk_alloc ?_ _)); exact BK229.out⟩, ⟨by (try simp only [hl230001_61]); (with_reducible repeat (first | refine blk_drewN ?_ _ | refine blk_drew ?_ | refine blk_alloc ?_ _)); exact BK235.out⟩, ⟨by (try simp only [hl230001_61]); (with_reducible repeat (first | refine blk_drewN ?_ _ | refine blk_drew ?_ | refine blk_alloc ?_ _)); exact BK257.out⟩, ⟨by repeat (first | (with_reducible first | exact HB.out | apply bwA | apply bwN | apply bwD | refine below_set ?_ GE213.out | refine below_set ?_ GE224.out | refine below_set ?_ GE229.out | refine below_set ?_ GE235.out | refine below_set ?_ GE257.out) | exact HB.out)⟩⟩
           case rest =>
            clear HC105
            try clear c1
            try clear c2
            try clear p2
            try clear c3
            try clear c4
            try clear c5
            try clear c5b0
            try clear c6
            try clear c7
            try clear c8
            try clear c9
            try clear c10
            try clear c11
            try clear c12
            try clear c13
            try clear c14
            try clear c18
            try clear c20
            try clear c21
            try clear c22
            try clear c23
            try clear c28
            try clear c29
            try clear c34
            try clear c35
            try clear c36
            try clear c40
            try clear c41
            try clear c42
            try clear c43
            try clear c45
            try clear c46
            try clear c49
            try clear c50
            try clear c51
            try clear c53
            try clear c54
            try clear c57
            try clear c60
            try clear c67
            try clear c68
            try clear c69
            try clear c72
            try clear c72b0
            try clear c74
            try clear c75
            try clear c76
            try clear c77
            try clear c79
            try clear c80
            try clear c83
            try clear c84
            try clear c85
            try clear c87
            try clear c88
            try clear c91
            try clear c94
            try clear c94b0
            try clear c95
            try clear c96
            try clear c97
            try clear c102
            try clear c102b0
            try clear c102b1
            try clear c106
            try clear c107
            try clear c108
            try clear c113
            try clear c114
            try clear c120
            try clear c121
            try clear c122
            try clear c123
            try clear c127
            try clear c128
            try clear c129
            try clear c130
            try clear c131
            try clear c133
            try clear c134
            try clear c135
            try clear c138
            try clear c139
            try clear c140
            try clear c141
            try clear c143
            try clear c144
            try clear c145
            try clear hcz100_0
            try clear hcz100_1
            try clear hcz109_0
            try clear hcz109_1
            try clear hcz111_0
            try clear hcz111_1
            try clear hcz115_0
            try clear hcz115_1
            try clear hcz124_0
            try clear hcz124_1
            try clear hcz132_0
            try clear hcz132_1
            try clear hcz136_0
            try clear hcz136_1
            try clear hcz142_0
            try clear hcz142_1
            try clear hcz146_0
            try clear hcz146_1
            try clear hcz15_0
            try clear hcz15_1
            try clear hcz17_0
            try clear hcz17_1
            try clear hcz23_0
            try clear hcz23_1
            try clear hcz25_0
            try clear hcz25_1
            try clear hcz30_0
            try clear hcz30_1
            try clear hcz37_0
            try clear hcz37_1
            try clear hcz44_0
            try clear hcz44_1
            try clear hcz47_0
            try clear hcz47_1
            try clear hcz52_0
            try clear hcz52_1
            try clear hcz55_0
            try clear hcz55_1
            try clear hcz70_0
            try clear hcz70_1
            try clear hcz78_0
            try clear hcz78_1
            try clear hcz7_0
            try clear hcz7_1
            try clear hcz81_0
            try clear hcz81_1
            try clear hcz86_0
            try clear hcz86_1
            try clear hcz89_0
            try clear hcz89_1
            try clear hcz98_0
            try clear hcz98_1
            try clear hfz100_0
            try clear hfz100_1
            try clear hfz109_0
            try clear hfz109_1
            try clear hfz111_0
            try clear hfz111_1
            try clear hfz115_0
            try clear hfz115_1
            try clear hfz124_0
            try clear hfz124_1
            try clear hfz132_0
            try clear hfz132_1
            try clear hfz136_0
            try clear hfz136_1
            try clear hfz142_0
            try clear hfz142_1
            try clear hfz146_0
            try clear hfz146_1
            try clear hfz15_0
            try clear hfz15_1
            try clear hfz17_0
            try clear hfz17_1
            try clear hfz23_0
            try clear hfz23_1
            try clear hfz25_0
            try clear hfz25_1
            try clear hfz30_0
            try clear hfz30_1
            try clear hfz37_0
            try clear hfz37_1
            try clear hfz44_0
            try clear hfz44_1
            try clear hfz47_0
            try clear hfz47_1
            try clear hfz52_0
            try clear hfz52_1
            try clear hfz55_0
            try clear hfz55_1
            try clear hfz70_0
            try clear hfz70_1
            try clear hfz78_0
            try clear hfz78_1
            try clear hfz7_0
            try clear hfz7_1
            try clear hfz81_0
            try clear hfz81_1
            try clear hfz86_0
            try clear hfz86_1
            try clear hfz89_0
            try clear hfz89_1
            try clear hfz98_0
            try clear hfz98_1
            try clear p2
            obtain ⟨kq, x97_104, rfl, HA, HJ104, HO_225001, HO_230001, HO_236001, HO_258001, BK213, BK224, BK229, BK235, BK257, HB⟩ := hcut
            have hl236001_104 := (Kd.R_reads' HO_236001.out).1
            rw [hl236001_104] at HO_236001
            (try simp only [hl236001_104])
            (try simp only [hl236001_104] at BK213)
            (try simp only [hl236001_104] at BK224)
            (try simp only [hl236001_104] at BK229)
            (try simp only [hl236001_104] at BK235)
            (try simp only [hl236001_104] at BK257)
            (try simp only [hl236001_104] at HO_225001)
            (try simp only [hl236001_104] at HO_230001)
            (try simp only [hl236001_104] at HO_258001)
            cases kq with
            | zero => exact absurd HA.out (by simp [laws_FnExactDiagramOr.j2])
            | succ kj104 =>
             have H := HA.out
             clear HA
             simp only [laws_FnExactDiagramOr.j2] at H
             by_cases c148 : x97_104 = true
             ·subst c148
              have H1 : (some false) = some r := by rw [if_pos rfl] at H; exact H
              clear H
              have H := H1
              clear H1
              obtain rfl := Option.some.inj H
              go_wp2
              go_ret
              exact ⟨by first | rfl | (simp [errW_none, errW_some] <;> rfl) | (simp [*, errW_none, errW_some] <;> rfl), by repeat (first | (with_reducible first | exact HB.out | apply bwA | apply bwN | apply bwD | refine below_set ?_ GE213.out | refine below_set ?_ GE224.out | refine below_set ?_ GE229.out | refine below_set ?_ GE235.out | refine below_set ?_ GE257.out) | exact HB.out)⟩
             ·replace c148 := Bool.eq_false_iff.mpr c148
              subst c148
              have H1 : ((laws_heldDiagram.f kj104 t230 t246 1).bind fun t259 => (if t259 < 0 then (some false) else (if t259 = t245 then (some true) else (some false)))) = some r := by rw [if_neg (show ¬ (false = true) by decide)] at H; exact H
              clear H
              have H := H1
              clear H1
              replace H := Option.bind_eq_some_iff.mp H
              obtain ⟨t259, A1490, H⟩ := H
              replace H : (if t259 < 0 then (some false) else (if t259 = t245 then (some true) else (some false))) = some r := H
              have A149 := Aside0.mk A1490
              clear A1490
              by_cases c150 : t259 < 0
              ·rw [if_pos c150] at H
               have c150b0 : decide (t259 < 0) = true := decide_eq_true c150
               clear c150
               obtain rfl := Option.some.inj H
               have hnb151 := NB235_213.out
               have hnc151 := NB213_235.out
               have hnb152 := NB235_224.out
               have hnc152 := NB224_235.out
               have hnb153 := NB235_229.out
               have hnc153 := NB229_235.out
               have hnb154 := NB235_257.out
               have hnc154 := NB257_235.out
               have hcz155_0 : wc.cell? ⟨gb235, 0, none⟩ = some (.int .i64 t230) := (blk_cell BK235.out 0).trans rfl
               have hcz155_1 : wc.cell? ⟨gb235, 1, none⟩ = some (.slice Ao38 t246.length co38) := (blk_cell BK235.out 1).trans rfl
               have hfz155_0 := blk_frozen BK235.out 0
               have hfz155_1 := blk_frozen BK235.out 1
               go_wp2_with (first | ((with_reducible refine gate_callee (f := 23) rfl ?_); refine goesL_ (some 100) rfl rfl Try.func23 (by kernel_rfl) rfl #[.agg #[.int .i64 t230, .slice Ao38 t246.length co38], .int .i64 1] rfl (by (try simp only [List.map_toArray, List.map_cons, List.map_nil]); first | done | rfl | (simp only [List.length_drop, List.length_take]; rfl)) ?_; (with_reducible refine (laws_heldDiagram.calls kj104 t230 _ _ t246 1 t259 _ ?side1 ?side2 A149.out).mono ?_); (case side1 => repeat (first | exact (Kd.R_reads' HO_236001.out).2.2 | (with_reducible refine Kd.C_alloc ?_ _) | (with_reducible refine Kd.C_drewN ?_ _) | (with_reducible refine Kd.C_drew ?_))); (case side2 => exact (Kd.R_reads' HO_236001.out).2.1); rintro e w156 ⟨rfl, hb⟩; refine ⟨_, rfl, ?_⟩; have n0_ := Aside0.mk (Kd.R_below (by (with_reducible repeat (first | apply Kd.R_alloc | apply Kd.R_drewN | apply Kd.R_drew)); exact HO_225001.out) hb); have n1_ := Aside0.mk (Kd.R_below (by (with_reducible repeat (first | apply Kd.R_alloc | apply Kd.R_drewN | apply Kd.R_drew)); exact HO_230001.out) hb); have n2_ := Aside0.mk (Kd.R_below (by (with_reducible repeat (first | apply Kd.R_alloc | apply Kd.R_drewN | apply Kd.R_drew)); exact HO_236001.out) hb); have n3_ := Aside0.mk (Kd.R_below (by (with_reducible repeat (first | apply Kd.R_alloc | apply Kd.R_drewN | apply Kd.R_drew)); exact HO_258001.out) hb); have n4_ := Aside0.mk (blk_below (g := gb213) (o := .cells #[.int .i64 a0_0, .slice A0_1 l0_1.length c0_1] 34 (0, 0)) (by (with_reducible repeat (first | refine blk_drewN ?_ _ | refine blk_drew ?_ | refine blk_alloc ?_ _)); exact BK213.out) hb); have n5_ := Aside0.mk (blk_below (g := gb224) (o := .cells #[.int .i64 t219, .slice Ao24 t220.length co24] 25 (0, 0)) (by (with_reducible repeat (first | refine blk_drewN ?_ _ | refine blk_drew ?_ | refine blk_alloc ?_ _)); exact BK224.out) hb); have n6_ := Aside0.mk (blk_below (g := gb229) (o := .cells #[.int .i64 t225, .slice Ao31 t243.length co31] 25 (0, 0)) (by (with_reducible repeat (first | refine blk_drewN ?_ _ | refine blk_drew ?_ | refine blk_alloc ?_ _)); exact BK229.out) hb); have n7_ := Aside0.mk (blk_below (g := gb235) (o := .cells #[.int .i64 t230, .slice Ao38 t246.length co38] 25 (0, 0)) (by (with_reducible repeat (first | refine blk_drewN ?_ _ | refine blk_drew ?_ | refine blk_alloc ?_ _)); exact BK235.out) hb); have n8_ := Aside0.mk (blk_below (g := gb257) (o := .cells #[.int .i64 t252, .slice Ao125 t253.length co125] 25 (0, 0)) (by (with_reducible repeat (first | refine blk_drewN ?_ _ | refine blk_drew ?_ | refine blk_alloc ?_ _)); exact BK257.out) hb); have n9_ := Aside0.mk (below_step (by repeat (first | (with_reducible first | exact HB.out | apply bwA | apply bwN | apply bwD | refine below_set ?_ GE213.out | refine below_set ?_ GE224.out | refine below_set ?_ GE229.out | refine below_set ?_ GE235.out | refine below_set ?_ GE257.out) | exact HB.out)) hb); clear HO_225001; clear HO_230001; clear HO_236001; clear HO_258001; clear BK213; clear BK224; clear BK229; clear BK235; clear BK257; clear HB; have HO_225001 := n0_; have HO_230001 := n1_; have HO_236001 := n2_; have HO_258001 := n3_; have BK213 := n4_; have BK224 := n5_; have BK229 := n6_; have BK235 := n7_; have BK257 := n8_; have HB := n9_; clear n0_ n1_ n2_ n3_ n4_ n5_ n6_ n7_ n8_ n9_; (try clear hb); (try clear hb2); (try clear hk); (try clear hi)))
               go_ret
               exact ⟨by first | rfl | (simp [errW_none, errW_some] <;> rfl) | (simp [*, errW_none, errW_some] <;> rfl), by repeat (first | (with_reducible first | exact HB.out | apply bwA | apply bwN | apply bwD | refine below_set ?_ GE213.out | refine below_set ?_ GE224.out | refine below_set ?_ GE229.out | refine below_set ?_ GE235.out | refine below_set ?_ GE257.out) | exact HB.out)⟩
              ·rw [if_neg c150] at H
               have c150b0 : decide (t259 < 0) = false := decide_eq_false c150
               clear c150
               by_cases c157 : t259 = t245
               ·rw [if_pos c157] at H
                have c157b0 : (t259 == t245) = true := beq_iff_eq.mpr c157
                have c157b1 : (t259 != t245) = false := bne_eq_false_iff_eq.mpr c157
                clear c157
                obtain rfl := Option.some.inj H
                have hnb158 := NB235_213.out
                have hnc158 := NB213_235.out
                have hnb159 := NB235_224.out
                have hnc159 := NB224_235.out
                have hnb160 := NB235_229.out
                have hnc160 := NB229_235.out
                have hnb161 := NB235_257.out
                have hnc161 := NB257_235.out
                have hcz162_0 : wc.cell? ⟨gb235, 0, none⟩ = some (.int .i64 t230) := (blk_cell BK235.out 0).trans rfl
                have hcz162_1 : wc.cell? ⟨gb235, 1, none⟩ = some (.slice Ao38 t246.length co38) := (blk_cell BK235.out 1).trans rfl
                have hfz162_0 := blk_frozen BK235.out 0
                have hfz162_1 := blk_frozen BK235.out 1
                go_wp2_with (first | ((with_reducible refine gate_callee (f := 23) rfl ?_); refine goesL_ (some 100) rfl rfl Try.func23 (by kernel_rfl) rfl #[.agg #[.int .i64 t230, .slice Ao38 t246.length co38], .int .i64 1] rfl (by (try simp only [List.map_toArray, List.map_cons, List.map_nil]); first | done | rfl | (simp only [List.length_drop, List.length_take]; rfl)) ?_; (with_reducible refine (laws_heldDiagram.calls kj104 t230 _ _ t246 1 t259 _ ?side1 ?side2 A149.out).mono ?_); (case side1 => repeat (first | exact (Kd.R_reads' HO_236001.out).2.2 | (with_reducible refine Kd.C_alloc ?_ _) | (with_reducible refine Kd.C_drewN ?_ _) | (with_reducible refine Kd.C_drew ?_))); (case side2 => exact (Kd.R_reads' HO_236001.out).2.1); rintro e w163 ⟨rfl, hb⟩; refine ⟨_, rfl, ?_⟩; have n0_ := Aside0.mk (Kd.R_below (by (with_reducible repeat (first | apply Kd.R_alloc | apply Kd.R_drewN | apply Kd.R_drew)); exact HO_225001.out) hb); have n1_ := Aside0.mk (Kd.R_below (by (with_reducible repeat (first | apply Kd.R_alloc | apply Kd.R_drewN | apply Kd.R_drew)); exact HO_230001.out) hb); have n2_ := Aside0.mk (Kd.R_below (by (with_reducible repeat (first | apply Kd.R_alloc | apply Kd.R_drewN | apply Kd.R_drew)); exact HO_236001.out) hb); have n3_ := Aside0.mk (Kd.R_below (by (with_reducible repeat (first | apply Kd.R_alloc | apply Kd.R_drewN | apply Kd.R_drew)); exact HO_258001.out) hb); have n4_ := Aside0.mk (blk_below (g := gb213) (o := .cells #[.int .i64 a0_0, .slice A0_1 l0_1.length c0_1] 34 (0, 0)) (by (with_reducible repeat (first | refine blk_drewN ?_ _ | refine blk_drew ?_ | refine blk_alloc ?_ _)); exact BK213.out) hb); have n5_ := Aside0.mk (blk_below (g := gb224) (o := .cells #[.int .i64 t219, .slice Ao24 t220.length co24] 25 (0, 0)) (by (with_reducible repeat (first | refine blk_drewN ?_ _ | refine blk_drew ?_ | refine blk_alloc ?_ _)); exact BK224.out) hb); have n6_ := Aside0.mk (blk_below (g := gb229) (o := .cells #[.int .i64 t225, .slice Ao31 t243.length co31] 25 (0, 0)) (by (with_reducible repeat (first | refine blk_drewN ?_ _ | refine blk_drew ?_ | refine blk_alloc ?_ _)); exact BK229.out) hb); have n7_ := Aside0.mk (blk_below (g := gb235) (o := .cells #[.int .i64 t230, .slice Ao38 t246.length co38] 25 (0, 0)) (by (with_reducible repeat (first | refine blk_drewN ?_ _ | refine blk_drew ?_ | refine blk_alloc ?_ _)); exact BK235.out) hb); have n8_ := Aside0.mk (blk_below (g := gb257) (o := .cells #[.int .i64 t252, .slice Ao125 t253.length co125] 25 (0, 0)) (by (with_reducible repeat (first | refine blk_drewN ?_ _ | refine blk_drew ?_ | refine blk_alloc ?_ _)); exact BK257.out) hb); have n9_ := Aside0.mk (below_step (by repeat (first | (with_reducible first | exact HB.out | apply bwA | apply bwN | apply bwD | refine below_set ?_ GE213.out | refine below_set ?_ GE224.out | refine below_set ?_ GE229.out | refine below_set ?_ GE235.out | refine below_set ?_ GE257.out) | exact HB.out)) hb); clear HO_225001; clear HO_230001; clear HO_236001; clear HO_258001; clear BK213; clear BK224; clear BK229; clear BK235; clear BK257; clear HB; have HO_225001 := n0_; have HO_230001 := n1_; have HO_236001 := n2_; have HO_258001 := n3_; have BK213 := n4_; have BK224 := n5_; have BK229 := n6_; have BK235 := n7_; have BK257 := n8_; have HB := n9_; clear n0_ n1_ n2_ n3_ n4_ n5_ n6_ n7_ n8_ n9_; (try clear hb); (try clear hb2); (try clear hk); (try clear hi)))
                go_ret
                exact ⟨by first | rfl | (simp [errW_none, errW_some] <;> rfl) | (simp [*, errW_none, errW_some] <;> rfl), by repeat (first | (with_reducible first | exact HB.out | apply bwA | apply bwN | apply bwD | refine below_set ?_ GE213.out | refine below_set ?_ GE224.out | refine below_set ?_ GE229.out | refine below_set ?_ GE235.out | refine below_set ?_ GE257.out) | exact HB.out)⟩
               ·rw [if_neg c157] at H
                have c157b0 : (t259 == t245) = false := beq_eq_false_iff_ne.mpr c157
                have c157b1 : (t259 != t245) = true := bne_iff_ne.mpr c157
                obtain rfl := Option.some.inj H
                have hnb164 := NB235_213.out
                have hnc164 := NB213_235.out
                have hnb165 := NB235_224.out
                have hnc165 := NB224_235.out
                have hnb166 := NB235_229.out
                have hnc166 := NB229_235.out
                have hnb167 := NB235_257.out
                have hnc167 := NB257_235.out
                have hcz168_0 : wc.cell? ⟨gb235, 0, none⟩ = some (.int .i64 t230) := (blk_cell BK235.out 0).trans rfl
                have hcz168_1 : wc.cell? ⟨gb235, 1, none⟩ = some (.slice Ao38 t246.length co38) := (blk_cell BK235.out 1).trans rfl
                have hfz168_0 := blk_frozen BK235.out 0
                have hfz168_1 := blk_frozen BK235.out 1
                go_wp2_with (first | ((with_reducible refine gate_callee (f := 23) rfl ?_); refine goesL_ (some 100) rfl rfl Try.func23 (by kernel_rfl) rfl #[.agg #[.int .i64 t230, .slice Ao38 t246.length co38], .int .i64 1] rfl (by (try simp only [List.map_toArray, List.map_cons, List.map_nil]); first | done | rfl | (simp only [List.length_drop, List.length_take]; rfl)) ?_; (with_reducible refine (laws_heldDiagram.calls kj104 t230 _ _ t246 1 t259 _ ?side1 ?side2 A149.out).mono ?_); (case side1 => repeat (first | exact (Kd.R_reads' HO_236001.out).2.2 | (with_reducible refine Kd.C_alloc ?_ _) | (with_reducible refine Kd.C_drewN ?_ _) | (with_reducible refine Kd.C_drew ?_))); (case side2 => exact (Kd.R_reads' HO_236001.out).2.1); rintro e w169 ⟨rfl, hb⟩; refine ⟨_, rfl, ?_⟩; have n0_ := Aside0.mk (Kd.R_below (by (with_reducible repeat (first | apply Kd.R_alloc | apply Kd.R_drewN | apply Kd.R_drew)); exact HO_225001.out) hb); have n1_ := Aside0.mk (Kd.R_below (by (with_reducible repeat (first | apply Kd.R_alloc | apply Kd.R_drewN | apply Kd.R_drew)); exact HO_230001.out) hb); have n2_ := Aside0.mk (Kd.R_below (by (with_reducible repeat (first | apply Kd.R_alloc | apply Kd.R_drewN | apply Kd.R_drew)); exact HO_236001.out) hb); have n3_ := Aside0.mk (Kd.R_below (by (with_reducible repeat (first | apply Kd.R_alloc | apply Kd.R_drewN | apply Kd.R_drew)); exact HO_258001.out) hb); have n4_ := Aside0.mk (blk_below (g := gb213) (o := .cells #[.int .i64 a0_0, .slice A0_1 l0_1.length c0_1] 34 (0, 0)) (by (with_reducible repeat (first | refine blk_drewN ?_ _ | refine blk_drew ?_ | refine blk_alloc ?_ _)); exact BK213.out) hb); have n5_ := Aside0.mk (blk_below (g := gb224) (o := .cells #[.int .i64 t219, .slice Ao24 t220.length co24] 25 (0, 0)) (by (with_reducible repeat (first | refine blk_drewN ?_ _ | refine blk_drew ?_ | refine blk_alloc ?_ _)); exact BK224.out) hb); have n6_ := Aside0.mk (blk_below (g := gb229) (o := .cells #[.int .i64 t225, .slice Ao31 t243.length co31] 25 (0, 0)) (by (with_reducible repeat (first | refine blk_drewN ?_ _ | refine blk_drew ?_ | refine blk_alloc ?_ _)); exact BK229.out) hb); have n7_ := Aside0.mk (blk_below (g := gb235) (o := .cells #[.int .i64 t230, .slice Ao38 t246.length co38] 25 (0, 0)) (by (with_reducible repeat (first | refine blk_drewN ?_ _ | refine blk_drew ?_ | refine blk_alloc ?_ _)); exact BK235.out) hb); have n8_ := Aside0.mk (blk_below (g := gb257) (o := .cells #[.int .i64 t252, .slice Ao125 t253.length co125] 25 (0, 0)) (by (with_reducible repeat (first | refine blk_drewN ?_ _ | refine blk_drew ?_ | refine blk_alloc ?_ _)); exact BK257.out) hb); have n9_ := Aside0.mk (below_step (by repeat (first | (with_reducible first | exact HB.out | apply bwA | apply bwN | apply bwD | refine below_set ?_ GE213.out | refine below_set ?_ GE224.out | refine below_set ?_ GE229.out | refine below_set ?_ GE235.out | refine below_set ?_ GE257.out) | exact HB.out)) hb); clear HO_225001; clear HO_230001; clear HO_236001; clear HO_258001; clear BK213; clear BK224; clear BK229; clear BK235; clear BK257; clear HB; have HO_225001 := n0_; have HO_230001 := n1_; have HO_236001 := n2_; have HO_258001 := n3_; have BK213 := n4_; have BK224 := n5_; have BK229 := n6_; have BK235 := n7_; have BK257 := n8_; have HB := n9_; clear n0_ n1_ n2_ n3_ n4_ n5_ n6_ n7_ n8_ n9_; (try clear hb); (try clear hb2); (try clear hk); (try clear hi)))
                go_ret
                exact ⟨by first | rfl | (simp [errW_none, errW_some] <;> rfl) | (simp [*, errW_none, errW_some] <;> rfl), by repeat (first | (with_reducible first | exact HB.out | apply bwA | apply bwN | apply bwD | refine below_set ?_ GE213.out | refine below_set ?_ GE224.out | refine below_set ?_ GE229.out | refine below_set ?_ GE235.out | refine below_set ?_ GE257.out) | exact HB.out)⟩
          ·rw [if_neg c102] at H
           have c102b0 : (t247 == t245) = false := beq_eq_false_iff_ne.mpr c102
           have c102b1 : (t247 != t245) = true := bne_iff_ne.mpr c102
           obtain rfl := Option.some.inj H
           have hnb170 := NB235_213.out
           have hnc170 := NB213_235.out
           have hnb171 := NB235_224.out
           have hnc171 := NB224_235.out
           have hnb172 := NB235_229.out
           have hnc172 := NB229_235.out
           have hcz173_0 : wc.cell? ⟨gb235, 0, none⟩ = some (.int .i64 t230) := (blk_cell BK235.out 0).trans rfl
           have hcz173_1 : wc.cell? ⟨gb235, 1, none⟩ = some (.slice Ao38 t231.length co38) := (blk_cell BK235.out 1).trans rfl
           have hfz173_0 := blk_frozen BK235.out 0
           have hfz173_1 := blk_frozen BK235.out 1
           go_wp2_with (first | ((with_reducible refine gate_callee (f := 22) rfl ?_); refine goesL_ (some 72) rfl rfl Try.func22 (by kernel_rfl) rfl #[.agg #[.int .i64 t230, .slice Ao38 t231.length co38], .int .i64 1] rfl (by (try simp only [List.map_toArray, List.map_cons, List.map_nil]); first | done | rfl | (simp only [List.length_drop, List.length_take]; rfl)) ?_; (with_reducible refine (laws_markDiagram.calls kj61 t230 (fun k_ => some k_ = (.slice Ao38 t231.length co38 : Value).ownBlock) (.slice Ao38 t231.length co38) t231 1 t245 t246 w _ ?side1 ?side2 A92.out).mono ?_); (case side1 => repeat (first | (with_reducible first | exact HB.out | apply bwA | apply bwN | apply bwD | refine below_set ?_ GE213.out | refine below_set ?_ GE224.out | refine below_set ?_ GE229.out | refine below_set ?_ GE235.out) | exact HB.out)); (case side2 => exact Kd.R_tight rfl HO_236001.out); rintro e w174 ⟨rfl, hy0, hb, hkp⟩; refine ⟨_, rfl, ?_⟩; have n0_ := Aside0.mk (Kd.R_mono (ok' := fun k_ => some k_ ≠ (.slice Ao31 t243.length co31 : Value).ownBlock ∧ some k_ ≠ (.slice Ao38 t231.length co38 : Value).ownBlock) (Kd.R_keptB (HO_225001.out) hkp (fun k_ hk_ hs_ => (hk_.2) hs_)) (fun k_ hk_ => ⟨hk_.1.1, hk_.1.2⟩)); have n1_ := Aside0.mk (Kd.R_mono (ok' := fun k_ => some k_ ≠ (.slice Ao24 t220.length co24 : Value).ownBlock ∧ some k_ ≠ (.slice Ao38 t231.length co38 : Value).ownBlock) (Kd.R_keptB (HO_230001.out) hkp (fun k_ hk_ hs_ => (hk_.2) hs_)) (fun k_ hk_ => ⟨hk_.1.1, hk_.1.2⟩)); have n2_ := Aside0.mk (Kd.R_reok rfl hy0 (fun k_ e_ => HO_236001.out.1 k_ e_)); have n3_ := Aside0.mk (blk_kept (by (with_reducible repeat (first | refine blk_drewN ?_ _ | refine blk_drew ?_ | refine blk_alloc ?_ _)); exact BK213.out) hkp (fun hs_ => (fun e_ => (Kd.R_ne HO_236001.out BK213.out (by decide)) e_) hs_)); have n4_ := Aside0.mk (blk_kept (by (with_reducible repeat (first | refine blk_drewN ?_ _ | refine blk_drew ?_ | refine blk_alloc ?_ _)); exact BK224.out) hkp (fun hs_ => (fun e_ => (Kd.R_ne HO_236001.out BK224.out (by decide)) e_) hs_)); have n5_ := Aside0.mk (blk_kept (by (with_reducible repeat (first | refine blk_drewN ?_ _ | refine blk_drew ?_ | refine blk_alloc ?_ _)); exact BK229.out) hkp (fun hs_ => (fun e_ => (Kd.R_ne HO_236001.out BK229.out (by decide)) e_) hs_)); have n6_ := Aside0.mk (blk_kept (by (with_reducible repeat (first | refine blk_drewN ?_ _ | refine blk_drew ?_ | refine blk_alloc ?_ _)); exact BK235.out) hkp (fun hs_ => (fun e_ => (Kd.R_ne HO_236001.out BK235.out (by decide)) e_) hs_)); have n7_ := Aside0.mk (hb); clear HO_225001; clear HO_230001; clear HO_236001; clear BK213; clear BK224; clear BK229; clear BK235; clear HB; have HO_225001 := n0_; have HO_230001 := n1_; have HO_236001 := n2_; have BK213 := n3_; have BK224 := n4_; have BK229 := n5_; have BK235 := n6_; have HB := n7_; clear n0_ n1_ n2_ n3_ n4_ n5_ n6_ n7_; (try clear hb); (try clear hkp); (try clear hy0); have hcz175_0 : w174.cell? ⟨gb235, 0, none⟩ = some (.int .i64 t230) := (blk_cell BK235.out 0).trans rfl; have hcz175_1 : w174.cell? ⟨gb235, 1, none⟩ = some (.slice Ao38 t231.length co38) := (blk_cell BK235.out 1).trans rfl; have hfz175_0 := blk_frozen BK235.out 0; have hfz175_1 := blk_frozen BK235.out 1) | ((with_reducible refine gate_callee (f := 23) rfl ?_); refine goesL_ (some 75) rfl rfl Try.func23 (by kernel_rfl) rfl #[.agg #[.int .i64 t230, .slice Ao38 t246.length co38], .int .i64 1] rfl (by (try simp only [List.map_toArray, List.map_cons, List.map_nil]); first | done | (rw [show t246.length = t231.length from (Kd.R_reads' HO_236001.out).1.symm] <;> rfl) | rfl | (simp only [List.length_drop, List.length_take]; rfl)) ?_; (with_reducible refine (laws_heldDiagram.calls kj61 t230 _ _ t246 1 t247 _ ?side1 ?side2 A93.out).mono ?_); (case side1 => repeat (first | exact (Kd.R_reads' HO_236001.out).2.2 | (with_reducible refine Kd.C_alloc ?_ _) | (with_reducible refine Kd.C_drewN ?_ _) | (with_reducible refine Kd.C_drew ?_))); (case side2 => rw [show t246.length = t231.length from (Kd.R_reads' HO_236001.out).1.symm]; exact (Kd.R_reads' HO_236001.out).2.1); rintro e w176 ⟨rfl, hb⟩; refine ⟨_, rfl, ?_⟩; have n0_ := Aside0.mk (Kd.R_below (by (with_reducible repeat (first | apply Kd.R_alloc | apply Kd.R_drewN | apply Kd.R_drew)); exact HO_225001.out) hb); have n1_ := Aside0.mk (Kd.R_below (by (with_reducible repeat (first | apply Kd.R_alloc | apply Kd.R_drewN | apply Kd.R_drew)); exact HO_230001.out) hb); have n2_ := Aside0.mk (Kd.R_below (by (with_reducible repeat (first | apply Kd.R_alloc | apply Kd.R_drewN | apply Kd.R_drew)); exact HO_236001.out) hb); have n3_ := Aside0.mk (blk_below (g := gb213) (o := .cells #[.int .i64 a0_0, .slice A0_1 l0_1.length c0_1] 34 (0, 0)) (by (with_reducible repeat (first | refine blk_drewN ?_ _ | refine blk_drew ?_ | refine blk_alloc ?_ _)); exact BK213.out) hb); have n4_ := Aside0.mk (blk_below (g := gb224) (o := .cells #[.int .i64 t219, .slice Ao24 t220.length co24] 25 (0, 0)) (by (with_reducible repeat (first | refine blk_drewN ?_ _ | refine blk_drew ?_ | refine blk_alloc ?_ _)); exact BK224.out) hb); have n5_ := Aside0.mk (blk_below (g := gb229) (o := .cells #[.int .i64 t225, .slice Ao31 t243.length co31] 25 (0, 0)) (by (with_reducible repeat (first | refine blk_drewN ?_ _ | refine blk_drew ?_ | refine blk_alloc ?_ _)); exact BK229.out) hb); have n6_ := Aside0.mk (blk_below (g := gb235) (o := .cells #[.int .i64 t230, .slice Ao38 t231.length co38] 25 (0, 0)) (by (with_reducible repeat (first | refine blk_drewN ?_ _ | refine blk_drew ?_ | refine blk_alloc ?_ _)); exact BK235.out) hb); have n7_ := Aside0.mk (below_step (by repeat (first | (with_reducible first | exact HB.out | apply bwA | apply bwN | apply bwD | refine below_set ?_ GE213.out | refine below_set ?_ GE224.out | refine below_set ?_ GE229.out | refine below_set ?_ GE235.out) | exact HB.out)) hb); clear HO_225001; clear HO_230001; clear HO_236001; clear BK213; clear BK224; clear BK229; clear BK235; clear HB; have HO_225001 := n0_; have HO_230001 := n1_; have HO_236001 := n2_; have BK213 := n3_; have BK224 := n4_; have BK229 := n5_; have BK235 := n6_; have HB := n7_; clear n0_ n1_ n2_ n3_ n4_ n5_ n6_ n7_; (try clear hb); (try clear hb2); (try clear hk); (try clear hi)))
           go_ret
           exact ⟨by first | rfl | (simp [errW_none, errW_some] <;> rfl) | (simp [*, errW_none, errW_some] <;> rfl), by repeat (first | (with_reducible first | exact HB.out | apply bwA | apply bwN | apply bwD | refine below_set ?_ GE213.out | refine below_set ?_ GE224.out | refine below_set ?_ GE229.out | refine below_set ?_ GE235.out) | exact HB.out)⟩
     ·replace c60 := Bool.eq_false_iff.mpr c60
      subst c60
      have H1 : (some false) = some r := by rw [if_neg (show ¬ (false = true) by decide)] at H; exact H
      clear H
      have H := H1
      clear H1
      obtain rfl := Option.some.inj H
      try go_wp2
      have n0_ := Aside0.mk (Kd.R_drew HO_225001.out)
      have n1_ := Aside0.mk (Kd.R_drew HO_230001.out)
      have n2_ := Aside0.mk (Kd.R_drew HO_236001.out)
      have n3_ := Aside0.mk (blk_drew BK213.out)
      have n4_ := Aside0.mk (blk_drew BK224.out)
      have n5_ := Aside0.mk (blk_drew BK229.out)
      have n6_ := Aside0.mk (blk_drew BK235.out)
      have n7_ := Aside0.mk (below_drew1 HB.out)
      clear HO_225001
      clear HO_230001
      clear HO_236001
      clear BK213
      clear BK224
      clear BK229
      clear BK235
      clear HB
      have HO_225001 := n0_
      have HO_230001 := n1_
      have HO_236001 := n2_
      have BK213 := n3_
      have BK224 := n4_
      have BK229 := n5_
      have BK235 := n6_
      have HB := n7_
      clear n0_ n1_ n2_ n3_ n4_ n5_ n6_ n7_
      refine start_ (n := 5) (S := fun w' => w'.cell? ⟨gb229, 0, none⟩ = some (.int .i64 t225) ∧ w'.cell? ⟨gb229, 1, none⟩ = some (.slice Ao31 t226.length co31) ∧ w'.cell? ⟨gb213, 0, none⟩ = some (.int .i64 a0_0) ∧ w'.cell? ⟨gb213, 1, none⟩ = some (.slice A0_1 l0_1.length c0_1)) (ds := []) #[false, false, false, false, false] (by kernel_rfl) rfl rfl ⟨(blk_cell BK229.out 0).trans rfl, (blk_cell BK229.out 1).trans rfl, (blk_cell BK213.out 0).trans rfl, (blk_cell BK213.out 1).trans rfl⟩ (fun hHeld => ?_)
      generalize wc.drew = w177 at HO_225001 HO_230001 HO_236001 BK213 BK224 BK229 BK235 HB hHeld ⊢
      refine take_ (i := 0) (N := some 49) (v := ?_) (a' := ?_) #[true, false, false, false, false] rfl rfl (by kernel_rfl) (fun _ _ _ h => h) (Or.inl ⟨by rfl, ?_⟩) hHeld ?_ ?_
      rotate_left
      ·rintro w' ⟨s0, s1, s2, s3⟩
       go_simp
       with_reducible rfl
      rotate_left
      ·simp only [Act.put, List.setIfInBounds_toArray, List.set_cons_zero, List.set_cons_succ, i64_w, i32_w]
       rfl
      refine take_ (i := 1) (N := some 50) (v := ?_) (a' := ?_) #[true, true, false, false, false] rfl rfl (by kernel_rfl) (fun _ _ _ h => h) (Or.inl ⟨by rfl, ?_⟩) hHeld ?_ ?_
      rotate_left
      ·rintro w' ⟨s0, s1, s2, s3⟩
       go_simp
       with_reducible rfl
      rotate_left
      ·simp only [Act.put, List.setIfInBounds_toArray, List.set_cons_zero, List.set_cons_succ, i64_w, i32_w]
       rfl
      refine one_ (i := 2) (N := some 51) #[true, true, true, false, false] rfl rfl (by kernel_rfl) (by decide) (fun K hK => ?_)
      refine goes_ Try.func20 (by kernel_rfl) rfl #[.agg #[.int .i64 a0_0, .slice A0_1 l0_1.length c0_1]] (by rfl) rfl rfl (by (try simp only [List.map_toArray, List.map_cons, List.map_nil]); first | done | rfl | (simp only [List.length_drop, List.length_take]; rfl)) ?_
      with_reducible refine (laws_toDiagram.calls kj12 a0_0 _ _ l0_1 t237 t238 _ ?side1 ?side2 A58.out).mono ?_
      (case side1 => repeat (first | exact (Kd.C_below HR0_1.out HB.out) | (with_reducible refine Kd.C_alloc ?_ _) | (with_reducible refine Kd.C_drewN ?_ _) | (with_reducible refine Kd.C_drew ?_)))
      (case side2 => exact HC0_1.out)
      rintro e w178 ⟨v239, rfl, ho0, hb⟩
      refine ⟨_, rfl, ?_⟩
      have n0_ := Aside0.mk (Kd.R_elder' (by (with_reducible repeat (first | apply Kd.R_alloc | apply Kd.R_drewN | apply Kd.R_drew)); exact HO_225001.out) (Kd.R_base ho0) hb)
      have n1_ := Aside0.mk (Kd.R_elder' (by (with_reducible repeat (first | apply Kd.R_alloc | apply Kd.R_drewN | apply Kd.R_drew)); exact HO_230001.out) (Kd.R_base ho0) hb)
      have n2_ := Aside0.mk (Kd.R_elder' (by (with_reducible repeat (first | apply Kd.R_alloc | apply Kd.R_drewN | apply Kd.R_drew)); exact HO_236001.out) (Kd.R_base ho0) hb)
      have n3_ := Aside0.mk (Kd.R_lower (Kd.R_new' (Kd.R_new' (Kd.R_new' ho0 (Kd.R_lt (by (with_reducible repeat (first | apply Kd.R_alloc | apply Kd.R_drewN | apply Kd.R_drew)); exact HO_225001.out))) (Kd.R_lt (by (with_reducible repeat (first | apply Kd.R_alloc | apply Kd.R_drewN | apply Kd.R_drew)); exact HO_230001.out))) (Kd.R_lt (by (with_reducible repeat (first | apply Kd.R_alloc | apply Kd.R_drewN | apply Kd.R_drew)); exact HO_236001.out))) (below_size (by repeat (first | (with_reducible first | exact HB.out | apply bwA | apply bwN | apply bwD | refine below_set ?_ GE213.out | refine below_set ?_ GE224.out | refine below_set ?_ GE229.out | refine below_set ?_ GE235.out) | exact HB.out))))
      have n4_ := Aside0.mk (blk_below (g := gb213) (o := .cells #[.int .i64 a0_0, .slice A0_1 l0_1.length c0_1] 34 (0, 0)) (by (with_reducible repeat (first | refine blk_drewN ?_ _ | refine blk_drew ?_ | refine blk_alloc ?_ _)); exact BK213.out) hb)
      have n5_ := Aside0.mk (blk_below (g := gb224) (o := .cells #[.int .i64 t219, .slice Ao24 t220.length co24] 25 (0, 0)) (by (with_reducible repeat (first | refine blk_drewN ?_ _ | refine blk_drew ?_ | refine blk_alloc ?_ _)); exact BK224.out) hb)
      have n6_ := Aside0.mk (blk_below (g := gb229) (o := .cells #[.int .i64 t225, .slice Ao31 t226.length co31] 25 (0, 0)) (by (with_reducible repeat (first | refine blk_drewN ?_ _ | refine blk_drew ?_ | refine blk_alloc ?_ _)); exact BK229.out) hb)
      have n7_ := Aside0.mk (blk_below (g := gb235) (o := .cells #[.int .i64 t230, .slice Ao38 t231.length co38] 25 (0, 0)) (by (with_reducible repeat (first | refine blk_drewN ?_ _ | refine blk_drew ?_ | refine blk_alloc ?_ _)); exact BK235.out) hb)
      have n8_ := Aside0.mk (below_step (by repeat (first | (with_reducible first | exact HB.out | apply bwA | apply bwN | apply bwD | refine below_set ?_ GE213.out | refine below_set ?_ GE224.out | refine below_set ?_ GE229.out | refine below_set ?_ GE235.out) | exact HB.out)) hb)
      clear HO_225001
      clear HO_230001
      clear HO_236001
      clear BK213
      clear BK224
      clear BK229
      clear BK235
      clear HB
      have HO_225001 := n0_
      have HO_230001 := n1_
      have HO_236001 := n2_
      have HO240 := n3_
      have BK213 := n4_
      have BK224 := n5_
      have BK229 := n6_
      have BK235 := n7_
      have HB := n8_
      clear n0_ n1_ n2_ n3_ n4_ n5_ n6_ n7_ n8_
      (try clear hb)
      (try clear hb2)
      (try clear hk)
      (try clear hi)
      (try clear ho0)
      obtain ⟨Ao179, co179, eo179⟩ := Kd.R_slice HO240.out
      (first | subst eo179 | (injection eo179 with f1_ f2_ f3_; have f4_ := f1_.symm; have f5_ := f3_.symm; clear f1_ f2_ f3_; subst f4_; subst f5_))
      refine hK.out _ _ ⟨(blk_cell BK229.out 0).trans rfl, (blk_cell BK229.out 1).trans rfl, (blk_cell BK213.out 0).trans rfl, (blk_cell BK213.out 1).trans rfl⟩ (fun hHeld => ?_)
      clear hK K
      refine norm_ (a' := ?_) ?_ ?_
      rotate_left
      ·show Act.put _ (some 51) _ = _
       simp only [Act.put, List.setIfInBounds_toArray, List.set_cons_zero, List.set_cons_succ, i64_w, i32_w]
       rfl
      refine one_ (i := 3) (N := some 52) #[true, true, true, true, false] rfl rfl (by kernel_rfl) (by decide) (fun K hK => ?_)
      refine goes_ Try.func21 (by kernel_rfl) rfl #[.agg #[.int .i64 t225, .slice Ao31 t226.length co31], .agg #[.int .i64 t237, .slice Ao179 t238.length co179]] (by rfl) rfl rfl (by (try simp only [List.map_toArray, List.map_cons, List.map_nil]); first | done | rfl | (simp only [List.length_drop, List.length_take]; rfl)) ?_
      with_reducible refine (laws_eqDiagram.calls kj12 t225 _ _ t226 t237 _ _ t238 false _ ?side1 ?side2 ?side3 ?side4 A59.out).mono ?_
      (case side1 => repeat (first | exact (Kd.R_reads' HO_230001.out).2.2 | (with_reducible refine Kd.C_alloc ?_ _) | (with_reducible refine Kd.C_drewN ?_ _) | (with_reducible refine Kd.C_drew ?_)))
      (case side2 => exact (Kd.R_reads' HO_230001.out).2.1)
      (case side3 => repeat (first | exact (Kd.R_reads' HO240.out).2.2 | (with_reducible refine Kd.C_alloc ?_ _) | (with_reducible refine Kd.C_drewN ?_ _) | (with_reducible refine Kd.C_drew ?_)))
      (case side4 => exact (Kd.R_reads' HO240.out).2.1)
      rintro e w180 ⟨rfl, hb⟩
      refine ⟨_, rfl, ?_⟩
      have n0_ := Aside0.mk (Kd.R_below (by (with_reducible repeat (first | apply Kd.R_alloc | apply Kd.R_drewN | apply Kd.R_drew)); exact HO_225001.out) hb)
      have n1_ := Aside0.mk (Kd.R_below (by (with_reducible repeat (first | apply Kd.R_alloc | apply Kd.R_drewN | apply Kd.R_drew)); exact HO_230001.out) hb)
      have n2_ := Aside0.mk (Kd.R_below (by (with_reducible repeat (first | apply Kd.R_alloc | apply Kd.R_drewN | apply Kd.R_drew)); exact HO_236001.out) hb)
      have n3_ := Aside0.mk (Kd.R_below (by (with_reducible repeat (first | apply Kd.R_alloc | apply Kd.R_drewN | apply Kd.R_drew)); exact HO240.out) hb)
      have n4_ := Aside0.mk (blk_below (g := gb213) (o := .cells #[.int .i64 a0_0, .slice A0_1 l0_1.length c0_1] 34 (0, 0)) (by (with_reducible repeat (first | refine blk_drewN ?_ _ | refine blk_drew ?_ | refine blk_alloc ?_ _)); exact BK213.out) hb)
      have n5_ := Aside0.mk (blk_below (g := gb224) (o := .cells #[.int .i64 t219, .slice Ao24 t220.length co24] 25 (0, 0)) (by (with_reducible repeat (first | refine blk_drewN ?_ _ | refine blk_drew ?_ | refine blk_alloc ?_ _)); exact BK224.out) hb)
      have n6_ := Aside0.mk (blk_below (g := gb229) (o := .cells #[.int .i64 t225, .slice Ao31 t226.length co31] 25 (0, 0)) (by (with_reducible repeat (first | refine blk_drewN ?_ _ | refine blk_drew ?_ | refine blk_alloc ?_ _)); exact BK229.out) hb)
      have n7_ := Aside0.mk (blk_below (g := gb235) (o := .cells #[.int .i64 t230, .slice Ao38 t231.length co38] 25 (0, 0)) (by (with_reducible repeat (first | refine blk_drewN ?_ _ | refine blk_drew ?_ | refine blk_alloc ?_ _)); exact BK235.out) hb)
      have n8_ := Aside0.mk (below_step (by repeat (first | (with_reducible first | exact HB.out | apply bwA | apply bwN | apply bwD | refine below_set ?_ GE213.out | refine below_set ?_ GE224.out | refine below_set ?_ GE229.out | refine below_set ?_ GE235.out) | exact HB.out)) hb)
      clear HO_225001
      clear HO_230001
      clear HO_236001
      clear HO240
      clear BK213
      clear BK224
      clear BK229
      clear BK235
      clear HB
      have HO_225001 := n0_
      have HO_230001 := n1_
      have HO_236001 := n2_
      have HO240 := n3_
      have BK213 := n4_
      have BK224 := n5_
      have BK229 := n6_
      have BK235 := n7_
      have HB := n8_
      clear n0_ n1_ n2_ n3_ n4_ n5_ n6_ n7_ n8_
      (try clear hb)
      (try clear hb2)
      (try clear hk)
      (try clear hi)
      refine hK.out _ _ ⟨(blk_cell BK229.out 0).trans rfl, (blk_cell BK229.out 1).trans rfl, (blk_cell BK213.out 0).trans rfl, (blk_cell BK213.out 1).trans rfl⟩ (fun hHeld => ?_)
      clear hK K
      refine norm_ (a' := ?_) ?_ ?_
      rotate_left
      ·show Act.put _ (some 52) _ = _
       simp only [Act.put, List.setIfInBounds_toArray, List.set_cons_zero, List.set_cons_succ, i64_w, i32_w]
       rfl
      refine pure_ (i := 4) (N := some 53) (v := ?_) (a' := ?_) #[true, true, true, true, true] rfl rfl (by kernel_rfl) (fun _ _ _ h => h) (Or.inl ⟨by rfl, ?_⟩) ?_ ?_
      rotate_left
      ·intro w'
       go_simp
       with_reducible rfl
      rotate_left
      ·simp only [Act.put, List.setIfInBounds_toArray, List.set_cons_zero, List.set_cons_succ, i64_w, i32_w]
       rfl
      refine done_ (by kernel_rfl) ?_
      try go_wp2
      go_ret
      exact ⟨by first | rfl | (simp [errW_none, errW_some] <;> rfl) | (simp [*, errW_none, errW_some] <;> rfl), by repeat (first | (with_reducible first | exact HB.out | apply bwA | apply bwN | apply bwD | refine below_set ?_ GE213.out | refine below_set ?_ GE224.out | refine below_set ?_ GE229.out | refine below_set ?_ GE235.out) | exact HB.out)⟩
def GoodIi64 (x : Int) : Prop := (Lit.int .i64 x).wf = true
def GoodS116 (x : S116) : Prop := GoodIi64 x.f0 ∧ GoodIi64 x.f1 ∧ GoodIi64 x.f2
def GoodL3 (x : List (S116)) : Prop := (x.length ≤ maxLen ∧ ∀ x_ ∈ x, GoodS116 x_)
/-- THE ONE PURE STATEMENT of laws_FnExactDiagramOr. -/
def laws_FnExactDiagramOr.Pure : Prop := ∀ (a0_0 : Int) (l0_1 : List (S116)) (a1 : Int) (a2 : Int), GoodIi64 a0_0 → GoodL3 l0_1 → GoodIi64 a1 → GoodIi64 a2 → ∃ k, laws_FnExactDiagramOr.f k a0_0 l0_1 a1 a2 = some true
theorem laws_FnExactDiagramOr.walk (P : laws_FnExactDiagramOr.Pure) (a0_0 : Int) (A0_1 : Option Addr) (c0_1 : Nat) (l0_1 : List (S116)) (a1 : Int) (a2 : Int) (w : World) (hr0_1 : Kd.C k116 w A0_1 l0_1.length l0_1) (hc0_1 : l0_1.length ≤ c0_1) (g0_0 : GoodIi64 a0_0) (g0_1 : GoodL3 l0_1) (g1 : GoodIi64 a1) (g2 : GoodIi64 a2) :
  Calls Try.prog 9 #[.agg #[.int .i64 a0_0, .slice A0_1 l0_1.length c0_1], .int .i64 a1, .int .i64 a2] w fun e w' => e = .returned (.bool true) ∧ Below w.heap.size w w' := by
 obtain ⟨k, h⟩ := P a0_0 l0_1 a1 a2 g0_0 g0_1 g1 g2
 refine (laws_FnExactDiagramOr.calls k a0_0 _ _ l0_1 a1 a2 true w hr0_1 hc0_1 h).mono ?_
 rintro e w' ⟨rfl, hd⟩
 exact ⟨rfl, hd⟩

end Go.Proofs.Ytpcompnmadpljaa.QFnExactDiagramOr
