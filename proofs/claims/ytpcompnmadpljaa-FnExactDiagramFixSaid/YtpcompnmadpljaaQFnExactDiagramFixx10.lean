-- Written by a program of this session (mk.py). Lean checks it.
import Derived.Test.YtpcompnmadpljaaQFnExactDiagramFixx0
import Derived.Test.YtpcompnmadpljaaQFnExactDiagramFixx4
import Derived.Test.YtpcompnmadpljaaQFnExactDiagramFixx8
import Derived.Test.YtpcompnmadpljaaQFnExactDiagramFixx9
namespace Go.Proofs.Ytpcompnmadpljaa.QFnExactDiagramFix
open Go.RowKit Go.Proofs.YtpcompnmadpljaaW.PrintWords Go.Proofs.YtpcompnmadpljaaW.PrintLast Go.Proofs.YtpcompnmadpljaaW.PrintMore
attribute [local go_sem] max2_int min2_int max_two min_two max_three min_three max_four min_four   -- for this text's walks alone
set_option linter.unusedVariables false
set_option linter.unusedSimpArgs false

/-! ### laws_FnExactDiagramFix: function 4 -/
mutual
def laws_FnExactDiagramFix.j0 : Nat → Int → Int → Int → Int → Int → Bool → Int → List (S116) → Int → List (S71) → Int → List (S71) → Int → List (S71) → Option (Bool)
 | 0, _, _, _, _, _, _, _, _, _, _, _, _, _, _ => none
 | k + 1, x1, x2, x3, x11, x14, x52, x201000, x201001, x212000, x212001, x217000, x217001, x223000, x223001 => if x52 = true then (some false) else ((laws_toDiagram.f k x201000 x201001).bind fun bt224 => ((laws_eqDiagram.f k x217000 x217001 bt224.1 bt224.2).bind fun t228 => (if t228 = true then ((laws_markDiagram.f k x217000 x217001 1).bind fun bt229 => (if bt229.1 < 0 then (laws_FnExactDiagramFix.j1 k x1 x2 x3 x11 true x201000 x201001 x212000 x212001 x223000 x223001) else ((laws_eqDiagram.f k x223000 x223001 x212000 x212001).bind fun t231 => (if t231 = true then (laws_FnExactDiagramFix.j1 k x1 x2 x3 x11 (x14 != x11) x201000 x201001 x212000 x212001 x223000 x223001) else (laws_FnExactDiagramFix.j1 k x1 x2 x3 x11 true x201000 x201001 x212000 x212001 x223000 x223001))))) else (some false))))
def laws_FnExactDiagramFix.j1 : Nat → Int → Int → Int → Int → Bool → Int → List (S116) → Int → List (S71) → Int → List (S71) → Option (Bool)
 | 0, _, _, _, _, _, _, _, _, _, _, _ => none
 | k + 1, x1, x2, x3, x11, x73, x201000, x201001, x212000, x212001, x223000, x223001 => if x73 = true then (some false) else ((laws_markDiagram.f k x223000 x223001 1).bind fun bt232 => ((laws_heldDiagram.f k x223000 bt232.2 1).bind fun t234 => (if t234 < 0 then (some false) else (if t234 = bt232.1 then ((laws_toDiagram.f k x201000 x201001).bind fun bt235 => ((impl_DiagramFix.f k bt235.1 bt235.2 x1 x2 x3).bind fun bt239 => ((laws_eqDiagram.f k bt239.1 bt239.2.1 x212000 x212001).bind fun t245 => (if t245 = true then (laws_FnExactDiagramFix.j2 k bt232.1 (bt239.2.2 != x11) x223000 bt232.2) else (laws_FnExactDiagramFix.j2 k bt232.1 true x223000 bt232.2))))) else (some false)))))
def laws_FnExactDiagramFix.j2 : Nat → Int → Bool → Int → List (S71) → Option (Bool)
 | 0, _, _, _, _ => none
 | k + 1, x16, x102, x223000, x223001 => if x102 = true then (some false) else ((laws_heldDiagram.f k x223000 x223001 1).bind fun t246 => (if t246 < 0 then (some false) else (if t246 = x16 then (some true) else (some false))))
end
def laws_FnExactDiagramFix.f (k : Nat) (a0_0 : Int) (l0_1 : List (S116)) (a1 : Int) (a2 : Int) (a3 : Int) : Option (Bool) := (laws_szDiagram.f a0_0 l0_1 1048576).bind fun t201 => (if t201 < 0 then (some true) else ((laws_toDiagram.f k a0_0 l0_1).bind fun bt202 => ((spec_DiagramFix.f k bt202.1 bt202.2 a1 a2 a3).bind fun bt206 => ((laws_toDiagram.f k a0_0 l0_1).bind fun bt212 => ((impl_DiagramFix.f k bt212.1 bt212.2 a1 a2 a3).bind fun bt217 => ((laws_eqDiagram.f k bt217.1 bt217.2.1 bt206.1 bt206.2.1).bind fun t223 => (if t223 = true then (laws_FnExactDiagramFix.j0 k a1 a2 a3 bt206.2.2 bt217.2.2 (bt217.2.2 != bt206.2.2) a0_0 l0_1 bt206.1 bt206.2.1 bt212.1 bt212.2 bt217.1 bt217.2.1) else (laws_FnExactDiagramFix.j0 k a1 a2 a3 bt206.2.2 bt217.2.2 true a0_0 l0_1 bt206.1 bt206.2.1 bt212.1 bt212.2 bt217.1 bt217.2.1))))))))
theorem laws_FnExactDiagramFix.mono_l : ∀ k, (∀ y0 y1 y2 y3 y4 y5 y6 y7 y8 y9 y10 y11 y12 y13, LeO (laws_FnExactDiagramFix.j0 k y0 y1 y2 y3 y4 y5 y6 y7 y8 y9 y10 y11 y12 y13) (laws_FnExactDiagramFix.j0 (k + 1) y0 y1 y2 y3 y4 y5 y6 y7 y8 y9 y10 y11 y12 y13)) ∧ (∀ y0 y1 y2 y3 y4 y5 y6 y7 y8 y9 y10, LeO (laws_FnExactDiagramFix.j1 k y0 y1 y2 y3 y4 y5 y6 y7 y8 y9 y10) (laws_FnExactDiagramFix.j1 (k + 1) y0 y1 y2 y3 y4 y5 y6 y7 y8 y9 y10)) ∧ (∀ y0 y1 y2 y3, LeO (laws_FnExactDiagramFix.j2 k y0 y1 y2 y3) (laws_FnExactDiagramFix.j2 (k + 1) y0 y1 y2 y3))
 | 0 => ⟨fun _ _ _ _ _ _ _ _ _ _ _ _ _ _ r h => by simp [laws_FnExactDiagramFix.j0] at h, fun _ _ _ _ _ _ _ _ _ _ _ r h => by simp [laws_FnExactDiagramFix.j1] at h, fun _ _ _ _ r h => by simp [laws_FnExactDiagramFix.j2] at h⟩
 | k + 1 => by
  obtain ⟨ih0, ih1, ih2⟩ := laws_FnExactDiagramFix.mono_l k
  refine ⟨?_, ?_, ?_⟩
  ·intro y0 y1 y2 y3 y4 y5 y6 y7 y8 y9 y10 y11 y12 y13
   unfold laws_FnExactDiagramFix.j0
   repeat' first
   | (with_reducible exact ih0 _ _ _ _ _ _ _ _ _ _ _ _ _ _)
   | (with_reducible exact ih1 _ _ _ _ _ _ _ _ _ _ _)
   | (with_reducible exact ih2 _ _ _ _)
   | (with_reducible exact impl_DiagramFix.mono _ _ _ _ _ _)
   | (with_reducible exact laws_eqDiagram.mono _ _ _ _ _)
   | (with_reducible exact laws_heldDiagram.mono _ _ _ _)
   | (with_reducible exact laws_markDiagram.mono _ _ _ _)
   | (with_reducible exact laws_toDiagram.mono _ _ _)
   | (with_reducible exact spec_DiagramFix.mono _ _ _ _ _ _)
   | (with_reducible exact LeO.refl _)
   | (with_reducible exact LeO.none _)
   | (with_reducible refine LeO.ite ?_ ?_)
   | (with_reducible refine LeO.bind ?_ (fun _ => ?_))
   | exact ih0 _ _ _ _ _ _ _ _ _ _ _ _ _ _
   | exact ih1 _ _ _ _ _ _ _ _ _ _ _
   | exact ih2 _ _ _ _
   | exact impl_DiagramFix.mono _ _ _ _ _ _
   | exact laws_eqDiagram.mono _ _ _ _ _
   | exact laws_heldDiagram.mono _ _ _ _
   | exact laws_markDiagram.mono _ _ _ _
   | exact laws_toDiagram.mono _ _ _
   | exact spec_DiagramFix.mono _ _ _ _ _ _
   | exact LeO.none _
   | refine LeO.ite ?_ ?_
   | refine LeO.bind ?_ (fun _ => ?_)
  ·intro y0 y1 y2 y3 y4 y5 y6 y7 y8 y9 y10
   unfold laws_FnExactDiagramFix.j1
   repeat' first
   | (with_reducible exact ih0 _ _ _ _ _ _ _ _ _ _ _ _ _ _)
   | (with_reducible exact ih1 _ _ _ _ _ _ _ _ _ _ _)
   | (with_reducible exact ih2 _ _ _ _)
   | (with_reducible exact impl_DiagramFix.mono _ _ _ _ _ _)
   | (with_reducible exact laws_eqDiagram.mono _ _ _ _ _)
   | (with_reducible exact laws_heldDiagram.mono _ _ _ _)
   | (with_reducible exact laws_markDiagram.mono _ _ _ _)
   | (with_reducible exact laws_toDiagram.mono _ _ _)
   | (with_reducible exact spec_DiagramFix.mono _ _ _ _ _ _)
   | (with_reducible exact LeO.refl _)
   | (with_reducible exact LeO.none _)
   | (with_reducible refine LeO.ite ?_ ?_)
   | (with_reducible refine LeO.bind ?_ (fun _ => ?_))
   | exact ih0 _ _ _ _ _ _ _ _ _ _ _ _ _ _
   | exact ih1 _ _ _ _ _ _ _ _ _ _ _
   | exact ih2 _ _ _ _
   | exact impl_DiagramFix.mono _ _ _ _ _ _
   | exact laws_eqDiagram.mono _ _ _ _ _
   | exact laws_heldDiagram.mono _ _ _ _
   | exact laws_markDiagram.mono _ _ _ _
   | exact laws_toDiagram.mono _ _ _
   | exact spec_DiagramFix.mono _ _ _ _ _ _
   | exact LeO.none _
   | refine LeO.ite ?_ ?_
   | refine LeO.bind ?_ (fun _ => ?_)
  ·intro y0 y1 y2 y3
   unfold laws_FnExactDiagramFix.j2
   repeat' first
   | (with_reducible exact ih0 _ _ _ _ _ _ _ _ _ _ _ _ _ _)
   | (with_reducible exact ih1 _ _ _ _ _ _ _ _ _ _ _)
   | (with_reducible exact ih2 _ _ _ _)
   | (with_reducible exact impl_DiagramFix.mono _ _ _ _ _ _)
   | (with_reducible exact laws_eqDiagram.mono _ _ _ _ _)
   | (with_reducible exact laws_heldDiagram.mono _ _ _ _)
   | (with_reducible exact laws_markDiagram.mono _ _ _ _)
   | (with_reducible exact laws_toDiagram.mono _ _ _)
   | (with_reducible exact spec_DiagramFix.mono _ _ _ _ _ _)
   | (with_reducible exact LeO.refl _)
   | (with_reducible exact LeO.none _)
   | (with_reducible refine LeO.ite ?_ ?_)
   | (with_reducible refine LeO.bind ?_ (fun _ => ?_))
   | exact ih0 _ _ _ _ _ _ _ _ _ _ _ _ _ _
   | exact ih1 _ _ _ _ _ _ _ _ _ _ _
   | exact ih2 _ _ _ _
   | exact impl_DiagramFix.mono _ _ _ _ _ _
   | exact laws_eqDiagram.mono _ _ _ _ _
   | exact laws_heldDiagram.mono _ _ _ _
   | exact laws_markDiagram.mono _ _ _ _
   | exact laws_toDiagram.mono _ _ _
   | exact spec_DiagramFix.mono _ _ _ _ _ _
   | exact LeO.none _
   | refine LeO.ite ?_ ?_
   | refine LeO.bind ?_ (fun _ => ?_)
theorem laws_FnExactDiagramFix.mono : ∀ a0 a1 a2 a3 a4 k, LeO (laws_FnExactDiagramFix.f k a0 a1 a2 a3 a4) (laws_FnExactDiagramFix.f (k + 1) a0 a1 a2 a3 a4) := by
 intro a0 a1 a2 a3 a4 k
 obtain ⟨ih0, ih1, ih2⟩ := laws_FnExactDiagramFix.mono_l k
 unfold laws_FnExactDiagramFix.f
 repeat' first
   | (with_reducible exact ih0 _ _ _ _ _ _ _ _ _ _ _ _ _ _)
   | (with_reducible exact ih1 _ _ _ _ _ _ _ _ _ _ _)
   | (with_reducible exact ih2 _ _ _ _)
   | (with_reducible exact impl_DiagramFix.mono _ _ _ _ _ _)
   | (with_reducible exact laws_eqDiagram.mono _ _ _ _ _)
   | (with_reducible exact laws_heldDiagram.mono _ _ _ _)
   | (with_reducible exact laws_markDiagram.mono _ _ _ _)
   | (with_reducible exact laws_toDiagram.mono _ _ _)
   | (with_reducible exact spec_DiagramFix.mono _ _ _ _ _ _)
   | (with_reducible exact LeO.refl _)
   | (with_reducible exact LeO.none _)
   | (with_reducible refine LeO.ite ?_ ?_)
   | (with_reducible refine LeO.bind ?_ (fun _ => ?_))
   | exact ih0 _ _ _ _ _ _ _ _ _ _ _ _ _ _
   | exact ih1 _ _ _ _ _ _ _ _ _ _ _
   | exact ih2 _ _ _ _
   | exact impl_DiagramFix.mono _ _ _ _ _ _
   | exact laws_eqDiagram.mono _ _ _ _ _
   | exact laws_heldDiagram.mono _ _ _ _
   | exact laws_markDiagram.mono _ _ _ _
   | exact laws_toDiagram.mono _ _ _
   | exact spec_DiagramFix.mono _ _ _ _ _ _
   | exact LeO.none _
   | refine LeO.ite ?_ ?_
   | refine LeO.bind ?_ (fun _ => ?_)
set_option maxHeartbeats 8000000 in
set_option maxRecDepth 100000 in
theorem laws_FnExactDiagramFix.calls (k : Nat) (a0_0 : Int) (A0_1 : Option Addr) (c0_1 : Nat) (l0_1 : List (S116)) (a1 : Int) (a2 : Int) (a3 : Int) (r : Bool) (w : World) (hr0_1 : Kd.C k116 w A0_1 l0_1.length l0_1) (hc0_1 : l0_1.length ≤ c0_1) (h : laws_FnExactDiagramFix.f k a0_0 l0_1 a1 a2 a3 = some r) :
  Calls Try.prog 4 #[.agg #[.int .i64 a0_0, .slice A0_1 l0_1.length c0_1], .int .i64 a1, .int .i64 a2, .int .i64 a3] w fun e w' => e = .returned (.bool r) ∧ Below w.heap.size w w' := by
 have hu34 := Try.underlying34
 have hu25 := Try.underlying25
 have HR0_1 := Aside0.mk hr0_1
 have HC0_1 := Aside0.mk hc0_1
 clear hr0_1 hc0_1
 have HB := Aside0.mk (Below.refl w.heap.size w)
 have H : ((laws_szDiagram.f a0_0 l0_1 1048576).bind fun t201 => (if t201 < 0 then (some true) else ((laws_toDiagram.f k a0_0 l0_1).bind fun bt202 => ((spec_DiagramFix.f k bt202.1 bt202.2 a1 a2 a3).bind fun bt206 => ((laws_toDiagram.f k a0_0 l0_1).bind fun bt212 => ((impl_DiagramFix.f k bt212.1 bt212.2 a1 a2 a3).bind fun bt217 => ((laws_eqDiagram.f k bt217.1 bt217.2.1 bt206.1 bt206.2.1).bind fun t223 => (if t223 = true then (laws_FnExactDiagramFix.j0 k a1 a2 a3 bt206.2.2 bt217.2.2 (bt217.2.2 != bt206.2.2) a0_0 l0_1 bt206.1 bt206.2.1 bt212.1 bt212.2 bt217.1 bt217.2.1) else (laws_FnExactDiagramFix.j0 k a1 a2 a3 bt206.2.2 bt217.2.2 true a0_0 l0_1 bt206.1 bt206.2.1 bt212.1 bt212.2 bt217.1 bt217.2.1))))))))) = some r := h
 clear h
 replace H := Option.bind_eq_some_iff.mp H
 obtain ⟨t201, A50, H⟩ := H
 replace H : (if t201 < 0 then (some true) else ((laws_toDiagram.f k a0_0 l0_1).bind fun bt202 => ((spec_DiagramFix.f k bt202.1 bt202.2 a1 a2 a3).bind fun bt206 => ((laws_toDiagram.f k a0_0 l0_1).bind fun bt212 => ((impl_DiagramFix.f k bt212.1 bt212.2 a1 a2 a3).bind fun bt217 => ((laws_eqDiagram.f k bt217.1 bt217.2.1 bt206.1 bt206.2.1).bind fun t223 => (if t223 = true then (laws_FnExactDiagramFix.j0 k a1 a2 a3 bt206.2.2 bt217.2.2 (bt217.2.2 != bt206.2.2) a0_0 l0_1 bt206.1 bt206.2.1 bt212.1 bt212.2 bt217.1 bt217.2.1) else (laws_FnExactDiagramFix.j0 k a1 a2 a3 bt206.2.2 bt217.2.2 true a0_0 l0_1 bt206.1 bt206.2.1 bt212.1 bt212.2 bt217.1 bt217.2.1)))))))) = some r := H
 have A5 := Aside0.mk A50
 clear A50
 by_cases c6 : t201 < 0
 ·rw [if_pos c6] at H
  have c6b0 : decide (t201 < 0) = true := decide_eq_true c6
  clear c6
  obtain rfl := Option.some.inj H
  go_enter Try.func4, Try.ntmps4
  go_wp2_with (first | ((with_reducible refine gate_dst (N := 4) rfl ?_); refine box_event ?hg (N := 4) ?hd (cs := #[.int .i64 a0_0, .slice A0_1 l0_1.length c0_1]) (t := 34) ?hr ?_; (case hd => rfl); (case hg => rfl); (case hr => first | (go_simp; done) | (go_simp; rfl)); intro gb200 hg w7 hbox hb; have n0_ := Aside0.mk (below_step (by repeat (first | (with_reducible first | exact HB.out | apply bwA | apply bwN | apply bwD) | exact HB.out)) hb); have n1_ := Aside0.mk (hbox); have n2_ := Aside0.mk ((by rw [hg]; exact (below_size (by repeat (first | (with_reducible first | exact HB.out | apply bwA | apply bwN | apply bwD) | exact HB.out))) : w.heap.size ≤ gb200)); have n3_ := Aside0.mk ((by rw [hg]; exact (below_size (by repeat (first | (with_reducible first | exact HB.out | apply bwA | apply bwN | apply bwD) | exact HB.out))) : w.heap.size ≤ gb200)); clear HB; have HB := n0_; have BK200 := n1_; have GW200 := n2_; have GE200 := n3_; clear n0_ n1_ n2_ n3_; clear hb hbox hg; have hcz8_0 : w7.cell? ⟨gb200, 0, none⟩ = some (.int .i64 a0_0) := (blk_cell BK200.out 0).trans rfl; have hcz8_1 : w7.cell? ⟨gb200, 1, none⟩ = some (.slice A0_1 l0_1.length c0_1) := (blk_cell BK200.out 1).trans rfl; have hfz8_0 := blk_frozen BK200.out 0; have hfz8_1 := blk_frozen BK200.out 1) | ((with_reducible refine gate_callee (f := 18) rfl ?_); refine goesL_ (some 22) rfl rfl Try.func18 (by kernel_rfl) rfl #[.agg #[.int .i64 a0_0, .slice A0_1 l0_1.length c0_1], .int .i64 1048576] rfl (by (try simp only [List.map_toArray, List.map_cons, List.map_nil]); first | done | rfl | (simp only [List.length_drop, List.length_take]; rfl)) ?_; (with_reducible refine (laws_szDiagram.calls a0_0 _ _ l0_1 1048576 t201 _ ?side1 ?side2 A5.out).mono ?_); (case side1 => repeat (first | exact (Kd.C_below HR0_1.out HB.out) | (with_reducible refine Kd.C_alloc ?_ _) | (with_reducible refine Kd.C_drewN ?_ _) | (with_reducible refine Kd.C_drew ?_))); (case side2 => exact HC0_1.out); rintro e w9 ⟨rfl, hb⟩; refine ⟨_, rfl, ?_⟩; have n0_ := Aside0.mk (blk_below (g := gb200) (o := .cells #[.int .i64 a0_0, .slice A0_1 l0_1.length c0_1] 34 (0, 0)) (by (with_reducible repeat (first | refine blk_drewN ?_ _ | refine blk_drew ?_ | refine blk_alloc ?_ _)); exact BK200.out) hb); have n1_ := Aside0.mk (below_step (by repeat (first | (with_reducible first | exact HB.out | apply bwA | apply bwN | apply bwD | refine below_set ?_ GE200.out) | exact HB.out)) hb); clear BK200; clear HB; have BK200 := n0_; have HB := n1_; clear n0_ n1_; (try clear hb); (try clear hb2); (try clear hk); (try clear hi)))
  go_ret
  exact ⟨by first | rfl | (simp [errW_none, errW_some] <;> rfl) | (simp [*, errW_none, errW_some] <;> rfl), by repeat (first | (with_reducible first | exact HB.out | apply bwA | apply bwN | apply bwD | refine below_set ?_ GE200.out) | exact HB.out)⟩
 ·rw [if_neg c6] at H
  have c6b0 : decide (t201 < 0) = false := decide_eq_false c6
  clear c6
  replace H := Option.bind_eq_some_iff.mp H
  obtain ⟨⟨t202, t203⟩, A100, H⟩ := H
  replace H : ((spec_DiagramFix.f k t202 t203 a1 a2 a3).bind fun bt206 => ((laws_toDiagram.f k a0_0 l0_1).bind fun bt212 => ((impl_DiagramFix.f k bt212.1 bt212.2 a1 a2 a3).bind fun bt217 => ((laws_eqDiagram.f k bt217.1 bt217.2.1 bt206.1 bt206.2.1).bind fun t223 => (if t223 = true then (laws_FnExactDiagramFix.j0 k a1 a2 a3 bt206.2.2 bt217.2.2 (bt217.2.2 != bt206.2.2) a0_0 l0_1 bt206.1 bt206.2.1 bt212.1 bt212.2 bt217.1 bt217.2.1) else (laws_FnExactDiagramFix.j0 k a1 a2 a3 bt206.2.2 bt217.2.2 true a0_0 l0_1 bt206.1 bt206.2.1 bt212.1 bt212.2 bt217.1 bt217.2.1)))))) = some r := H
  have A10 := Aside0.mk A100
  clear A100
  replace H := Option.bind_eq_some_iff.mp H
  obtain ⟨⟨t206, t207, t210⟩, A110, H⟩ := H
  replace H : ((laws_toDiagram.f k a0_0 l0_1).bind fun bt212 => ((impl_DiagramFix.f k bt212.1 bt212.2 a1 a2 a3).bind fun bt217 => ((laws_eqDiagram.f k bt217.1 bt217.2.1 t206 t207).bind fun t223 => (if t223 = true then (laws_FnExactDiagramFix.j0 k a1 a2 a3 t210 bt217.2.2 (bt217.2.2 != t210) a0_0 l0_1 t206 t207 bt212.1 bt212.2 bt217.1 bt217.2.1) else (laws_FnExactDiagramFix.j0 k a1 a2 a3 t210 bt217.2.2 true a0_0 l0_1 t206 t207 bt212.1 bt212.2 bt217.1 bt217.2.1))))) = some r := H
  have A11 := Aside0.mk A110
  clear A110
  replace H := Option.bind_eq_some_iff.mp H
  obtain ⟨⟨t212, t213⟩, A120, H⟩ := H
  replace H : ((impl_DiagramFix.f k t212 t213 a1 a2 a3).bind fun bt217 => ((laws_eqDiagram.f k bt217.1 bt217.2.1 t206 t207).bind fun t223 => (if t223 = true then (laws_FnExactDiagramFix.j0 k a1 a2 a3 t210 bt217.2.2 (bt217.2.2 != t210) a0_0 l0_1 t206 t207 t212 t213 bt217.1 bt217.2.1) else (laws_FnExactDiagramFix.j0 k a1 a2 a3 t210 bt217.2.2 true a0_0 l0_1 t206 t207 t212 t213 bt217.1 bt217.2.1)))) = some r := H
  have A12 := Aside0.mk A120
  clear A120
  replace H := Option.bind_eq_some_iff.mp H
  obtain ⟨⟨t217, t218, t221⟩, A130, H⟩ := H
  replace H : ((laws_eqDiagram.f k t217 t218 t206 t207).bind fun t223 => (if t223 = true then (laws_FnExactDiagramFix.j0 k a1 a2 a3 t210 t221 (t221 != t210) a0_0 l0_1 t206 t207 t212 t213 t217 t218) else (laws_FnExactDiagramFix.j0 k a1 a2 a3 t210 t221 true a0_0 l0_1 t206 t207 t212 t213 t217 t218))) = some r := H
  have A13 := Aside0.mk A130
  clear A130
  have HC14 := Aside0.mk H
  clear H
  go_enter Try.func4, Try.ntmps4
  go_upto_region 8 with (first | ((with_reducible refine gate_dst (N := 4) rfl ?_); refine box_event ?hg (N := 4) ?hd (cs := #[.int .i64 a0_0, .slice A0_1 l0_1.length c0_1]) (t := 34) ?hr ?_; (case hd => rfl); (case hg => rfl); (case hr => first | (go_simp; done) | (go_simp; rfl)); intro gb200 hg w15 hbox hb; have n0_ := Aside0.mk (below_step (by repeat (first | (with_reducible first | exact HB.out | apply bwA | apply bwN | apply bwD) | exact HB.out)) hb); have n1_ := Aside0.mk (hbox); have n2_ := Aside0.mk ((by rw [hg]; exact (below_size (by repeat (first | (with_reducible first | exact HB.out | apply bwA | apply bwN | apply bwD) | exact HB.out))) : w.heap.size ≤ gb200)); have n3_ := Aside0.mk ((by rw [hg]; exact (below_size (by repeat (first | (with_reducible first | exact HB.out | apply bwA | apply bwN | apply bwD) | exact HB.out))) : w.heap.size ≤ gb200)); clear HB; have HB := n0_; have BK200 := n1_; have GW200 := n2_; have GE200 := n3_; clear n0_ n1_ n2_ n3_; clear hb hbox hg; have hcz16_0 : w15.cell? ⟨gb200, 0, none⟩ = some (.int .i64 a0_0) := (blk_cell BK200.out 0).trans rfl; have hcz16_1 : w15.cell? ⟨gb200, 1, none⟩ = some (.slice A0_1 l0_1.length c0_1) := (blk_cell BK200.out 1).trans rfl; have hfz16_0 := blk_frozen BK200.out 0; have hfz16_1 := blk_frozen BK200.out 1) | ((with_reducible refine gate_callee (f := 18) rfl ?_); refine goesL_ (some 22) rfl rfl Try.func18 (by kernel_rfl) rfl #[.agg #[.int .i64 a0_0, .slice A0_1 l0_1.length c0_1], .int .i64 1048576] rfl (by (try simp only [List.map_toArray, List.map_cons, List.map_nil]); first | done | rfl | (simp only [List.length_drop, List.length_take]; rfl)) ?_; (with_reducible refine (laws_szDiagram.calls a0_0 _ _ l0_1 1048576 t201 _ ?side1 ?side2 A5.out).mono ?_); (case side1 => repeat (first | exact (Kd.C_below HR0_1.out HB.out) | (with_reducible refine Kd.C_alloc ?_ _) | (with_reducible refine Kd.C_drewN ?_ _) | (with_reducible refine Kd.C_drew ?_))); (case side2 => exact HC0_1.out); rintro e w17 ⟨rfl, hb⟩; refine ⟨_, rfl, ?_⟩; have n0_ := Aside0.mk (blk_below (g := gb200) (o := .cells #[.int .i64 a0_0, .slice A0_1 l0_1.length c0_1] 34 (0, 0)) (by (with_reducible repeat (first | refine blk_drewN ?_ _ | refine blk_drew ?_ | refine blk_alloc ?_ _)); exact BK200.out) hb); have n1_ := Aside0.mk (below_step (by repeat (first | (with_reducible first | exact HB.out | apply bwA | apply bwN | apply bwD | refine below_set ?_ GE200.out) | exact HB.out)) hb); clear BK200; clear HB; have BK200 := n0_; have HB := n1_; clear n0_ n1_; (try clear hb); (try clear hb2); (try clear hk); (try clear hi); have hcz18_0 : w17.cell? ⟨gb200, 0, none⟩ = some (.int .i64 a0_0) := (blk_cell BK200.out 0).trans rfl; have hcz18_1 : w17.cell? ⟨gb200, 1, none⟩ = some (.slice A0_1 l0_1.length c0_1) := (blk_cell BK200.out 1).trans rfl; have hfz18_0 := blk_frozen BK200.out 0; have hfz18_1 := blk_frozen BK200.out 1) | ((with_reducible refine gate_callee (f := 20) rfl ?_); refine goesL_ (some 27) rfl rfl Try.func20 (by kernel_rfl) rfl #[.agg #[.int .i64 a0_0, .slice A0_1 l0_1.length c0_1]] rfl (by (try simp only [List.map_toArray, List.map_cons, List.map_nil]); first | done | rfl | (simp only [List.length_drop, List.length_take]; rfl)) ?_; (with_reducible refine (laws_toDiagram.calls k a0_0 _ _ l0_1 t202 t203 _ ?side1 ?side2 A10.out).mono ?_); (case side1 => repeat (first | exact (Kd.C_below HR0_1.out HB.out) | (with_reducible refine Kd.C_alloc ?_ _) | (with_reducible refine Kd.C_drewN ?_ _) | (with_reducible refine Kd.C_drew ?_))); (case side2 => exact HC0_1.out); rintro e w19 ⟨v204, rfl, ho0, hb⟩; refine ⟨_, rfl, ?_⟩; have n0_ := Aside0.mk (Kd.R_lower ho0 (below_size (by repeat (first | (with_reducible first | exact HB.out | apply bwA | apply bwN | apply bwD | refine below_set ?_ GE200.out) | exact HB.out)))); have n1_ := Aside0.mk (blk_below (g := gb200) (o := .cells #[.int .i64 a0_0, .slice A0_1 l0_1.length c0_1] 34 (0, 0)) (by (with_reducible repeat (first | refine blk_drewN ?_ _ | refine blk_drew ?_ | refine blk_alloc ?_ _)); exact BK200.out) hb); have n2_ := Aside0.mk (below_step (by repeat (first | (with_reducible first | exact HB.out | apply bwA | apply bwN | apply bwD | refine below_set ?_ GE200.out) | exact HB.out)) hb); clear BK200; clear HB; have HO205 := n0_; have BK200 := n1_; have HB := n2_; clear n0_ n1_ n2_; (try clear hb); (try clear hb2); (try clear hk); (try clear hi); (try clear ho0); obtain ⟨Ao20, co20, eo20⟩ := Kd.R_slice HO205.out; subst eo20) | ((with_reducible refine gate_callee (f := 19) rfl ?_); refine goesL_ (some 31) rfl rfl Try.func19 (by kernel_rfl) rfl #[.agg #[.int .i64 t202, .slice Ao20 t203.length co20], .int .i64 a1, .int .i64 a2, .int .i64 a3] rfl (by (try simp only [List.map_toArray, List.map_cons, List.map_nil]); first | done | rfl | (simp only [List.length_drop, List.length_take]; rfl)) ?_; (with_reducible refine (spec_DiagramFix.calls k t202 _ _ t203 a1 a2 a3 t206 t207 t210 _ ?side1 ?side2 A11.out).mono ?_); (case side1 => repeat (first | exact (Kd.R_reads' HO205.out).2.2 | (with_reducible refine Kd.C_alloc ?_ _) | (with_reducible refine Kd.C_drewN ?_ _) | (with_reducible refine Kd.C_drew ?_))); (case side2 => exact (Kd.R_reads' HO205.out).2.1); rintro e w21 ⟨v208, rfl, ho0, hb⟩; refine ⟨_, rfl, ?_⟩; have n0_ := Aside0.mk (Kd.R_elder' (by (with_reducible repeat (first | apply Kd.R_alloc | apply Kd.R_drewN | apply Kd.R_drew)); exact HO205.out) (Kd.R_base ho0) hb); have n1_ := Aside0.mk (Kd.R_lower (Kd.R_new' ho0 (Kd.R_lt (by (with_reducible repeat (first | apply Kd.R_alloc | apply Kd.R_drewN | apply Kd.R_drew)); exact HO205.out))) (below_size (by repeat (first | (with_reducible first | exact HB.out | apply bwA | apply bwN | apply bwD | refine below_set ?_ GE200.out) | exact HB.out)))); have n2_ := Aside0.mk (blk_below (g := gb200) (o := .cells #[.int .i64 a0_0, .slice A0_1 l0_1.length c0_1] 34 (0, 0)) (by (with_reducible repeat (first | refine blk_drewN ?_ _ | refine blk_drew ?_ | refine blk_alloc ?_ _)); exact BK200.out) hb); have n3_ := Aside0.mk (below_step (by repeat (first | (with_reducible first | exact HB.out | apply bwA | apply bwN | apply bwD | refine below_set ?_ GE200.out) | exact HB.out)) hb); clear HO205; clear BK200; clear HB; have HO205 := n0_; have HO209 := n1_; have BK200 := n2_; have HB := n3_; clear n0_ n1_ n2_ n3_; (try clear hb); (try clear hb2); (try clear hk); (try clear hi); (try clear ho0)) | ((with_reducible refine gate_dst (N := 10) rfl ?_); refine box_event ?hg (N := 10) ?hd (cs := #[.int .i64 0, .slice none 0 0]) (t := 25) ?hr ?_; (case hd => rfl); (case hg => rfl); (case hr => first | (go_simp; done) | (go_simp; rfl)); intro gb211 hg w22 hbox hb; have n0_ := Aside0.mk (Kd.R_below (by (with_reducible repeat (first | apply Kd.R_alloc | apply Kd.R_drewN | apply Kd.R_drew)); exact HO205.out) hb); have n1_ := Aside0.mk (Kd.R_below (by (with_reducible repeat (first | apply Kd.R_alloc | apply Kd.R_drewN | apply Kd.R_drew)); exact HO209.out) hb); have n2_ := Aside0.mk (blk_below (g := gb200) (o := .cells #[.int .i64 a0_0, .slice A0_1 l0_1.length c0_1] 34 (0, 0)) (by (with_reducible repeat (first | refine blk_drewN ?_ _ | refine blk_drew ?_ | refine blk_alloc ?_ _)); exact BK200.out) hb); have n3_ := Aside0.mk (below_step (by repeat (first | (with_reducible first | exact HB.out | apply bwA | apply bwN | apply bwD | refine below_set ?_ GE200.out) | exact HB.out)) hb); have n4_ := Aside0.mk (hbox); have n5_ := Aside0.mk ((by rw [hg]; exact (below_size (by repeat (first | (with_reducible first | exact HB.out | apply bwA | apply bwN | apply bwD | refine below_set ?_ GE200.out) | exact HB.out))) : w.heap.size ≤ gb211)); have n6_ := Aside0.mk ((by rw [hg]; exact (below_size (by repeat (first | (with_reducible first | exact HB.out | apply bwA | apply bwN | apply bwD | refine below_set ?_ GE200.out) | exact HB.out))) : w.heap.size ≤ gb211)); have n7_ := Aside0.mk ((by rw [hg]; exact Nat.ne_of_lt (blk_lt (g := gb200) (o := .cells #[.int .i64 a0_0, .slice A0_1 l0_1.length c0_1] 34 (0, 0)) (by (with_reducible repeat (first | refine blk_drewN ?_ _ | refine blk_drew ?_ | refine blk_alloc ?_ _)); exact BK200.out)) : gb200 ≠ gb211)); have n8_ := Aside0.mk ((by rw [hg]; exact Nat.ne_of_gt (blk_lt (g := gb200) (o := .cells #[.int .i64 a0_0, .slice A0_1 l0_1.length c0_1] 34 (0, 0)) (by (with_reducible repeat (first | refine blk_drewN ?_ _ | refine blk_drew ?_ | refine blk_alloc ?_ _)); exact BK200.out)) : gb211 ≠ gb200)); clear HO205; clear HO209; clear BK200; clear HB; have HO205 := n0_; have HO209 := n1_; have BK200 := n2_; have HB := n3_; have BK211 := n4_; have GW211 := n5_; have GE211 := n6_; have NB200_211 := n7_; have NB211_200 := n8_; clear n0_ n1_ n2_ n3_ n4_ n5_ n6_ n7_ n8_; clear hb hbox hg; have hnb23 := NB211_200.out; have hnc23 := NB200_211.out; have hcz24_0 : w22.cell? ⟨gb211, 0, none⟩ = some (.int .i64 0) := (blk_cell BK211.out 0).trans rfl; have hcz24_1 : w22.cell? ⟨gb211, 1, none⟩ = some (.slice none 0 0) := (blk_cell BK211.out 1).trans rfl; have hfz24_0 := blk_frozen BK211.out 0; have hfz24_1 := blk_frozen BK211.out 1; obtain ⟨Ao25, co25, eo25⟩ := Kd.R_slice HO209.out; subst eo25; have hcz26_0 : w22.cell? ⟨gb200, 0, none⟩ = some (.int .i64 a0_0) := (blk_cell BK200.out 0).trans rfl; have hcz26_1 : w22.cell? ⟨gb200, 1, none⟩ = some (.slice A0_1 l0_1.length c0_1) := (blk_cell BK200.out 1).trans rfl; have hfz26_0 := blk_frozen BK200.out 0; have hfz26_1 := blk_frozen BK200.out 1) | ((with_reducible refine gate_callee (f := 20) rfl ?_); refine goesL_ (some 35) rfl rfl Try.func20 (by kernel_rfl) rfl #[.agg #[.int .i64 a0_0, .slice A0_1 l0_1.length c0_1]] rfl (by (try simp only [List.map_toArray, List.map_cons, List.map_nil]); first | done | rfl | (simp only [List.length_drop, List.length_take]; rfl)) ?_; (with_reducible refine (laws_toDiagram.calls k a0_0 _ _ l0_1 t212 t213 _ ?side1 ?side2 A12.out).mono ?_); (case side1 => exact Kd.C_below HR0_1.out (by repeat (first | (with_reducible first | exact HB.out | apply bwA | apply bwN | apply bwD | refine below_set ?_ GE200.out | refine below_set ?_ GE211.out) | exact HB.out))); (case side2 => exact HC0_1.out); rintro e w27 ⟨v214, rfl, ho0, hb⟩; refine ⟨_, rfl, ?_⟩; have n0_ := Aside0.mk (Kd.R_elder' (by (with_reducible repeat (first | apply Kd.R_alloc | apply Kd.R_drewN | apply Kd.R_drew)); exact (Kd.R_mono (Kd.R_far (p := ⟨gb211, 1, none⟩) (Kd.R_far (p := ⟨gb211, 0, none⟩) (Kd.R_types HO205.out BK211.out (by decide)) (fun _ hk => hk.2) (.int .i64 t206)) (fun _ hk => hk.2) (.slice Ao25 t207.length co25)) (fun _ h_ => h_.1))) (Kd.R_base ho0) hb); have n1_ := Aside0.mk (Kd.R_elder' (by (with_reducible repeat (first | apply Kd.R_alloc | apply Kd.R_drewN | apply Kd.R_drew)); exact (Kd.R_mono (Kd.R_far (p := ⟨gb211, 1, none⟩) (Kd.R_far (p := ⟨gb211, 0, none⟩) (Kd.R_types HO209.out BK211.out (by decide)) (fun _ hk => hk.2) (.int .i64 t206)) (fun _ hk => hk.2) (.slice Ao25 t207.length co25)) (fun _ h_ => h_.1))) (Kd.R_base ho0) hb); have n2_ := Aside0.mk (Kd.R_lower (Kd.R_new' (Kd.R_new' ho0 (Kd.R_lt (by (with_reducible repeat (first | apply Kd.R_alloc | apply Kd.R_drewN | apply Kd.R_drew)); exact (Kd.R_mono (Kd.R_far (p := ⟨gb211, 1, none⟩) (Kd.R_far (p := ⟨gb211, 0, none⟩) (Kd.R_types HO205.out BK211.out (by decide)) (fun _ hk => hk.2) (.int .i64 t206)) (fun _ hk => hk.2) (.slice Ao25 t207.length co25)) (fun _ h_ => h_.1))))) (Kd.R_lt (by (with_reducible repeat (first | apply Kd.R_alloc | apply Kd.R_drewN | apply Kd.R_drew)); exact (Kd.R_mono (Kd.R_far (p := ⟨gb211, 1, none⟩) (Kd.R_far (p := ⟨gb211, 0, none⟩) (Kd.R_types HO209.out BK211.out (by decide)) (fun _ hk => hk.2) (.int .i64 t206)) (fun _ hk => hk.2) (.slice Ao25 t207.length co25)) (fun _ h_ => h_.1))))) (below_size (by repeat (first | (with_reducible first | exact HB.out | apply bwA | apply bwN | apply bwD | refine below_set ?_ GE200.out | refine below_set ?_ GE211.out) | exact HB.out)))); have n3_ := Aside0.mk (blk_below (g := gb200) (o := .cells #[.int .i64 a0_0, .slice A0_1 l0_1.length c0_1] 34 (0, 0)) (by (with_reducible repeat (first | refine blk_drewN ?_ _ | refine blk_drew ?_ | refine blk_alloc ?_ _)); refine blk_far ?_ NB200_211.out _; (with_reducible repeat (first | refine blk_drewN ?_ _ | refine blk_drew ?_ | refine blk_alloc ?_ _)); refine blk_far ?_ NB200_211.out _; (with_reducible repeat (first | refine blk_drewN ?_ _ | refine blk_drew ?_ | refine blk_alloc ?_ _)); exact BK200.out) hb); have n4_ := Aside0.mk (blk_below (g := gb211) (o := .cells #[.int .i64 t206, .slice Ao25 t207.length co25] 25 (0, 0)) (by (with_reducible repeat (first | refine blk_drewN ?_ _ | refine blk_drew ?_ | refine blk_alloc ?_ _)); refine blk_put (cs := #[.int .i64 t206, .slice none 0 0]) ?_ 1 _ rfl; (with_reducible repeat (first | refine blk_drewN ?_ _ | refine blk_drew ?_ | refine blk_alloc ?_ _)); refine blk_put (cs := #[.int .i64 0, .slice none 0 0]) ?_ 0 _ rfl; (with_reducible repeat (first | refine blk_drewN ?_ _ | refine blk_drew ?_ | refine blk_alloc ?_ _)); exact BK211.out) hb); have n5_ := Aside0.mk (below_step (by repeat (first | (with_reducible first | exact HB.out | apply bwA | apply bwN | apply bwD | refine below_set ?_ GE200.out | refine below_set ?_ GE211.out) | exact HB.out)) hb); clear HO205; clear HO209; clear BK200; clear BK211; clear HB; have HO205 := n0_; have HO209 := n1_; have HO215 := n2_; have BK200 := n3_; have BK211 := n4_; have HB := n5_; clear n0_ n1_ n2_ n3_ n4_ n5_; (try clear hb); (try clear hb2); (try clear hk); (try clear hi); (try clear ho0)) | ((with_reducible refine gate_dst (N := 12) rfl ?_); refine box_event ?hg (N := 12) ?hd (cs := #[.int .i64 0, .slice none 0 0]) (t := 25) ?hr ?_; (case hd => rfl); (case hg => rfl); (case hr => first | (go_simp; done) | (go_simp; rfl)); intro gb216 hg w28 hbox hb; have n0_ := Aside0.mk (Kd.R_below (by (with_reducible repeat (first | apply Kd.R_alloc | apply Kd.R_drewN | apply Kd.R_drew)); exact HO205.out) hb); have n1_ := Aside0.mk (Kd.R_below (by (with_reducible repeat (first | apply Kd.R_alloc | apply Kd.R_drewN | apply Kd.R_drew)); exact HO209.out) hb); have n2_ := Aside0.mk (Kd.R_below (by (with_reducible repeat (first | apply Kd.R_alloc | apply Kd.R_drewN | apply Kd.R_drew)); exact HO215.out) hb); have n3_ := Aside0.mk (blk_below (g := gb200) (o := .cells #[.int .i64 a0_0, .slice A0_1 l0_1.length c0_1] 34 (0, 0)) (by (with_reducible repeat (first | refine blk_drewN ?_ _ | refine blk_drew ?_ | refine blk_alloc ?_ _)); exact BK200.out) hb); have n4_ := Aside0.mk (blk_below (g := gb211) (o := .cells #[.int .i64 t206, .slice Ao25 t207.length co25] 25 (0, 0)) (by (with_reducible repeat (first | refine blk_drewN ?_ _ | refine blk_drew ?_ | refine blk_alloc ?_ _)); exact BK211.out) hb); have n5_ := Aside0.mk (below_step (by repeat (first | (with_reducible first | exact HB.out | apply bwA | apply bwN | apply bwD | refine below_set ?_ GE200.out | refine below_set ?_ GE211.out) | exact HB.out)) hb); have n6_ := Aside0.mk (hbox); have n7_ := Aside0.mk ((by rw [hg]; exact (below_size (by repeat (first | (with_reducible first | exact HB.out | apply bwA | apply bwN | apply bwD | refine below_set ?_ GE200.out | refine below_set ?_ GE211.out) | exact HB.out))) : w.heap.size ≤ gb216)); have n8_ := Aside0.mk ((by rw [hg]; exact (below_size (by repeat (first | (with_reducible first | exact HB.out | apply bwA | apply bwN | apply bwD | refine below_set ?_ GE200.out | refine below_set ?_ GE211.out) | exact HB.out))) : w.heap.size ≤ gb216)); have n9_ := Aside0.mk ((by rw [hg]; exact Nat.ne_of_lt (blk_lt (g := gb200) (o := .cells #[.int .i64 a0_0, .slice A0_1 l0_1.length c0_1] 34 (0, 0)) (by (with_reducible repeat (first | refine blk_drewN ?_ _ | refine blk_drew ?_ | refine blk_alloc ?_ _)); exact BK200.out)) : gb200 ≠ gb216)); have n10_ := Aside0.mk ((by rw [hg]; exact Nat.ne_of_gt (blk_lt (g := gb200) (o := .cells #[.int .i64 a0_0, .slice A0_1 l0_1.length c0_1] 34 (0, 0)) (by (with_reducible repeat (first | refine blk_drewN ?_ _ | refine blk_drew ?_ | refine blk_alloc ?_ _)); exact BK200.out)) : gb216 ≠ gb200)); have n11_ := Aside0.mk ((by rw [hg]; exact Nat.ne_of_lt (blk_lt (g := gb211) (o := .cells #[.int .i64 t206, .slice Ao25 t207.length co25] 25 (0, 0)) (by (with_reducible repeat (first | refine blk_drewN ?_ _ | refine blk_drew ?_ | refine blk_alloc ?_ _)); exact BK211.out)) : gb211 ≠ gb216)); have n12_ := Aside0.mk ((by rw [hg]; exact Nat.ne_of_gt (blk_lt (g := gb211) (o := .cells #[.int .i64 t206, .slice Ao25 t207.length co25] 25 (0, 0)) (by (with_reducible repeat (first | refine blk_drewN ?_ _ | refine blk_drew ?_ | refine blk_alloc ?_ _)); exact BK211.out)) : gb216 ≠ gb211)); clear HO205; clear HO209; clear HO215; clear BK200; clear BK211; clear HB; have HO205 := n0_; have HO209 := n1_; have HO215 := n2_; have BK200 := n3_; have BK211 := n4_; have HB := n5_; have BK216 := n6_; have GW216 := n7_; have GE216 := n8_; have NB200_216 := n9_; have NB216_200 := n10_; have NB211_216 := n11_; have NB216_211 := n12_; clear n0_ n1_ n2_ n3_ n4_ n5_ n6_ n7_ n8_ n9_ n10_ n11_ n12_; clear hb hbox hg; have hnb29 := NB216_200.out; have hnc29 := NB200_216.out; have hnb30 := NB216_211.out; have hnc30 := NB211_216.out; have hcz31_0 : w28.cell? ⟨gb216, 0, none⟩ = some (.int .i64 0) := (blk_cell BK216.out 0).trans rfl; have hcz31_1 : w28.cell? ⟨gb216, 1, none⟩ = some (.slice none 0 0) := (blk_cell BK216.out 1).trans rfl; have hfz31_0 := blk_frozen BK216.out 0; have hfz31_1 := blk_frozen BK216.out 1; obtain ⟨Ao32, co32, eo32⟩ := Kd.R_slice HO215.out; subst eo32) | ((with_reducible refine gate_callee (f := 16) rfl ?_); refine goesL_ (some 41) rfl rfl Try.func16 (by kernel_rfl) rfl #[.agg #[.int .i64 t212, .slice Ao32 t213.length co32], .int .i64 a1, .int .i64 a2, .int .i64 a3] rfl (by (try simp only [List.map_toArray, List.map_cons, List.map_nil]); first | done | rfl | (simp only [List.length_drop, List.length_take]; rfl)) ?_; (with_reducible refine (impl_DiagramFix.calls k t212 _ _ t213 a1 a2 a3 t217 t218 t221 _ ?side1 ?side2 A13.out).mono ?_); (case side1 => refine (Kd.R_reads' (e := 71) (base := w.heap.size) (ok := fun k_ => ((True ∧ some k_ ≠ (.slice Ao20 t203.length co20 : Value).ownBlock) ∧ some k_ ≠ (.slice Ao25 t207.length co25 : Value).ownBlock)) (n := t213.length) (c := co32) ?_).2.2; exact (by (with_reducible repeat (first | apply Kd.R_alloc | apply Kd.R_drewN | apply Kd.R_drew)); exact (Kd.R_mono (Kd.R_far (p := ⟨gb216, 1, none⟩) (Kd.R_far (p := ⟨gb216, 0, none⟩) (Kd.R_types HO215.out BK216.out (by decide)) (fun _ hk => hk.2) (.int .i64 t212)) (fun _ hk => hk.2) (.slice Ao32 t213.length co32)) (fun _ h_ => h_.1)))); (case side2 => exact (Kd.R_reads' HO215.out).2.1); rintro e w33 ⟨v219, rfl, ho0, hb⟩; refine ⟨_, rfl, ?_⟩; have n0_ := Aside0.mk (Kd.R_elder' (by (with_reducible repeat (first | apply Kd.R_alloc | apply Kd.R_drewN | apply Kd.R_drew)); exact (Kd.R_mono (Kd.R_far (p := ⟨gb216, 1, none⟩) (Kd.R_far (p := ⟨gb216, 0, none⟩) (Kd.R_types HO205.out BK216.out (by decide)) (fun _ hk => hk.2) (.int .i64 t212)) (fun _ hk => hk.2) (.slice Ao32 t213.length co32)) (fun _ h_ => h_.1))) (Kd.R_base ho0) hb); have n1_ := Aside0.mk (Kd.R_elder' (by (with_reducible repeat (first | apply Kd.R_alloc | apply Kd.R_drewN | apply Kd.R_drew)); exact (Kd.R_mono (Kd.R_far (p := ⟨gb216, 1, none⟩) (Kd.R_far (p := ⟨gb216, 0, none⟩) (Kd.R_types HO209.out BK216.out (by decide)) (fun _ hk => hk.2) (.int .i64 t212)) (fun _ hk => hk.2) (.slice Ao32 t213.length co32)) (fun _ h_ => h_.1))) (Kd.R_base ho0) hb); have n2_ := Aside0.mk (Kd.R_elder' (by (with_reducible repeat (first | apply Kd.R_alloc | apply Kd.R_drewN | apply Kd.R_drew)); exact (Kd.R_mono (Kd.R_far (p := ⟨gb216, 1, none⟩) (Kd.R_far (p := ⟨gb216, 0, none⟩) (Kd.R_types HO215.out BK216.out (by decide)) (fun _ hk => hk.2) (.int .i64 t212)) (fun _ hk => hk.2) (.slice Ao32 t213.length co32)) (fun _ h_ => h_.1))) (Kd.R_base ho0) hb); have n3_ := Aside0.mk (Kd.R_lower (Kd.R_new' (Kd.R_new' (Kd.R_new' ho0 (Kd.R_lt (by (with_reducible repeat (first | apply Kd.R_alloc | apply Kd.R_drewN | apply Kd.R_drew)); exact (Kd.R_mono (Kd.R_far (p := ⟨gb216, 1, none⟩) (Kd.R_far (p := ⟨gb216, 0, none⟩) (Kd.R_types HO205.out BK216.out (by decide)) (fun _ hk => hk.2) (.int .i64 t212)) (fun _ hk => hk.2) (.slice Ao32 t213.length co32)) (fun _ h_ => h_.1))))) (Kd.R_lt (by (with_reducible repeat (first | apply Kd.R_alloc | apply Kd.R_drewN | apply Kd.R_drew)); exact (Kd.R_mono (Kd.R_far (p := ⟨gb216, 1, none⟩) (Kd.R_far (p := ⟨gb216, 0, none⟩) (Kd.R_types HO209.out BK216.out (by decide)) (fun _ hk => hk.2) (.int .i64 t212)) (fun _ hk => hk.2) (.slice Ao32 t213.length co32)) (fun _ h_ => h_.1))))) (Kd.R_lt (by (with_reducible repeat (first | apply Kd.R_alloc | apply Kd.R_drewN | apply Kd.R_drew)); exact (Kd.R_mono (Kd.R_far (p := ⟨gb216, 1, none⟩) (Kd.R_far (p := ⟨gb216, 0, none⟩) (Kd.R_types HO215.out BK216.out (by decide)) (fun _ hk => hk.2) (.int .i64 t212)) (fun _ hk => hk.2) (.slice Ao32 t213.length co32)) (fun _ h_ => h_.1))))) (below_size (by repeat (first | (with_reducible first | exact HB.out | apply bwA | apply bwN | apply bwD | refine below_set ?_ GE200.out | refine below_set ?_ GE211.out | refine below_set ?_ GE216.out) | exact HB.out)))); have n4_ := Aside0.mk (blk_below (g := gb200) (o := .cells #[.int .i64 a0_0, .slice A0_1 l0_1.length c0_1] 34 (0, 0)) (by (with_reducible repeat (first | refine blk_drewN ?_ _ | refine blk_drew ?_ | refine blk_alloc ?_ _)); refine blk_far ?_ NB200_216.out _; (with_reducible repeat (first | refine blk_drewN ?_ _ | refine blk_drew ?_ | refine blk_alloc ?_ _)); refine blk_far ?_ NB200_216.out _; (with_reducible repeat (first | refine blk_drewN ?_ _ | refine blk_drew ?_ | refine blk_alloc ?_ _)); exact BK200.out) hb); have n5_ := Aside0.mk (blk_below (g := gb211) (o := .cells #[.int .i64 t206, .slice Ao25 t207.length co25] 25 (0, 0)) (by (with_reducible repeat (first | refine blk_drewN ?_ _ | refine blk_drew ?_ | refine blk_alloc ?_ _)); refine blk_far ?_ NB211_216.out _; (with_reducible repeat (first | refine blk_drewN ?_ _ | refine blk_drew ?_ | refine blk_alloc ?_ _)); refine blk_far ?_ NB211_216.out _; (with_reducible repeat (first | refine blk_drewN ?_ _ | refine blk_drew ?_ | refine blk_alloc ?_ _)); exact BK211.out) hb); have n6_ := Aside0.mk (blk_below (g := gb216) (o := .cells #[.int .i64 t212, .slice Ao32 t213.length co32] 25 (0, 0)) (by (with_reducible repeat (first | refine blk_drewN ?_ _ | refine blk_drew ?_ | refine blk_alloc ?_ _)); refine blk_put (cs := #[.int .i64 t212, .slice none 0 0]) ?_ 1 _ rfl; (with_reducible repeat (first | refine blk_drewN ?_ _ | refine blk_drew ?_ | refine blk_alloc ?_ _)); refine blk_put (cs := #[.int .i64 0, .slice none 0 0]) ?_ 0 _ rfl; (with_reducible repeat (first | refine blk_drewN ?_ _ | refine blk_drew ?_ | refine blk_alloc ?_ _)); exact BK216.out) hb); have n7_ := Aside0.mk (below_step (by repeat (first | (with_reducible first | exact HB.out | apply bwA | apply bwN | apply bwD | refine below_set ?_ GE200.out | refine below_set ?_ GE211.out | refine below_set ?_ GE216.out) | exact HB.out)) hb); clear HO205; clear HO209; clear HO215; clear BK200; clear BK211; clear BK216; clear HB; have HO205 := n0_; have HO209 := n1_; have HO215 := n2_; have HO220 := n3_; have BK200 := n4_; have BK211 := n5_; have BK216 := n6_; have HB := n7_; clear n0_ n1_ n2_ n3_ n4_ n5_ n6_ n7_; (try clear hb); (try clear hb2); (try clear hk); (try clear hi); (try clear ho0)) | ((with_reducible refine gate_dst (N := 13) rfl ?_); refine box_event ?hg (N := 13) ?hd (cs := #[.int .i64 0, .slice none 0 0]) (t := 25) ?hr ?_; (case hd => rfl); (case hg => rfl); (case hr => first | (go_simp; done) | (go_simp; rfl)); intro gb222 hg w34 hbox hb; have n0_ := Aside0.mk (Kd.R_below (by (with_reducible repeat (first | apply Kd.R_alloc | apply Kd.R_drewN | apply Kd.R_drew)); exact HO205.out) hb); have n1_ := Aside0.mk (Kd.R_below (by (with_reducible repeat (first | apply Kd.R_alloc | apply Kd.R_drewN | apply Kd.R_drew)); exact HO209.out) hb); have n2_ := Aside0.mk (Kd.R_below (by (with_reducible repeat (first | apply Kd.R_alloc | apply Kd.R_drewN | apply Kd.R_drew)); exact HO215.out) hb); have n3_ := Aside0.mk (Kd.R_below (by (with_reducible repeat (first | apply Kd.R_alloc | apply Kd.R_drewN | apply Kd.R_drew)); exact HO220.out) hb); have n4_ := Aside0.mk (blk_below (g := gb200) (o := .cells #[.int .i64 a0_0, .slice A0_1 l0_1.length c0_1] 34 (0, 0)) (by (with_reducible repeat (first | refine blk_drewN ?_ _ | refine blk_drew ?_ | refine blk_alloc ?_ _)); exact BK200.out) hb); have n5_ := Aside0.mk (blk_below (g := gb211) (o := .cells #[.int .i64 t206, .slice Ao25 t207.length co25] 25 (0, 0)) (by (with_reducible repeat (first | refine blk_drewN ?_ _ | refine blk_drew ?_ | refine blk_alloc ?_ _)); exact BK211.out) hb); have n6_ := Aside0.mk (blk_below (g := gb216) (o := .cells #[.int .i64 t212, .slice Ao32 t213.length co32] 25 (0, 0)) (by (with_reducible repeat (first | refine blk_drewN ?_ _ | refine blk_drew ?_ | refine blk_alloc ?_ _)); exact BK216.out) hb); have n7_ := Aside0.mk (below_step (by repeat (first | (with_reducible first | exact HB.out | apply bwA | apply bwN | apply bwD | refine below_set ?_ GE200.out | refine below_set ?_ GE211.out | refine below_set ?_ GE216.out) | exact HB.out)) hb); have n8_ := Aside0.mk (hbox); have n9_ := Aside0.mk ((by rw [hg]; exact (below_size (by repeat (first | (with_reducible first | exact HB.out | apply bwA | apply bwN | apply bwD | refine below_set ?_ GE200.out | refine below_set ?_ GE211.out | refine below_set ?_ GE216.out) | exact HB.out))) : w.heap.size ≤ gb222)); have n10_ := Aside0.mk ((by rw [hg]; exact (below_size (by repeat (first | (with_reducible first | exact HB.out | apply bwA | apply bwN | apply bwD | refine below_set ?_ GE200.out | refine below_set ?_ GE211.out | refine below_set ?_ GE216.out) | exact HB.out))) : w.heap.size ≤ gb222)); have n11_ := Aside0.mk ((by rw [hg]; exact Nat.ne_of_lt (blk_lt (g := gb200) (o := .cells #[.int .i64 a0_0, .slice A0_1 l0_1.length c0_1] 34 (0, 0)) (by (with_reducible repeat (first | refine blk_drewN ?_ _ | refine blk_drew ?_ | refine blk_alloc ?_ _)); exact BK200.out)) : gb200 ≠ gb222)); have n12_ := Aside0.mk ((by rw [hg]; exact Nat.ne_of_gt (blk_lt (g := gb200) (o := .cells #[.int .i64 a0_0, .slice A0_1 l0_1.length c0_1] 34 (0, 0)) (by (with_reducible repeat (first | refine blk_drewN ?_ _ | refine blk_drew ?_ | refine blk_alloc ?_ _)); exact BK200.out)) : gb222 ≠ gb200)); have n13_ := Aside0.mk ((by rw [hg]; exact Nat.ne_of_lt (blk_lt (g := gb211) (o := .cells #[.int .i64 t206, .slice Ao25 t207.length co25] 25 (0, 0)) (by (with_reducible repeat (first | refine blk_drewN ?_ _ | refine blk_drew ?_ | refine blk_alloc ?_ _)); exact BK211.out)) : gb211 ≠ gb222)); have n14_ := Aside0.mk ((by rw [hg]; exact Nat.ne_of_gt (blk_lt (g := gb211) (o := .cells #[.int .i64 t206, .slice Ao25 t207.length co25] 25 (0, 0)) (by (with_reducible repeat (first | refine blk_drewN ?_ _ | refine blk_drew ?_ | refine blk_alloc ?_ _)); exact BK211.out)) : gb222 ≠ gb211)); have n15_ := Aside0.mk ((by rw [hg]; exact Nat.ne_of_lt (blk_lt (g := gb216) (o := .cells #[.int .i64 t212, .slice Ao32 t213.length co32] 25 (0, 0)) (by (with_reducible repeat (first | refine blk_drewN ?_ _ | refine blk_drew ?_ | refine blk_alloc ?_ _)); exact BK216.out)) : gb216 ≠ gb222)); have n16_ := Aside0.mk ((by rw [hg]; exact Nat.ne_of_gt (blk_lt (g := gb216) (o := .cells #[.int .i64 t212, .slice Ao32 t213.length co32] 25 (0, 0)) (by (with_reducible repeat (first | refine blk_drewN ?_ _ | refine blk_drew ?_ | refine blk_alloc ?_ _)); exact BK216.out)) : gb222 ≠ gb216)); clear HO205; clear HO209; clear HO215; clear HO220; clear BK200; clear BK211; clear BK216; clear HB; have HO205 := n0_; have HO209 := n1_; have HO215 := n2_; have HO220 := n3_; have BK200 := n4_; have BK211 := n5_; have BK216 := n6_; have HB := n7_; have BK222 := n8_; have GW222 := n9_; have GE222 := n10_; have NB200_222 := n11_; have NB222_200 := n12_; have NB211_222 := n13_; have NB222_211 := n14_; have NB216_222 := n15_; have NB222_216 := n16_; clear n0_ n1_ n2_ n3_ n4_ n5_ n6_ n7_ n8_ n9_ n10_ n11_ n12_ n13_ n14_ n15_ n16_; clear hb hbox hg; have hnb35 := NB222_200.out; have hnc35 := NB200_222.out; have hnb36 := NB222_211.out; have hnc36 := NB211_222.out; have hnb37 := NB222_216.out; have hnc37 := NB216_222.out; have hcz38_0 : w34.cell? ⟨gb222, 0, none⟩ = some (.int .i64 0) := (blk_cell BK222.out 0).trans rfl; have hcz38_1 : w34.cell? ⟨gb222, 1, none⟩ = some (.slice none 0 0) := (blk_cell BK222.out 1).trans rfl; have hfz38_0 := blk_frozen BK222.out 0; have hfz38_1 := blk_frozen BK222.out 1; obtain ⟨Ao39, co39, eo39⟩ := Kd.R_slice HO220.out; subst eo39))
  (try simp only [Act.put, List.setIfInBounds_toArray, List.set_cons_zero, List.set_cons_succ])
  go_cut [52] (fun v52 wc => ∃ (kq : Nat) (x52_13 : Bool), v52 = .bool x52_13 ∧ Aside0 (laws_FnExactDiagramFix.j0 kq a1 a2 a3 t210 t221 x52_13 a0_0 l0_1 t206 t207 t212 t213 t217 t218 = some r) ∧ Aside0 (kq ≤ k) ∧ Aside0 (Kd.R k71 71 wc w.heap.size (fun k_ => some k_ ≠ ((.slice Ao32 t213.length co32) : Value).ownBlock ∧ some k_ ≠ ((.slice Ao39 t218.length co39) : Value).ownBlock) (.slice Ao25 t207.length co25) t207) ∧ Aside0 (Kd.R k71 71 wc w.heap.size (fun k_ => some k_ ≠ ((.slice Ao25 t207.length co25) : Value).ownBlock ∧ some k_ ≠ ((.slice Ao39 t218.length co39) : Value).ownBlock) (.slice Ao32 t213.length co32) t213) ∧ Aside0 (Kd.R k71 71 wc w.heap.size (fun k_ => some k_ ≠ ((.slice Ao25 t207.length co25) : Value).ownBlock ∧ some k_ ≠ ((.slice Ao32 t213.length co32) : Value).ownBlock) (.slice Ao39 t218.length co39) t218) ∧ Aside0 (wc.heap[gb200]? = some (.cells #[.int .i64 a0_0, (.slice A0_1 l0_1.length c0_1)] 34 (0, 0))) ∧ Aside0 (wc.heap[gb211]? = some (.cells #[.int .i64 t206, (.slice Ao25 t207.length co25)] 25 (0, 0))) ∧ Aside0 (wc.heap[gb216]? = some (.cells #[.int .i64 t212, (.slice Ao32 t213.length co32)] 25 (0, 0))) ∧ Aside0 (wc.heap[gb222]? = some (.cells #[.int .i64 t217, (.slice Ao39 t218.length co39)] 25 (0, 0))) ∧ Aside0 (Below w.heap.size w wc))
  case first =>
   have H := HC14.out
   clear HC14
   replace H := Option.bind_eq_some_iff.mp H
   obtain ⟨t223, A400, H⟩ := H
   replace H : (if t223 = true then (laws_FnExactDiagramFix.j0 k a1 a2 a3 t210 t221 (t221 != t210) a0_0 l0_1 t206 t207 t212 t213 t217 t218) else (laws_FnExactDiagramFix.j0 k a1 a2 a3 t210 t221 true a0_0 l0_1 t206 t207 t212 t213 t217 t218)) = some r := H
   have A40 := Aside0.mk A400
   clear A400
   by_cases c41 : t223 = true
   ·subst c41
    have H1 : (laws_FnExactDiagramFix.j0 k a1 a2 a3 t210 t221 (t221 != t210) a0_0 l0_1 t206 t207 t212 t213 t217 t218) = some r := by rw [if_pos rfl] at H; exact H
    clear H
    have H := H1
    clear H1
    have H' := Aside0.mk H
    clear H
    have hnb42 := NB222_200.out
    have hnc42 := NB200_222.out
    have hnb43 := NB222_211.out
    have hnc43 := NB211_222.out
    have hnb44 := NB222_216.out
    have hnc44 := NB216_222.out
    have hcz45_0 : w34.cell? ⟨gb222, 0, none⟩ = some (.int .i64 0) := (blk_cell BK222.out 0).trans rfl
    have hcz45_1 : w34.cell? ⟨gb222, 1, none⟩ = some (.slice none 0 0) := (blk_cell BK222.out 1).trans rfl
    have hfz45_0 := blk_frozen BK222.out 0
    have hfz45_1 := blk_frozen BK222.out 1
    have hnb46 := NB211_200.out
    have hnc46 := NB200_211.out
    have hnb47 := NB211_216.out
    have hnc47 := NB216_211.out
    have hcz48_0 : w34.cell? ⟨gb211, 0, none⟩ = some (.int .i64 t206) := (blk_cell BK211.out 0).trans rfl
    have hcz48_1 : w34.cell? ⟨gb211, 1, none⟩ = some (.slice Ao25 t207.length co25) := (blk_cell BK211.out 1).trans rfl
    have hfz48_0 := blk_frozen BK211.out 0
    have hfz48_1 := blk_frozen BK211.out 1
    go_wp2_with (first | ((with_reducible refine gate_callee (f := 21) rfl ?_); refine goesL_ (some 46) rfl rfl Try.func21 (by kernel_rfl) rfl #[.agg #[.int .i64 t217, .slice Ao39 t218.length co39], .agg #[.int .i64 t206, .slice Ao25 t207.length co25]] rfl (by (try simp only [List.map_toArray, List.map_cons, List.map_nil]); first | done | rfl | (simp only [List.length_drop, List.length_take]; rfl)) ?_; (with_reducible refine (laws_eqDiagram.calls k t217 _ _ t218 t206 _ _ t207 true _ ?side1 ?side2 ?side3 ?side4 A40.out).mono ?_); (case side1 => refine (Kd.R_reads' (e := 71) (base := w.heap.size) (ok := fun k_ => (((True ∧ some k_ ≠ (.slice Ao20 t203.length co20 : Value).ownBlock) ∧ some k_ ≠ (.slice Ao25 t207.length co25 : Value).ownBlock) ∧ some k_ ≠ (.slice Ao32 t213.length co32 : Value).ownBlock)) (n := t218.length) (c := co39) ?_).2.2; exact (by (with_reducible repeat (first | apply Kd.R_alloc | apply Kd.R_drewN | apply Kd.R_drew)); exact (Kd.R_mono (Kd.R_far (p := ⟨gb222, 1, none⟩) (Kd.R_far (p := ⟨gb222, 0, none⟩) (Kd.R_types HO220.out BK222.out (by decide)) (fun _ hk => hk.2) (.int .i64 t217)) (fun _ hk => hk.2) (.slice Ao39 t218.length co39)) (fun _ h_ => h_.1)))); (case side2 => exact (Kd.R_reads' HO220.out).2.1); (case side3 => refine (Kd.R_reads' (e := 71) (base := w.heap.size) (ok := fun k_ => (((True ∧ some k_ ≠ (.slice Ao20 t203.length co20 : Value).ownBlock) ∧ some k_ ≠ (.slice Ao32 t213.length co32 : Value).ownBlock) ∧ some k_ ≠ (.slice Ao39 t218.length co39 : Value).ownBlock)) (n := t207.length) (c := co25) ?_).2.2; exact (by (with_reducible repeat (first | apply Kd.R_alloc | apply Kd.R_drewN | apply Kd.R_drew)); exact (Kd.R_mono (Kd.R_far (p := ⟨gb222, 1, none⟩) (Kd.R_far (p := ⟨gb222, 0, none⟩) (Kd.R_types HO209.out BK222.out (by decide)) (fun _ hk => hk.2) (.int .i64 t217)) (fun _ hk => hk.2) (.slice Ao39 t218.length co39)) (fun _ h_ => h_.1)))); (case side4 => exact (Kd.R_reads' HO209.out).2.1); rintro e w49 ⟨rfl, hb⟩; refine ⟨_, rfl, ?_⟩; have n0_ := Aside0.mk (Kd.R_below (by (with_reducible repeat (first | apply Kd.R_alloc | apply Kd.R_drewN | apply Kd.R_drew)); exact (Kd.R_mono (Kd.R_far (p := ⟨gb222, 1, none⟩) (Kd.R_far (p := ⟨gb222, 0, none⟩) (Kd.R_types HO205.out BK222.out (by decide)) (fun _ hk => hk.2) (.int .i64 t217)) (fun _ hk => hk.2) (.slice Ao39 t218.length co39)) (fun _ h_ => h_.1))) hb); have n1_ := Aside0.mk (Kd.R_below (by (with_reducible repeat (first | apply Kd.R_alloc | apply Kd.R_drewN | apply Kd.R_drew)); exact (Kd.R_mono (Kd.R_far (p := ⟨gb222, 1, none⟩) (Kd.R_far (p := ⟨gb222, 0, none⟩) (Kd.R_types HO209.out BK222.out (by decide)) (fun _ hk => hk.2) (.int .i64 t217)) (fun _ hk => hk.2) (.slice Ao39 t218.length co39)) (fun _ h_ => h_.1))) hb); have n2_ := Aside0.mk (Kd.R_below (by (with_reducible repeat (first | apply Kd.R_alloc | apply Kd.R_drewN | apply Kd.R_drew)); exact (Kd.R_mono (Kd.R_far (p := ⟨gb222, 1, none⟩) (Kd.R_far (p := ⟨gb222, 0, none⟩) (Kd.R_types HO215.out BK222.out (by decide)) (fun _ hk => hk.2) (.int .i64 t217)) (fun _ hk => hk.2) (.slice Ao39 t218.length co39)) (fun _ h_ => h_.1))) hb); have n3_ := Aside0.mk (Kd.R_below (by (with_reducible repeat (first | apply Kd.R_alloc | apply Kd.R_drewN | apply Kd.R_drew)); exact (Kd.R_mono (Kd.R_far (p := ⟨gb222, 1, none⟩) (Kd.R_far (p := ⟨gb222, 0, none⟩) (Kd.R_types HO220.out BK222.out (by decide)) (fun _ hk => hk.2) (.int .i64 t217)) (fun _ hk => hk.2) (.slice Ao39 t218.length co39)) (fun _ h_ => h_.1))) hb); have n4_ := Aside0.mk (blk_below (g := gb200) (o := .cells #[.int .i64 a0_0, .slice A0_1 l0_1.length c0_1] 34 (0, 0)) (by (with_reducible repeat (first | refine blk_drewN ?_ _ | refine blk_drew ?_ | refine blk_alloc ?_ _)); refine blk_far ?_ NB200_222.out _; (with_reducible repeat (first | refine blk_drewN ?_ _ | refine blk_drew ?_ | refine blk_alloc ?_ _)); refine blk_far ?_ NB200_222.out _; (with_reducible repeat (first | refine blk_drewN ?_ _ | refine blk_drew ?_ | refine blk_alloc ?_ _)); exact BK200.out) hb); have n5_ := Aside0.mk (blk_below (g := gb211) (o := .cells #[.int .i64 t206, .slice Ao25 t207.length co25] 25 (0, 0)) (by (with_reducible repeat (first | refine blk_drewN ?_ _ | refine blk_drew ?_ | refine blk_alloc ?_ _)); refine blk_far ?_ NB211_222.out _; (with_reducible repeat (first | refine blk_drewN ?_ _ | refine blk_drew ?_ | refine blk_alloc ?_ _)); refine blk_far ?_ NB211_222.out _; (with_reducible repeat (first | refine blk_drewN ?_ _ | refine blk_drew ?_ | refine blk_alloc ?_ _)); exact BK211.out) hb); have n6_ := Aside0.mk (blk_below (g := gb216) (o := .cells #[.int .i64 t212, .slice Ao32 t213.length co32] 25 (0, 0)) (by (with_reducible repeat (first | refine blk_drewN ?_ _ | refine blk_drew ?_ | refine blk_alloc ?_ _)); refine blk_far ?_ NB216_222.out _; (with_reducible repeat (first | refine blk_drewN ?_ _ | refine blk_drew ?_ | refine blk_alloc ?_ _)); refine blk_far ?_ NB216_222.out _; (with_reducible repeat (first | refine blk_drewN ?_ _ | refine blk_drew ?_ | refine blk_alloc ?_ _)); exact BK216.out) hb); have n7_ := Aside0.mk (blk_below (g := gb222) (o := .cells #[.int .i64 t217, .slice Ao39 t218.length co39] 25 (0, 0)) (by (with_reducible repeat (first | refine blk_drewN ?_ _ | refine blk_drew ?_ | refine blk_alloc ?_ _)); refine blk_put (cs := #[.int .i64 t217, .slice none 0 0]) ?_ 1 _ rfl; (with_reducible repeat (first | refine blk_drewN ?_ _ | refine blk_drew ?_ | refine blk_alloc ?_ _)); refine blk_put (cs := #[.int .i64 0, .slice none 0 0]) ?_ 0 _ rfl; (with_reducible repeat (first | refine blk_drewN ?_ _ | refine blk_drew ?_ | refine blk_alloc ?_ _)); exact BK222.out) hb); have n8_ := Aside0.mk (below_step (by repeat (first | (with_reducible first | exact HB.out | apply bwA | apply bwN | apply bwD | refine below_set ?_ GE200.out | refine below_set ?_ GE211.out | refine below_set ?_ GE216.out | refine below_set ?_ GE222.out) | exact HB.out)) hb); clear HO205; clear HO209; clear HO215; clear HO220; clear BK200; clear BK211; clear BK216; clear BK222; clear HB; have HO205 := n0_; have HO209 := n1_; have HO215 := n2_; have HO220 := n3_; have BK200 := n4_; have BK211 := n5_; have BK216 := n6_; have BK222 := n7_; have HB := n8_; clear n0_ n1_ n2_ n3_ n4_ n5_ n6_ n7_ n8_; (try clear hb); (try clear hb2); (try clear hk); (try clear hi)))
    go_meet
    case rel => exact ⟨_, ((t221 != t210)), (by first | rfl | (simp; done) | (simp [*]; done)), H', ⟨by first | omega | exact Nat.le_refl _⟩, ⟨by (with_reducible repeat (first | apply Kd.R_alloc | apply Kd.R_drewN | apply Kd.R_drew)); exact Kd.R_mono HO209.out (fun _ hk => ⟨hk.1.2, hk.2⟩)⟩, ⟨by (with_reducible repeat (first | apply Kd.R_alloc | apply Kd.R_drewN | apply Kd.R_drew)); exact Kd.R_mono HO215.out (fun _ hk => ⟨hk.1.2, hk.2⟩)⟩, ⟨by (with_reducible repeat (first | apply Kd.R_alloc | apply Kd.R_drewN | apply Kd.R_drew)); exact Kd.R_mono HO220.out (fun _ hk => ⟨hk.1.2, hk.2⟩)⟩, ⟨by (with_reducible repeat (first | refine blk_drewN ?_ _ | refine blk_drew ?_ | refine blk_alloc ?_ _)); exact BK200.out⟩, ⟨by (with_reducible repeat (first | refine blk_drewN ?_ _ | refine blk_drew ?_ | refine blk_alloc ?_ _)); exact BK211.out⟩, ⟨by (with_reducible repeat (first | refine blk_drewN ?_ _ | refine blk_drew ?_ | refine blk_alloc ?_ _)); exact BK216.out⟩, ⟨by (with_reducible repeat (first | refine blk_drewN ?_ _ | refine blk_drew ?_ | refine blk_alloc ?_ _)); exact BK222.out⟩, ⟨by repeat (first | (with_reducible first | exact HB.out | apply bwA | apply bwN | apply bwD | refine below_set ?_ GE200.out | refine below_set ?_ GE211.out | refine below_set ?_ GE216.out | refine below_set ?_ GE222.out) | exact HB.out)⟩⟩
   ·replace c41 := Bool.eq_false_iff.mpr c41
    subst c41
    have H1 : (laws_FnExactDiagramFix.j0 k a1 a2 a3 t210 t221 true a0_0 l0_1 t206 t207 t212 t213 t217 t218) = some r := by rw [if_neg (show ¬ (false = true) by decide)] at H; exact H
    clear H
    have H := H1
    clear H1
    have H' := Aside0.mk H
    clear H
    have hnb50 := NB222_200.out
    have hnc50 := NB200_222.out
    have hnb51 := NB222_211.out
    have hnc51 := NB211_222.out
    have hnb52 := NB222_216.out
    have hnc52 := NB216_222.out
    have hcz53_0 : w34.cell? ⟨gb222, 0, none⟩ = some (.int .i64 0) := (blk_cell BK222.out 0).trans rfl
    have hcz53_1 : w34.cell? ⟨gb222, 1, none⟩ = some (.slice none 0 0) := (blk_cell BK222.out 1).trans rfl
    have hfz53_0 := blk_frozen BK222.out 0
    have hfz53_1 := blk_frozen BK222.out 1
    have hnb54 := NB211_200.out
    have hnc54 := NB200_211.out
    have hnb55 := NB211_216.out
    have hnc55 := NB216_211.out
    have hcz56_0 : w34.cell? ⟨gb211, 0, none⟩ = some (.int .i64 t206) := (blk_cell BK211.out 0).trans rfl
    have hcz56_1 : w34.cell? ⟨gb211, 1, none⟩ = some (.slice Ao25 t207.length co25) := (blk_cell BK211.out 1).trans rfl
    have hfz56_0 := blk_frozen BK211.out 0
    have hfz56_1 := blk_frozen BK211.out 1
    go_wp2_with (first | ((with_reducible refine gate_callee (f := 21) rfl ?_); refine goesL_ (some 46) rfl rfl Try.func21 (by kernel_rfl) rfl #[.agg #[.int .i64 t217, .slice Ao39 t218.length co39], .agg #[.int .i64 t206, .slice Ao25 t207.length co25]] rfl (by (try simp only [List.map_toArray, List.map_cons, List.map_nil]); first | done | rfl | (simp only [List.length_drop, List.length_take]; rfl)) ?_; (with_reducible refine (laws_eqDiagram.calls k t217 _ _ t218 t206 _ _ t207 false _ ?side1 ?side2 ?side3 ?side4 A40.out).mono ?_); (case side1 => refine (Kd.R_reads' (e := 71) (base := w.heap.size) (ok := fun k_ => (((True ∧ some k_ ≠ (.slice Ao20 t203.length co20 : Value).ownBlock) ∧ some k_ ≠ (.slice Ao25 t207.length co25 : Value).ownBlock) ∧ some k_ ≠ (.slice Ao32 t213.length co32 : Value).ownBlock)) (n := t218.length) (c := co39) ?_).2.2; exact (by (with_reducible repeat (first | apply Kd.R_alloc | apply Kd.R_drewN | apply Kd.R_drew)); exact (Kd.R_mono (Kd.R_far (p := ⟨gb222, 1, none⟩) (Kd.R_far (p := ⟨gb222, 0, none⟩) (Kd.R_types HO220.out BK222.out (by decide)) (fun _ hk => hk.2) (.int .i64 t217)) (fun _ hk => hk.2) (.slice Ao39 t218.length co39)) (fun _ h_ => h_.1)))); (case side2 => exact (Kd.R_reads' HO220.out).2.1); (case side3 => refine (Kd.R_reads' (e := 71) (base := w.heap.size) (ok := fun k_ => (((True ∧ some k_ ≠ (.slice Ao20 t203.length co20 : Value).ownBlock) ∧ some k_ ≠ (.slice Ao32 t213.length co32 : Value).ownBlock) ∧ some k_ ≠ (.slice Ao39 t218.length co39 : Value).ownBlock)) (n := t207.length) (c := co25) ?_).2.2; exact (by (with_reducible repeat (first | apply Kd.R_alloc | apply Kd.R_drewN | apply Kd.R_drew)); exact (Kd.R_mono (Kd.R_far (p := ⟨gb222, 1, none⟩) (Kd.R_far (p := ⟨gb222, 0, none⟩) (Kd.R_types HO209.out BK222.out (by decide)) (fun _ hk => hk.2) (.int .i64 t217)) (fun _ hk => hk.2) (.slice Ao39 t218.length co39)) (fun _ h_ => h_.1)))); (case side4 => exact (Kd.R_reads' HO209.out).2.1); rintro e w57 ⟨rfl, hb⟩; refine ⟨_, rfl, ?_⟩; have n0_ := Aside0.mk (Kd.R_below (by (with_reducible repeat (first | apply Kd.R_alloc | apply Kd.R_drewN | apply Kd.R_drew)); exact (Kd.R_mono (Kd.R_far (p := ⟨gb222, 1, none⟩) (Kd.R_far (p := ⟨gb222, 0, none⟩) (Kd.R_types HO205.out BK222.out (by decide)) (fun _ hk => hk.2) (.int .i64 t217)) (fun _ hk => hk.2) (.slice Ao39 t218.length co39)) (fun _ h_ => h_.1))) hb); have n1_ := Aside0.mk (Kd.R_below (by (with_reducible repeat (first | apply Kd.R_alloc | apply Kd.R_drewN | apply Kd.R_drew)); exact (Kd.R_mono (Kd.R_far (p := ⟨gb222, 1, none⟩) (Kd.R_far (p := ⟨gb222, 0, none⟩) (Kd.R_types HO209.out BK222.out (by decide)) (fun _ hk => hk.2) (.int .i64 t217)) (fun _ hk => hk.2) (.slice Ao39 t218.length co39)) (fun _ h_ => h_.1))) hb); have n2_ := Aside0.mk (Kd.R_below (by (with_reducible repeat (first | apply Kd.R_alloc | apply Kd.R_drewN | apply Kd.R_drew)); exact (Kd.R_mono (Kd.R_far (p := ⟨gb222, 1, none⟩) (Kd.R_far (p := ⟨gb222, 0, none⟩) (Kd.R_types HO215.out BK222.out (by decide)) (fun _ hk => hk.2) (.int .i64 t217)) (fun _ hk => hk.2) (.slice Ao39 t218.length co39)) (fun _ h_ => h_.1))) hb); have n3_ := Aside0.mk (Kd.R_below (by (with_reducible repeat (first | apply Kd.R_alloc | apply Kd.R_drewN | apply Kd.R_drew)); exact (Kd.R_mono (Kd.R_far (p := ⟨gb222, 1, none⟩) (Kd.R_far (p := ⟨gb222, 0, none⟩) (Kd.R_types HO220.out BK222.out (by decide)) (fun _ hk => hk.2) (.int .i64 t217)) (fun _ hk => hk.2) (.slice Ao39 t218.length co39)) (fun _ h_ => h_.1))) hb); have n4_ := Aside0.mk (blk_below (g := gb200) (o := .cells #[.int .i64 a0_0, .slice A0_1 l0_1.length c0_1] 34 (0, 0)) (by (with_reducible repeat (first | refine blk_drewN ?_ _ | refine blk_drew ?_ | refine blk_alloc ?_ _)); refine blk_far ?_ NB200_222.out _; (with_reducible repeat (first | refine blk_drewN ?_ _ | refine blk_drew ?_ | refine blk_alloc ?_ _)); refine blk_far ?_ NB200_222.out _; (with_reducible repeat (first | refine blk_drewN ?_ _ | refine blk_drew ?_ | refine blk_alloc ?_ _)); exact BK200.out) hb); have n5_ := Aside0.mk (blk_below (g := gb211) (o := .cells #[.int .i64 t206, .slice Ao25 t207.length co25] 25 (0, 0)) (by (with_reducible repeat (first | refine blk_drewN ?_ _ | refine blk_drew ?_ | refine blk_alloc ?_ _)); refine blk_far ?_ NB211_222.out _; (with_reducible repeat (first | refine blk_drewN ?_ _ | refine blk_drew ?_ | refine blk_alloc ?_ _)); refine blk_far ?_ NB211_222.out _; (with_reducible repeat (first | refine blk_drewN ?_ _ | refine blk_drew ?_ | refine blk_alloc ?_ _)); exact BK211.out) hb); have n6_ := Aside0.mk (blk_below (g := gb216) (o := .cells #[.int .i64 t212, .slice Ao32 t213.length co32] 25 (0, 0)) (by (with_reducible repeat (first | refine blk_drewN ?_ _ | refine blk_drew ?_ | refine blk_alloc ?_ _)); refine blk_far ?_ NB216_222.out _; (with_reducible repeat (first | refine blk_drewN ?_ _ | refine blk_drew ?_ | refine blk_alloc ?_ _)); refine blk_far ?_ NB216_222.out _; (with_reducible repeat (first | refine blk_drewN ?_ _ | refine blk_drew ?_ | refine blk_alloc ?_ _)); exact BK216.out) hb); have n7_ := Aside0.mk (blk_below (g := gb222) (o := .cells #[.int .i64 t217, .slice Ao39 t218.length co39] 25 (0, 0)) (by (with_reducible repeat (first | refine blk_drewN ?_ _ | refine blk_drew ?_ | refine blk_alloc ?_ _)); refine blk_put (cs := #[.int .i64 t217, .slice none 0 0]) ?_ 1 _ rfl; (with_reducible repeat (first | refine blk_drewN ?_ _ | refine blk_drew ?_ | refine blk_alloc ?_ _)); refine blk_put (cs := #[.int .i64 0, .slice none 0 0]) ?_ 0 _ rfl; (with_reducible repeat (first | refine blk_drewN ?_ _ | refine blk_drew ?_ | refine blk_alloc ?_ _)); exact BK222.out) hb); have n8_ := Aside0.mk (below_step (by repeat (first | (with_reducible first | exact HB.out | apply bwA | apply bwN | apply bwD | refine below_set ?_ GE200.out | refine below_set ?_ GE211.out | refine below_set ?_ GE216.out | refine below_set ?_ GE222.out) | exact HB.out)) hb); clear HO205; clear HO209; clear HO215; clear HO220; clear BK200; clear BK211; clear BK216; clear BK222; clear HB; have HO205 := n0_; have HO209 := n1_; have HO215 := n2_; have HO220 := n3_; have BK200 := n4_; have BK211 := n5_; have BK216 := n6_; have BK222 := n7_; have HB := n8_; clear n0_ n1_ n2_ n3_ n4_ n5_ n6_ n7_ n8_; (try clear hb); (try clear hb2); (try clear hk); (try clear hi)))
    go_meet
    case rel => exact ⟨_, (true), (by first | rfl | (simp; done) | (simp [*]; done)), H', ⟨by first | omega | exact Nat.le_refl _⟩, ⟨by (with_reducible repeat (first | apply Kd.R_alloc | apply Kd.R_drewN | apply Kd.R_drew)); exact Kd.R_mono HO209.out (fun _ hk => ⟨hk.1.2, hk.2⟩)⟩, ⟨by (with_reducible repeat (first | apply Kd.R_alloc | apply Kd.R_drewN | apply Kd.R_drew)); exact Kd.R_mono HO215.out (fun _ hk => ⟨hk.1.2, hk.2⟩)⟩, ⟨by (with_reducible repeat (first | apply Kd.R_alloc | apply Kd.R_drewN | apply Kd.R_drew)); exact Kd.R_mono HO220.out (fun _ hk => ⟨hk.1.2, hk.2⟩)⟩, ⟨by (with_reducible repeat (first | refine blk_drewN ?_ _ | refine blk_drew ?_ | refine blk_alloc ?_ _)); exact BK200.out⟩, ⟨by (with_reducible repeat (first | refine blk_drewN ?_ _ | refine blk_drew ?_ | refine blk_alloc ?_ _)); exact BK211.out⟩, ⟨by (with_reducible repeat (first | refine blk_drewN ?_ _ | refine blk_drew ?_ | refine blk_alloc ?_ _)); exact BK216.out⟩, ⟨by (with_reducible repeat (first | refine blk_drewN ?_ _ | refine blk_drew ?_ | refine blk_alloc ?_ _)); exact BK222.out⟩, ⟨by repeat (first | (with_reducible first | exact HB.out | apply bwA | apply bwN | apply bwD | refine below_set ?_ GE200.out | refine below_set ?_ GE211.out | refine below_set ?_ GE216.out | refine below_set ?_ GE222.out) | exact HB.out)⟩⟩
  case rest =>
   clear HC14
   try clear c1
   try clear c2
   try clear p2
   try clear c3
   try clear c4
   try clear c5
   try clear c6
   try clear c6b0
   try clear c16
   try clear c18
   try clear c19
   try clear c20
   try clear c21
   try clear c23
   try clear c29
   try clear c30
   try clear c35
   try clear c36
   try clear c37
   try clear c41
   try clear c42
   try clear c43
   try clear c44
   try clear c46
   try clear c47
   try clear c50
   try clear c51
   try clear c52
   try clear c54
   try clear c55
   try clear hcz16_0
   try clear hcz16_1
   try clear hcz18_0
   try clear hcz18_1
   try clear hcz24_0
   try clear hcz24_1
   try clear hcz26_0
   try clear hcz26_1
   try clear hcz31_0
   try clear hcz31_1
   try clear hcz38_0
   try clear hcz38_1
   try clear hcz45_0
   try clear hcz45_1
   try clear hcz48_0
   try clear hcz48_1
   try clear hcz53_0
   try clear hcz53_1
   try clear hcz56_0
   try clear hcz56_1
   try clear hcz8_0
   try clear hcz8_1
   try clear hfz16_0
   try clear hfz16_1
   try clear hfz18_0
   try clear hfz18_1
   try clear hfz24_0
   try clear hfz24_1
   try clear hfz26_0
   try clear hfz26_1
   try clear hfz31_0
   try clear hfz31_1
   try clear hfz38_0
   try clear hfz38_1
   try clear hfz45_0
   try clear hfz45_1
   try clear hfz48_0
   try clear hfz48_1
   try clear hfz53_0
   try clear hfz53_1
   try clear hfz56_0
   try clear hfz56_1
   try clear hfz8_0
   try clear hfz8_1
   obtain ⟨kq, x52_13, rfl, HA, HJ13, HO_212001, HO_217001, HO_223001, BK200, BK211, BK216, BK222, HB⟩ := hcut
   cases kq with
   | zero => exact absurd HA.out (by simp [laws_FnExactDiagramFix.j0])
   | succ kj13 =>
    have H := HA.out
    clear HA
    simp only [laws_FnExactDiagramFix.j0] at H
    by_cases c58 : x52_13 = true
    ·subst c58
     have H1 : (some false) = some r := by rw [if_pos rfl] at H; exact H
     clear H
     have H := H1
     clear H1
     obtain rfl := Option.some.inj H
     go_wp2
     go_ret
     exact ⟨by first | rfl | (simp [errW_none, errW_some] <;> rfl) | (simp [*, errW_none, errW_some] <;> rfl), by repeat (first | (with_reducible first | exact HB.out | apply bwA | apply bwN | apply bwD | refine below_set ?_ GE200.out | refine below_set ?_ GE211.out | refine below_set ?_ GE216.out | refine below_set ?_ GE222.out) | exact HB.out)⟩
    ·replace c58 := Bool.eq_false_iff.mpr c58
     subst c58
     have H1 : ((laws_toDiagram.f kj13 a0_0 l0_1).bind fun bt224 => ((laws_eqDiagram.f kj13 t212 t213 bt224.1 bt224.2).bind fun t228 => (if t228 = true then ((laws_markDiagram.f kj13 t212 t213 1).bind fun bt229 => (if bt229.1 < 0 then (laws_FnExactDiagramFix.j1 kj13 a1 a2 a3 t210 true a0_0 l0_1 t206 t207 t217 t218) else ((laws_eqDiagram.f kj13 t217 t218 t206 t207).bind fun t231 => (if t231 = true then (laws_FnExactDiagramFix.j1 kj13 a1 a2 a3 t210 (t221 != t210) a0_0 l0_1 t206 t207 t217 t218) else (laws_FnExactDiagramFix.j1 kj13 a1 a2 a3 t210 true a0_0 l0_1 t206 t207 t217 t218))))) else (some false)))) = some r := by rw [if_neg (show ¬ (false = true) by decide)] at H; exact H
     clear H
     have H := H1
     clear H1
     replace H := Option.bind_eq_some_iff.mp H
     obtain ⟨⟨t224, t225⟩, A590, H⟩ := H
     replace H : ((laws_eqDiagram.f kj13 t212 t213 t224 t225).bind fun t228 => (if t228 = true then ((laws_markDiagram.f kj13 t212 t213 1).bind fun bt229 => (if bt229.1 < 0 then (laws_FnExactDiagramFix.j1 kj13 a1 a2 a3 t210 true a0_0 l0_1 t206 t207 t217 t218) else ((laws_eqDiagram.f kj13 t217 t218 t206 t207).bind fun t231 => (if t231 = true then (laws_FnExactDiagramFix.j1 kj13 a1 a2 a3 t210 (t221 != t210) a0_0 l0_1 t206 t207 t217 t218) else (laws_FnExactDiagramFix.j1 kj13 a1 a2 a3 t210 true a0_0 l0_1 t206 t207 t217 t218))))) else (some false))) = some r := H
     have A59 := Aside0.mk A590
     clear A590
     replace H := Option.bind_eq_some_iff.mp H
     obtain ⟨t228, A600, H⟩ := H
     replace H : (if t228 = true then ((laws_markDiagram.f kj13 t212 t213 1).bind fun bt229 => (if bt229.1 < 0 then (laws_FnExactDiagramFix.j1 kj13 a1 a2 a3 t210 true a0_0 l0_1 t206 t207 t217 t218) else ((laws_eqDiagram.f kj13 t217 t218 t206 t207).bind fun t231 => (if t231 = true then (laws_FnExactDiagramFix.j1 kj13 a1 a2 a3 t210 (t221 != t210) a0_0 l0_1 t206 t207 t217 t218) else (laws_FnExactDiagramFix.j1 kj13 a1 a2 a3 t210 true a0_0 l0_1 t206 t207 t217 t218))))) else (some false)) = some r := H
     have A60 := Aside0.mk A600
     clear A600
     by_cases c61 : t228 = true
     ·subst c61
      have H1 : ((laws_markDiagram.f kj13 t212 t213 1).bind fun bt229 => (if bt229.1 < 0 then (laws_FnExactDiagramFix.j1 kj13 a1 a2 a3 t210 true a0_0 l0_1 t206 t207 t217 t218) else ((laws_eqDiagram.f kj13 t217 t218 t206 t207).bind fun t231 => (if t231 = true then (laws_FnExactDiagramFix.j1 kj13 a1 a2 a3 t210 (t221 != t210) a0_0 l0_1 t206 t207 t217 t218) else (laws_FnExactDiagramFix.j1 kj13 a1 a2 a3 t210 true a0_0 l0_1 t206 t207 t217 t218))))) = some r := by rw [if_pos rfl] at H; exact H
      clear H
      have H := H1
      clear H1
      replace H := Option.bind_eq_some_iff.mp H
      obtain ⟨⟨t229, t230⟩, A620, H⟩ := H
      replace H : (if t229 < 0 then (laws_FnExactDiagramFix.j1 kj13 a1 a2 a3 t210 true a0_0 l0_1 t206 t207 t217 t218) else ((laws_eqDiagram.f kj13 t217 t218 t206 t207).bind fun t231 => (if t231 = true then (laws_FnExactDiagramFix.j1 kj13 a1 a2 a3 t210 (t221 != t210) a0_0 l0_1 t206 t207 t217 t218) else (laws_FnExactDiagramFix.j1 kj13 a1 a2 a3 t210 true a0_0 l0_1 t206 t207 t217 t218)))) = some r := H
      have A62 := Aside0.mk A620
      clear A620
      have HC63 := Aside0.mk H
      clear H
      try go_wp2
      have n0_ := Aside0.mk (Kd.R_drew HO_212001.out)
      have n1_ := Aside0.mk (Kd.R_drew HO_217001.out)
      have n2_ := Aside0.mk (Kd.R_drew HO_223001.out)
      have n3_ := Aside0.mk (blk_drew BK200.out)
      have n4_ := Aside0.mk (blk_drew BK211.out)
      have n5_ := Aside0.mk (blk_drew BK216.out)
      have n6_ := Aside0.mk (blk_drew BK222.out)
      have n7_ := Aside0.mk (below_drew1 HB.out)
      clear HO_212001
      clear HO_217001
      clear HO_223001
      clear BK200
      clear BK211
      clear BK216
      clear BK222
      clear HB
      have HO_212001 := n0_
      have HO_217001 := n1_
      have HO_223001 := n2_
      have BK200 := n3_
      have BK211 := n4_
      have BK216 := n5_
      have BK222 := n6_
      have HB := n7_
      clear n0_ n1_ n2_ n3_ n4_ n5_ n6_ n7_
      refine start_ (n := 5) (S := fun w' => w'.cell? ⟨gb216, 0, none⟩ = some (.int .i64 t212) ∧ w'.cell? ⟨gb216, 1, none⟩ = some (.slice Ao32 t213.length co32) ∧ w'.cell? ⟨gb200, 0, none⟩ = some (.int .i64 a0_0) ∧ w'.cell? ⟨gb200, 1, none⟩ = some (.slice A0_1 l0_1.length c0_1)) (ds := []) #[false, false, false, false, false] (by kernel_rfl) rfl rfl ⟨(blk_cell BK216.out 0).trans rfl, (blk_cell BK216.out 1).trans rfl, (blk_cell BK200.out 0).trans rfl, (blk_cell BK200.out 1).trans rfl⟩ (fun hHeld => ?_)
      generalize wc.drew = w64 at HO_212001 HO_217001 HO_223001 BK200 BK211 BK216 BK222 HB hHeld ⊢
      refine take_ (i := 0) (N := some 53) (v := ?_) (a' := ?_) #[true, false, false, false, false] rfl rfl (by kernel_rfl) (fun _ _ _ h => h) (Or.inl ⟨by rfl, ?_⟩) hHeld ?_ ?_
      rotate_left
      ·rintro w' ⟨s0, s1, s2, s3⟩
       go_simp
       with_reducible rfl
      rotate_left
      ·simp only [Act.put, List.setIfInBounds_toArray, List.set_cons_zero, List.set_cons_succ, i64_w, i32_w]
       rfl
      refine take_ (i := 1) (N := some 54) (v := ?_) (a' := ?_) #[true, true, false, false, false] rfl rfl (by kernel_rfl) (fun _ _ _ h => h) (Or.inl ⟨by rfl, ?_⟩) hHeld ?_ ?_
      rotate_left
      ·rintro w' ⟨s0, s1, s2, s3⟩
       go_simp
       with_reducible rfl
      rotate_left
      ·simp only [Act.put, List.setIfInBounds_toArray, List.set_cons_zero, List.set_cons_succ, i64_w, i32_w]
       rfl
      refine one_ (i := 2) (N := some 55) #[true, true, true, false, false] rfl rfl (by kernel_rfl) (by decide) (fun K hK => ?_)
      refine goes_ Try.func20 (by kernel_rfl) rfl #[.agg #[.int .i64 a0_0, .slice A0_1 l0_1.length c0_1]] (by rfl) rfl rfl (by (try simp only [List.map_toArray, List.map_cons, List.map_nil]); first | done | rfl | (simp only [List.length_drop, List.length_take]; rfl)) ?_
      with_reducible refine (laws_toDiagram.calls kj13 a0_0 _ _ l0_1 t224 t225 _ ?side1 ?side2 A59.out).mono ?_
      (case side1 => repeat (first | exact (Kd.C_below HR0_1.out HB.out) | (with_reducible refine Kd.C_alloc ?_ _) | (with_reducible refine Kd.C_drewN ?_ _) | (with_reducible refine Kd.C_drew ?_)))
      (case side2 => exact HC0_1.out)
      rintro e w65 ⟨v226, rfl, ho0, hb⟩
      refine ⟨_, rfl, ?_⟩
      have n0_ := Aside0.mk (Kd.R_elder' (by (with_reducible repeat (first | apply Kd.R_alloc | apply Kd.R_drewN | apply Kd.R_drew)); exact HO_212001.out) (Kd.R_base ho0) hb)
      have n1_ := Aside0.mk (Kd.R_elder' (by (with_reducible repeat (first | apply Kd.R_alloc | apply Kd.R_drewN | apply Kd.R_drew)); exact HO_217001.out) (Kd.R_base ho0) hb)
      have n2_ := Aside0.mk (Kd.R_elder' (by (with_reducible repeat (first | apply Kd.R_alloc | apply Kd.R_drewN | apply Kd.R_drew)); exact HO_223001.out) (Kd.R_base ho0) hb)
      have n3_ := Aside0.mk (Kd.R_lower (Kd.R_new' (Kd.R_new' (Kd.R_new' ho0 (Kd.R_lt (by (with_reducible repeat (first | apply Kd.R_alloc | apply Kd.R_drewN | apply Kd.R_drew)); exact HO_212001.out))) (Kd.R_lt (by (with_reducible repeat (first | apply Kd.R_alloc | apply Kd.R_drewN | apply Kd.R_drew)); exact HO_217001.out))) (Kd.R_lt (by (with_reducible repeat (first | apply Kd.R_alloc | apply Kd.R_drewN | apply Kd.R_drew)); exact HO_223001.out))) (below_size (by repeat (first | (with_reducible first | exact HB.out | apply bwA | apply bwN | apply bwD | refine below_set ?_ GE200.out | refine below_set ?_ GE211.out | refine below_set ?_ GE216.out | refine below_set ?_ GE222.out) | exact HB.out))))
      have n4_ := Aside0.mk (blk_below (g := gb200) (o := .cells #[.int .i64 a0_0, .slice A0_1 l0_1.length c0_1] 34 (0, 0)) (by (with_reducible repeat (first | refine blk_drewN ?_ _ | refine blk_drew ?_ | refine blk_alloc ?_ _)); exact BK200.out) hb)
      have n5_ := Aside0.mk (blk_below (g := gb211) (o := .cells #[.int .i64 t206, .slice Ao25 t207.length co25] 25 (0, 0)) (by (with_reducible repeat (first | refine blk_drewN ?_ _ | refine blk_drew ?_ | refine blk_alloc ?_ _)); exact BK211.out) hb)
      have n6_ := Aside0.mk (blk_below (g := gb216) (o := .cells #[.int .i64 t212, .slice Ao32 t213.length co32] 25 (0, 0)) (by (with_reducible repeat (first | refine blk_drewN ?_ _ | refine blk_drew ?_ | refine blk_alloc ?_ _)); exact BK216.out) hb)
      have n7_ := Aside0.mk (blk_below (g := gb222) (o := .cells #[.int .i64 t217, .slice Ao39 t218.length co39] 25 (0, 0)) (by (with_reducible repeat (first | refine blk_drewN ?_ _ | refine blk_drew ?_ | refine blk_alloc ?_ _)); exact BK222.out) hb)
      have n8_ := Aside0.mk (below_step (by repeat (first | (with_reducible first | exact HB.out | apply bwA | apply bwN | apply bwD | refine below_set ?_ GE200.out | refine below_set ?_ GE211.out | refine below_set ?_ GE216.out | refine below_set ?_ GE222.out) | exact HB.out)) hb)
      clear HO_212001
      clear HO_217001
      clear HO_223001
      clear BK200
      clear BK211
      clear BK216
      clear BK222
      clear HB
      have HO_212001 := n0_
      have HO_217001 := n1_
      have HO_223001 := n2_
      have HO227 := n3_
      have BK200 := n4_
      have BK211 := n5_
      have BK216 := n6_
      have BK222 := n7_
      have HB := n8_
      clear n0_ n1_ n2_ n3_ n4_ n5_ n6_ n7_ n8_
      (try clear hb)
      (try clear hb2)
      (try clear hk)
      (try clear hi)
      (try clear ho0)
      obtain ⟨Ao66, co66, eo66⟩ := Kd.R_slice HO227.out
      (first | subst eo66 | (injection eo66 with f1_ f2_ f3_; have f4_ := f1_.symm; have f5_ := f3_.symm; clear f1_ f2_ f3_; subst f4_; subst f5_))
      refine hK.out _ _ ⟨(blk_cell BK216.out 0).trans rfl, (blk_cell BK216.out 1).trans rfl, (blk_cell BK200.out 0).trans rfl, (blk_cell BK200.out 1).trans rfl⟩ (fun hHeld => ?_)
      clear hK K
      refine norm_ (a' := ?_) ?_ ?_
      rotate_left
      ·show Act.put _ (some 55) _ = _
       simp only [Act.put, List.setIfInBounds_toArray, List.set_cons_zero, List.set_cons_succ, i64_w, i32_w]
       rfl
      refine one_ (i := 3) (N := some 56) #[true, true, true, true, false] rfl rfl (by kernel_rfl) (by decide) (fun K hK => ?_)
      refine goes_ Try.func21 (by kernel_rfl) rfl #[.agg #[.int .i64 t212, .slice Ao32 t213.length co32], .agg #[.int .i64 t224, .slice Ao66 t225.length co66]] (by rfl) rfl rfl (by (try simp only [List.map_toArray, List.map_cons, List.map_nil]); first | done | rfl | (simp only [List.length_drop, List.length_take]; rfl)) ?_
      with_reducible refine (laws_eqDiagram.calls kj13 t212 _ _ t213 t224 _ _ t225 true _ ?side1 ?side2 ?side3 ?side4 A60.out).mono ?_
      (case side1 => repeat (first | exact (Kd.R_reads' HO_217001.out).2.2 | (with_reducible refine Kd.C_alloc ?_ _) | (with_reducible refine Kd.C_drewN ?_ _) | (with_reducible refine Kd.C_drew ?_)))
      (case side2 => exact (Kd.R_reads' HO_217001.out).2.1)
      (case side3 => repeat (first | exact (Kd.R_reads' HO227.out).2.2 | (with_reducible refine Kd.C_alloc ?_ _) | (with_reducible refine Kd.C_drewN ?_ _) | (with_reducible refine Kd.C_drew ?_)))
      (case side4 => exact (Kd.R_reads' HO227.out).2.1)
      rintro e w67 ⟨rfl, hb⟩
      refine ⟨_, rfl, ?_⟩
      have n0_ := Aside0.mk (Kd.R_below (by (with_reducible repeat (first | apply Kd.R_alloc | apply Kd.R_drewN | apply Kd.R_drew)); exact HO_212001.out) hb)
      have n1_ := Aside0.mk (Kd.R_below (by (with_reducible repeat (first | apply Kd.R_alloc | apply Kd.R_drewN | apply Kd.R_drew)); exact HO_217001.out) hb)
      have n2_ := Aside0.mk (Kd.R_below (by (with_reducible repeat (first | apply Kd.R_alloc | apply Kd.R_drewN | apply Kd.R_drew)); exact HO_223001.out) hb)
      have n3_ := Aside0.mk (Kd.R_below (by (with_reducible repeat (first | apply Kd.R_alloc | apply Kd.R_drewN | apply Kd.R_drew)); exact HO227.out) hb)
      have n4_ := Aside0.mk (blk_below (g := gb200) (o := .cells #[.int .i64 a0_0, .slice A0_1 l0_1.length c0_1] 34 (0, 0)) (by (with_reducible repeat (first | refine blk_drewN ?_ _ | refine blk_drew ?_ | refine blk_alloc ?_ _)); exact BK200.out) hb)
      have n5_ := Aside0.mk (blk_below (g := gb211) (o := .cells #[.int .i64 t206, .slice Ao25 t207.length co25] 25 (0, 0)) (by (with_reducible repeat (first | refine blk_drewN ?_ _ | refine blk_drew ?_ | refine blk_alloc ?_ _)); exact BK211.out) hb)
      have n6_ := Aside0.mk (blk_below (g := gb216) (o := .cells #[.int .i64 t212, .slice Ao32 t213.length co32] 25 (0, 0)) (by (with_reducible repeat (first | refine blk_drewN ?_ _ | refine blk_drew ?_ | refine blk_alloc ?_ _)); exact BK216.out) hb)
      have n7_ := Aside0.mk (blk_below (g := gb222) (o := .cells #[.int .i64 t217, .slice Ao39 t218.length co39] 25 (0, 0)) (by (with_reducible repeat (first | refine blk_drewN ?_ _ | refine blk_drew ?_ | refine blk_alloc ?_ _)); exact BK222.out) hb)
      have n8_ := Aside0.mk (below_step (by repeat (first | (with_reducible first | exact HB.out | apply bwA | apply bwN | apply bwD | refine below_set ?_ GE200.out | refine below_set ?_ GE211.out | refine below_set ?_ GE216.out | refine below_set ?_ GE222.out) | exact HB.out)) hb)
      clear HO_212001
      clear HO_217001
      clear HO_223001
      clear HO227
      clear BK200
      clear BK211
      clear BK216
      clear BK222
      clear HB
      have HO_212001 := n0_
      have HO_217001 := n1_
      have HO_223001 := n2_
      have HO227 := n3_
      have BK200 := n4_
      have BK211 := n5_
      have BK216 := n6_
      have BK222 := n7_
      have HB := n8_
      clear n0_ n1_ n2_ n3_ n4_ n5_ n6_ n7_ n8_
      (try clear hb)
      (try clear hb2)
      (try clear hk)
      (try clear hi)
      refine hK.out _ _ ⟨(blk_cell BK216.out 0).trans rfl, (blk_cell BK216.out 1).trans rfl, (blk_cell BK200.out 0).trans rfl, (blk_cell BK200.out 1).trans rfl⟩ (fun hHeld => ?_)
      clear hK K
      refine norm_ (a' := ?_) ?_ ?_
      rotate_left
      ·show Act.put _ (some 56) _ = _
       simp only [Act.put, List.setIfInBounds_toArray, List.set_cons_zero, List.set_cons_succ, i64_w, i32_w]
       rfl
      refine pure_ (i := 4) (N := some 57) (v := ?_) (a' := ?_) #[true, true, true, true, true] rfl rfl (by kernel_rfl) (fun _ _ _ h => h) (Or.inl ⟨by rfl, ?_⟩) ?_ ?_
      rotate_left
      ·intro w'
       go_simp
       with_reducible rfl
      rotate_left
      ·simp only [Act.put, List.setIfInBounds_toArray, List.set_cons_zero, List.set_cons_succ, i64_w, i32_w]
       rfl
      refine done_ (by kernel_rfl) ?_
      have hnb68 := NB216_200.out
      have hnc68 := NB200_216.out
      have hnb69 := NB216_211.out
      have hnc69 := NB211_216.out
      have hnb70 := NB216_222.out
      have hnc70 := NB222_216.out
      have hcz71_0 : w67.cell? ⟨gb216, 0, none⟩ = some (.int .i64 t212) := (blk_cell BK216.out 0).trans rfl
      have hcz71_1 : w67.cell? ⟨gb216, 1, none⟩ = some (.slice Ao32 t213.length co32) := (blk_cell BK216.out 1).trans rfl
      have hfz71_0 := blk_frozen BK216.out 0
      have hfz71_1 := blk_frozen BK216.out 1
      go_upto_region 14 with (first | ((with_reducible refine gate_callee (f := 22) rfl ?_); refine goesL_ (some 60) rfl rfl Try.func22 (by kernel_rfl) rfl #[.agg #[.int .i64 t212, .slice Ao32 t213.length co32], .int .i64 1] rfl (by (try simp only [List.map_toArray, List.map_cons, List.map_nil]); first | done | rfl | (simp only [List.length_drop, List.length_take]; rfl)) ?_; (with_reducible refine (laws_markDiagram.calls kj13 t212 (fun k_ => some k_ = (.slice Ao32 t213.length co32 : Value).ownBlock) (.slice Ao32 t213.length co32) t213 1 t229 t230 w _ ?side1 ?side2 A62.out).mono ?_); (case side1 => repeat (first | (with_reducible first | exact HB.out | apply bwA | apply bwN | apply bwD | refine below_set ?_ GE200.out | refine below_set ?_ GE211.out | refine below_set ?_ GE216.out | refine below_set ?_ GE222.out) | exact HB.out)); (case side2 => exact Kd.R_tight rfl HO_217001.out); rintro e w72 ⟨rfl, hy0, hb, hkp⟩; refine ⟨_, rfl, ?_⟩; have n0_ := Aside0.mk (Kd.R_mono (ok' := fun k_ => some k_ ≠ (.slice Ao32 t213.length co32 : Value).ownBlock ∧ some k_ ≠ (.slice Ao39 t218.length co39 : Value).ownBlock ∧ some k_ ≠ (.slice Ao66 t225.length co66 : Value).ownBlock) (Kd.R_keptB (HO_212001.out) hkp (fun k_ hk_ hs_ => (hk_.1.1) hs_)) (fun k_ hk_ => ⟨hk_.1.1.1, hk_.1.1.2, hk_.1.2⟩)); have n1_ := Aside0.mk (Kd.R_reok rfl hy0 (fun k_ e_ => HO_217001.out.1 k_ e_)); have n2_ := Aside0.mk (Kd.R_mono (ok' := fun k_ => some k_ ≠ (.slice Ao25 t207.length co25 : Value).ownBlock ∧ some k_ ≠ (.slice Ao32 t213.length co32 : Value).ownBlock ∧ some k_ ≠ (.slice Ao66 t225.length co66 : Value).ownBlock) (Kd.R_keptB (HO_223001.out) hkp (fun k_ hk_ hs_ => (hk_.1.2) hs_)) (fun k_ hk_ => ⟨hk_.1.1.1, hk_.1.1.2, hk_.1.2⟩)); have n3_ := Aside0.mk (blk_kept (by (with_reducible repeat (first | refine blk_drewN ?_ _ | refine blk_drew ?_ | refine blk_alloc ?_ _)); exact BK200.out) hkp (fun hs_ => (fun e_ => (Kd.R_ne HO_217001.out BK200.out (by decide)) e_) hs_)); have n4_ := Aside0.mk (blk_kept (by (with_reducible repeat (first | refine blk_drewN ?_ _ | refine blk_drew ?_ | refine blk_alloc ?_ _)); exact BK211.out) hkp (fun hs_ => (fun e_ => (Kd.R_ne HO_217001.out BK211.out (by decide)) e_) hs_)); have n5_ := Aside0.mk (blk_kept (by (with_reducible repeat (first | refine blk_drewN ?_ _ | refine blk_drew ?_ | refine blk_alloc ?_ _)); exact BK216.out) hkp (fun hs_ => (fun e_ => (Kd.R_ne HO_217001.out BK216.out (by decide)) e_) hs_)); have n6_ := Aside0.mk (blk_kept (by (with_reducible repeat (first | refine blk_drewN ?_ _ | refine blk_drew ?_ | refine blk_alloc ?_ _)); exact BK222.out) hkp (fun hs_ => (fun e_ => (Kd.R_ne HO_217001.out BK222.out (by decide)) e_) hs_)); have n7_ := Aside0.mk (Kd.R_mono (ok' := fun k_ => some k_ ≠ (.slice Ao25 t207.length co25 : Value).ownBlock ∧ some k_ ≠ (.slice Ao32 t213.length co32 : Value).ownBlock ∧ some k_ ≠ (.slice Ao39 t218.length co39 : Value).ownBlock) (Kd.R_keptB (HO227.out) hkp (fun k_ hk_ hs_ => (hk_.1.2) hs_)) (fun k_ hk_ => ⟨hk_.1.1.1.2, hk_.1.1.2, hk_.1.2⟩)); have n8_ := Aside0.mk (hb); clear HO_212001; clear HO_217001; clear HO_223001; clear BK200; clear BK211; clear BK216; clear BK222; clear HO227; clear HB; have HO_212001 := n0_; have HO_217001 := n1_; have HO_223001 := n2_; have BK200 := n3_; have BK211 := n4_; have BK216 := n5_; have BK222 := n6_; have HO227 := n7_; have HB := n8_; clear n0_ n1_ n2_ n3_ n4_ n5_ n6_ n7_ n8_; (try clear hb); (try clear hkp); (try clear hy0)))
      (try simp only [Act.put, List.setIfInBounds_toArray, List.set_cons_zero, List.set_cons_succ])
      go_cut [73] (fun v73 wc => ∃ (kq : Nat) (x73_62 : Bool), v73 = .bool x73_62 ∧ Aside0 (laws_FnExactDiagramFix.j1 kq a1 a2 a3 t210 x73_62 a0_0 l0_1 t206 t207 t217 t218 = some r) ∧ Aside0 (kq ≤ kj13) ∧ Aside0 (Kd.R k71 71 wc w.heap.size (fun k_ => some k_ ≠ ((.slice Ao32 t213.length co32) : Value).ownBlock ∧ some k_ ≠ ((.slice Ao39 t218.length co39) : Value).ownBlock) (.slice Ao25 t207.length co25) t207) ∧ Aside0 (Kd.R k71 71 wc w.heap.size (fun k_ => some k_ ≠ ((.slice Ao25 t207.length co25) : Value).ownBlock ∧ some k_ ≠ ((.slice Ao39 t218.length co39) : Value).ownBlock) (.slice Ao32 t213.length co32) t230) ∧ Aside0 (Kd.R k71 71 wc w.heap.size (fun k_ => some k_ ≠ ((.slice Ao25 t207.length co25) : Value).ownBlock ∧ some k_ ≠ ((.slice Ao32 t213.length co32) : Value).ownBlock) (.slice Ao39 t218.length co39) t218) ∧ Aside0 (wc.heap[gb200]? = some (.cells #[.int .i64 a0_0, (.slice A0_1 l0_1.length c0_1)] 34 (0, 0))) ∧ Aside0 (wc.heap[gb211]? = some (.cells #[.int .i64 t206, (.slice Ao25 t207.length co25)] 25 (0, 0))) ∧ Aside0 (wc.heap[gb216]? = some (.cells #[.int .i64 t212, (.slice Ao32 t213.length co32)] 25 (0, 0))) ∧ Aside0 (wc.heap[gb222]? = some (.cells #[.int .i64 t217, (.slice Ao39 t218.length co39)] 25 (0, 0))) ∧ Aside0 (Below w.heap.size w wc))
      case first =>
       have H := HC63.out
       clear HC63
       by_cases c73 : t229 < 0
       ·rw [if_pos c73] at H
        have c73b0 : decide (t229 < 0) = true := decide_eq_true c73
        clear c73
        (first | rw [c73b0] | (simp only [i64_w, i32_w]; rw [c73b0]) | skip)
        have H' := Aside0.mk H
        clear H
        go_wp2
        go_meet
        case rel => exact ⟨_, (true), (by first | rfl | (simp; done) | (simp [*]; done)), H', ⟨by have := HJ13.out; first | omega | exact Nat.le_refl _⟩, ⟨by (with_reducible repeat (first | apply Kd.R_alloc | apply Kd.R_drewN | apply Kd.R_drew)); exact Kd.R_mono HO_212001.out (fun _ hk => ⟨hk.1, hk.2.1⟩)⟩, ⟨by (with_reducible repeat (first | apply Kd.R_alloc | apply Kd.R_drewN | apply Kd.R_drew)); exact Kd.R_mono HO_217001.out (fun _ hk => ⟨hk.1.1, hk.1.2⟩)⟩, ⟨by (with_reducible repeat (first | apply Kd.R_alloc | apply Kd.R_drewN | apply Kd.R_drew)); exact Kd.R_mono HO_223001.out (fun _ hk => ⟨hk.1, hk.2.1⟩)⟩, ⟨by (with_reducible repeat (first | refine blk_drewN ?_ _ | refine blk_drew ?_ | refine blk_alloc ?_ _)); exact BK200.out⟩, ⟨by (with_reducible repeat (first | refine blk_drewN ?_ _ | refine blk_drew ?_ | refine blk_alloc ?_ _)); exact BK211.out⟩, ⟨by (with_reducible repeat (first | refine blk_drewN ?_ _ | refine blk_drew ?_ | refine blk_alloc ?_ _)); exact BK216.out⟩, ⟨by (with_reducible repeat (first | refine blk_drewN ?_ _ | refine blk_drew ?_ | refine blk_alloc ?_ _)); exact BK222.out⟩, ⟨by repeat (first | (with_reducible first | exact HB.out | apply bwA | apply bwN | apply bwD | refine below_set ?_ GE200.out | refine below_set ?_ GE211.out | refine below_set ?_ GE216.out | refine below_set ?_ GE222.out) | exact HB.out)⟩⟩
       ·rw [if_neg c73] at H
        have c73b0 : decide (t229 < 0) = false := decide_eq_false c73
        clear c73
        (first | rw [c73b0] | (simp only [i64_w, i32_w]; rw [c73b0]) | skip)
        replace H := Option.bind_eq_some_iff.mp H
        obtain ⟨t231, A740, H⟩ := H
        replace H : (if t231 = true then (laws_FnExactDiagramFix.j1 kj13 a1 a2 a3 t210 (t221 != t210) a0_0 l0_1 t206 t207 t217 t218) else (laws_FnExactDiagramFix.j1 kj13 a1 a2 a3 t210 true a0_0 l0_1 t206 t207 t217 t218)) = some r := H
        have A74 := Aside0.mk A740
        clear A740
        by_cases c75 : t231 = true
        ·subst c75
         have H1 : (laws_FnExactDiagramFix.j1 kj13 a1 a2 a3 t210 (t221 != t210) a0_0 l0_1 t206 t207 t217 t218) = some r := by rw [if_pos rfl] at H; exact H
         clear H
         have H := H1
         clear H1
         have H' := Aside0.mk H
         clear H
         have hnb76 := NB222_200.out
         have hnc76 := NB200_222.out
         have hnb77 := NB222_211.out
         have hnc77 := NB211_222.out
         have hnb78 := NB222_216.out
         have hnc78 := NB216_222.out
         have hcz79_0 : w72.cell? ⟨gb222, 0, none⟩ = some (.int .i64 t217) := (blk_cell BK222.out 0).trans rfl
         have hcz79_1 : w72.cell? ⟨gb222, 1, none⟩ = some (.slice Ao39 t218.length co39) := (blk_cell BK222.out 1).trans rfl
         have hfz79_0 := blk_frozen BK222.out 0
         have hfz79_1 := blk_frozen BK222.out 1
         have hnb80 := NB211_200.out
         have hnc80 := NB200_211.out
         have hnb81 := NB211_216.out
         have hnc81 := NB216_211.out
         have hcz82_0 : w72.cell? ⟨gb211, 0, none⟩ = some (.int .i64 t206) := (blk_cell BK211.out 0).trans rfl
         have hcz82_1 : w72.cell? ⟨gb211, 1, none⟩ = some (.slice Ao25 t207.length co25) := (blk_cell BK211.out 1).trans rfl
         have hfz82_0 := blk_frozen BK211.out 0
         have hfz82_1 := blk_frozen BK211.out 1
         go_wp2_with (first | (go_at_call 21; (with_reducible refine (laws_eqDiagram.calls kj13 t217 _ _ t218 t206 _ _ t207 true _ ?side1 ?side2 ?side3 ?side4 A74.out).mono ?_); (case side1 => repeat (first | exact (Kd.R_reads' HO_223001.out).2.2 | (with_reducible refine Kd.C_alloc ?_ _) | (with_reducible refine Kd.C_drewN ?_ _) | (with_reducible refine Kd.C_drew ?_))); (case side2 => exact (Kd.R_reads' HO_223001.out).2.1); (case side3 => repeat (first | exact (Kd.R_reads' HO_212001.out).2.2 | (with_reducible refine Kd.C_alloc ?_ _) | (with_reducible refine Kd.C_drewN ?_ _) | (with_reducible refine Kd.C_drew ?_))); (case side4 => exact (Kd.R_reads' HO_212001.out).2.1); rintro e w83 ⟨rfl, hb⟩; have n0_ := Aside0.mk (Kd.R_below (by (with_reducible repeat (first | apply Kd.R_alloc | apply Kd.R_drewN | apply Kd.R_drew)); exact HO_212001.out) hb); have n1_ := Aside0.mk (Kd.R_below (by (with_reducible repeat (first | apply Kd.R_alloc | apply Kd.R_drewN | apply Kd.R_drew)); exact HO_217001.out) hb); have n2_ := Aside0.mk (Kd.R_below (by (with_reducible repeat (first | apply Kd.R_alloc | apply Kd.R_drewN | apply Kd.R_drew)); exact HO_223001.out) hb); have n3_ := Aside0.mk (Kd.R_below (by (with_reducible repeat (first | apply Kd.R_alloc | apply Kd.R_drewN | apply Kd.R_drew)); exact HO227.out) hb); have n4_ := Aside0.mk (blk_below (g := gb200) (o := .cells #[.int .i64 a0_0, .slice A0_1 l0_1.length c0_1] 34 (0, 0)) (by (with_reducible repeat (first | refine blk_drewN ?_ _ | refine blk_drew ?_ | refine blk_alloc ?_ _)); exact BK200.out) hb); have n5_ := Aside0.mk (blk_below (g := gb211) (o := .cells #[.int .i64 t206, .slice Ao25 t207.length co25] 25 (0, 0)) (by (with_reducible repeat (first | refine blk_drewN ?_ _ | refine blk_drew ?_ | refine blk_alloc ?_ _)); exact BK211.out) hb); have n6_ := Aside0.mk (blk_below (g := gb216) (o := .cells #[.int .i64 t212, .slice Ao32 t213.length co32] 25 (0, 0)) (by (with_reducible repeat (first | refine blk_drewN ?_ _ | refine blk_drew ?_ | refine blk_alloc ?_ _)); exact BK216.out) hb); have n7_ := Aside0.mk (blk_below (g := gb222) (o := .cells #[.int .i64 t217, .slice Ao39 t218.length co39] 25 (0, 0)) (by (with_reducible repeat (first | refine blk_drewN ?_ _ | refine blk_drew ?_ | refine blk_alloc ?_ _)); exact BK222.out) hb); have n8_ := Aside0.mk (below_step (by repeat (first | (with_reducible first | exact HB.out | apply bwA | apply bwN | apply bwD | refine below_set ?_ GE200.out | refine below_set ?_ GE211.out | refine below_set ?_ GE216.out | refine below_set ?_ GE222.out) | exact HB.out)) hb); clear HO_212001; clear HO_217001; clear HO_223001; clear HO227; clear BK200; clear BK211; clear BK216; clear BK222; clear HB; have HO_212001 := n0_; have HO_217001 := n1_; have HO_223001 := n2_; have HO227 := n3_; have BK200 := n4_; have BK211 := n5_; have BK216 := n6_; have BK222 := n7_; have HB := n8_; clear n0_ n1_ n2_ n3_ n4_ n5_ n6_ n7_ n8_; (try clear hb); (try clear hb2); (try clear hk); (try clear hi)))
         go_meet
         case rel => exact ⟨_, ((t221 != t210)), (by first | rfl | (simp; done) | (simp [*]; done)), H', ⟨by have := HJ13.out; first | omega | exact Nat.le_refl _⟩, ⟨by (with_reducible repeat (first | apply Kd.R_alloc | apply Kd.R_drewN | apply Kd.R_drew)); exact Kd.R_mono HO_212001.out (fun _ hk => ⟨hk.1, hk.2.1⟩)⟩, ⟨by (with_reducible repeat (first | apply Kd.R_alloc | apply Kd.R_drewN | apply Kd.R_drew)); exact Kd.R_mono HO_217001.out (fun _ hk => ⟨hk.1.1, hk.1.2⟩)⟩, ⟨by (with_reducible repeat (first | apply Kd.R_alloc | apply Kd.R_drewN | apply Kd.R_drew)); exact Kd.R_mono HO_223001.out (fun _ hk => ⟨hk.1, hk.2.1⟩)⟩, ⟨by (with_reducible repeat (first | refine blk_drewN ?_ _ | refine blk_drew ?_ | refine blk_alloc ?_ _)); exact BK200.out⟩, ⟨by (with_reducible repeat (first | refine blk_drewN ?_ _ | refine blk_drew ?_ | refine blk_alloc ?_ _)); exact BK211.out⟩, ⟨by (with_reducible repeat (first | refine blk_drewN ?_ _ | refine blk_drew ?_ | refine blk_alloc ?_ _)); exact BK216.out⟩, ⟨by (with_reducible repeat (first | refine blk_drewN ?_ _ | refine blk_drew ?_ | refine blk_alloc ?_ _)); exact BK222.out⟩, ⟨by repeat (first | (with_reducible first | exact HB.out | apply bwA | apply bwN | apply bwD | refine below_set ?_ GE200.out | refine below_set ?_ GE211.out | refine below_set ?_ GE216.out | refine below_set ?_ GE222.out) | exact HB.out)⟩⟩
        ·replace c75 := Bool.eq_false_iff.mpr c75
         subst c75
         have H1 : (laws_FnExactDiagramFix.j1 kj13 a1 a2 a3 t210 true a0_0 l0_1 t206 t207 t217 t218) = some r := by rw [if_neg (show ¬ (false = true) by decide)] at H; exact H
         clear H
         have H := H1
         clear H1
         have H' := Aside0.mk H
         clear H
         have hnb84 := NB222_200.out
         have hnc84 := NB200_222.out
         have hnb85 := NB222_211.out
         have hnc85 := NB211_222.out
         have hnb86 := NB222_216.out
         have hnc86 := NB216_222.out
         have hcz87_0 : w72.cell? ⟨gb222, 0, none⟩ = some (.int .i64 t217) := (blk_cell BK222.out 0).trans rfl
         have hcz87_1 : w72.cell? ⟨gb222, 1, none⟩ = some (.slice Ao39 t218.length co39) := (blk_cell BK222.out 1).trans rfl
         have hfz87_0 := blk_frozen BK222.out 0
         have hfz87_1 := blk_frozen BK222.out 1
         have hnb88 := NB211_200.out
         have hnc88 := NB200_211.out
         have hnb89 := NB211_216.out
         have hnc89 := NB216_211.out
         have hcz90_0 : w72.cell? ⟨gb211, 0, none⟩ = some (.int .i64 t206) := (blk_cell BK211.out 0).trans rfl
         have hcz90_1 : w72.cell? ⟨gb211, 1, none⟩ = some (.slice Ao25 t207.length co25) := (blk_cell BK211.out 1).trans rfl
         have hfz90_0 := blk_frozen BK211.out 0
         have hfz90_1 := blk_frozen BK211.out 1
         go_wp2_with (first | (go_at_call 21; (with_reducible refine (laws_eqDiagram.calls kj13 t217 _ _ t218 t206 _ _ t207 false _ ?side1 ?side2 ?side3 ?side4 A74.out).mono ?_); (case side1 => repeat (first | exact (Kd.R_reads' HO_223001.out).2.2 | (with_reducible refine Kd.C_alloc ?_ _) | (with_reducible refine Kd.C_drewN ?_ _) | (with_reducible refine Kd.C_drew ?_))); (case side2 => exact (Kd.R_reads' HO_223001.out).2.1); (case side3 => repeat (first | exact (Kd.R_reads' HO_212001.out).2.2 | (with_reducible refine Kd.C_alloc ?_ _) | (with_reducible refine Kd.C_drewN ?_ _) | (with_reducible refine Kd.C_drew ?_))); (case side4 => exact (Kd.R_reads' HO_212001.out).2.1); rintro e w91 ⟨rfl, hb⟩; have n0_ := Aside0.mk (Kd.R_below (by (with_reducible repeat (first | apply Kd.R_alloc | apply Kd.R_drewN | apply Kd.R_drew)); exact HO_212001.out) hb); have n1_ := Aside0.mk (Kd.R_below (by (with_reducible repeat (first | apply Kd.R_alloc | apply Kd.R_drewN | apply Kd.R_drew)); exact HO_217001.out) hb); have n2_ := Aside0.mk (Kd.R_below (by (with_reducible repeat (first | apply Kd.R_alloc | apply Kd.R_drewN | apply Kd.R_drew)); exact HO_223001.out) hb); have n3_ := Aside0.mk (Kd.R_below (by (with_reducible repeat (first | apply Kd.R_alloc | apply Kd.R_drewN | apply Kd.R_drew)); exact HO227.out) hb); have n4_ := Aside0.mk (blk_below (g := gb200) (o := .cells #[.int .i64 a0_0, .slice A0_1 l0_1.length c0_1] 34 (0, 0)) (by (with_reducible repeat (first | refine blk_drewN ?_ _ | refine blk_drew ?_ | refine blk_alloc ?_ _)); exact BK200.out) hb); have n5_ := Aside0.mk (blk_below (g := gb211) (o := .cells #[.int .i64 t206, .slice Ao25 t207.length co25] 25 (0, 0)) (by (with_reducible repeat (first | refine blk_drewN ?_ _ | refine blk_drew ?_ | refine blk_alloc ?_ _)); exact BK211.out) hb); have n6_ := Aside0.mk (blk_below (g := gb216) (o := .cells #[.int .i64 t212, .slice Ao32 t213.length co32] 25 (0, 0)) (by (with_reducible repeat (first | refine blk_drewN ?_ _ | refine blk_drew ?_ | refine blk_alloc ?_ _)); exact BK216.out) hb); have n7_ := Aside0.mk (blk_below (g := gb222) (o := .cells #[.int .i64 t217, .slice Ao39 t218.length co39] 25 (0, 0)) (by (with_reducible repeat (first | refine blk_drewN ?_ _ | refine blk_drew ?_ | refine blk_alloc ?_ _)); exact BK222.out) hb); have n8_ := Aside0.mk (below_step (by repeat (first | (with_reducible first | exact HB.out | apply bwA | apply bwN | apply bwD | refine below_set ?_ GE200.out | refine below_set ?_ GE211.out | refine below_set ?_ GE216.out | refine below_set ?_ GE222.out) | exact HB.out)) hb); clear HO_212001; clear HO_217001; clear HO_223001; clear HO227; clear BK200; clear BK211; clear BK216; clear BK222; clear HB; have HO_212001 := n0_; have HO_217001 := n1_; have HO_223001 := n2_; have HO227 := n3_; have BK200 := n4_; have BK211 := n5_; have BK216 := n6_; have BK222 := n7_; have HB := n8_; clear n0_ n1_ n2_ n3_ n4_ n5_ n6_ n7_ n8_; (try clear hb); (try clear hb2); (try clear hk); (try clear hi)))
         go_meet
         case rel => exact ⟨_, (true), (by first | rfl | (simp; done) | (simp [*]; done)), H', ⟨by have := HJ13.out; first | omega | exact Nat.le_refl _⟩, ⟨by (with_reducible repeat (first | apply Kd.R_alloc | apply Kd.R_drewN | apply Kd.R_drew)); exact Kd.R_mono HO_212001.out (fun _ hk => ⟨hk.1, hk.2.1⟩)⟩, ⟨by (with_reducible repeat (first | apply Kd.R_alloc | apply Kd.R_drewN | apply Kd.R_drew)); exact Kd.R_mono HO_217001.out (fun _ hk => ⟨hk.1.1, hk.1.2⟩)⟩, ⟨by (with_reducible repeat (first | apply Kd.R_alloc | apply Kd.R_drewN | apply Kd.R_drew)); exact Kd.R_mono HO_223001.out (fun _ hk => ⟨hk.1, hk.2.1⟩)⟩, ⟨by (with_reducible repeat (first | refine blk_drewN ?_ _ | refine blk_drew ?_ | refine blk_alloc ?_ _)); exact BK200.out⟩, ⟨by (with_reducible repeat (first | refine blk_drewN ?_ _ | refine blk_drew ?_ | refine blk_alloc ?_ _)); exact BK211.out⟩, ⟨by (with_reducible repeat (first | refine blk_drewN ?_ _ | refine blk_drew ?_ | refine blk_alloc ?_ _)); exact BK216.out⟩, ⟨by (with_reducible repeat (first | refine blk_drewN ?_ _ | refine blk_drew ?_ | refine blk_alloc ?_ _)); exact BK222.out⟩, ⟨by repeat (first | (with_reducible first | exact HB.out | apply bwA | apply bwN | apply bwD | refine below_set ?_ GE200.out | refine below_set ?_ GE211.out | refine below_set ?_ GE216.out | refine below_set ?_ GE222.out) | exact HB.out)⟩⟩
      case rest =>
       clear HC63
       try clear c1
       try clear c2
       try clear p2
       try clear c3
       try clear c4
       try clear c5
       try clear c6
       try clear c6b0
       try clear c7
       try clear c8
       try clear c16
       try clear c18
       try clear c19
       try clear c20
       try clear c21
       try clear c22
       try clear c23
       try clear c29
       try clear c30
       try clear c35
       try clear c36
       try clear c37
       try clear c41
       try clear c42
       try clear c43
       try clear c44
       try clear c46
       try clear c47
       try clear c50
       try clear c51
       try clear c52
       try clear c54
       try clear c55
       try clear c58
       try clear c61
       try clear c68
       try clear c69
       try clear c70
       try clear c73
       try clear c73b0
       try clear c75
       try clear c76
       try clear c77
       try clear c78
       try clear c80
       try clear c81
       try clear c84
       try clear c85
       try clear c86
       try clear c88
       try clear c89
       try clear hcz16_0
       try clear hcz16_1
       try clear hcz18_0
       try clear hcz18_1
       try clear hcz24_0
       try clear hcz24_1
       try clear hcz26_0
       try clear hcz26_1
       try clear hcz31_0
       try clear hcz31_1
       try clear hcz38_0
       try clear hcz38_1
       try clear hcz45_0
       try clear hcz45_1
       try clear hcz48_0
       try clear hcz48_1
       try clear hcz53_0
       try clear hcz53_1
       try clear hcz56_0
       try clear hcz56_1
       try clear hcz71_0
       try clear hcz71_1
       try clear hcz79_0
       try clear hcz79_1
       try clear hcz82_0
       try clear hcz82_1
       try clear hcz87_0
       try clear hcz87_1
       try clear hcz8_0
       try clear hcz8_1
       try clear hcz90_0
       try clear hcz90_1
       try clear hfz16_0
       try clear hfz16_1
       try clear hfz18_0
       try clear hfz18_1
       try clear hfz24_0
       try clear hfz24_1
       try clear hfz26_0
       try clear hfz26_1
       try clear hfz31_0
       try clear hfz31_1
       try clear hfz38_0
       try clear hfz38_1
       try clear hfz45_0
       try clear hfz45_1
       try clear hfz48_0
       try clear hfz48_1
       try clear hfz53_0
       try clear hfz53_1
       try clear hfz56_0
       try clear hfz56_1
       try clear hfz71_0
       try clear hfz71_1
       try clear hfz79_0
       try clear hfz79_1
       try clear hfz82_0
       try clear hfz82_1
       try clear hfz87_0
       try clear hfz87_1
       try clear hfz8_0
       try clear hfz8_1
       try clear hfz90_0
       try clear hfz90_1
       try clear p2
       obtain ⟨kq, x73_62, rfl, HA, HJ62, HO_212001, HO_217001, HO_223001, BK200, BK211, BK216, BK222, HB⟩ := hcut
       have hl217001_62 := (Kd.R_reads' HO_217001.out).1
       rw [hl217001_62] at HO_217001
       (try simp only [hl217001_62])
       (try simp only [hl217001_62] at BK200)
       (try simp only [hl217001_62] at BK211)
       (try simp only [hl217001_62] at BK216)
       (try simp only [hl217001_62] at BK222)
       (try simp only [hl217001_62] at HO_212001)
       (try simp only [hl217001_62] at HO_223001)
       cases kq with
       | zero => exact absurd HA.out (by simp [laws_FnExactDiagramFix.j1])
       | succ kj62 =>
        have H := HA.out
        clear HA
        simp only [laws_FnExactDiagramFix.j1] at H
        by_cases c92 : x73_62 = true
        ·subst c92
         have H1 : (some false) = some r := by rw [if_pos rfl] at H; exact H
         clear H
         have H := H1
         clear H1
         obtain rfl := Option.some.inj H
         go_wp2
         go_ret
         exact ⟨by first | rfl | (simp [errW_none, errW_some] <;> rfl) | (simp [*, errW_none, errW_some] <;> rfl), by repeat (first | (with_reducible first | exact HB.out | apply bwA | apply bwN | apply bwD | refine below_set ?_ GE200.out | refine below_set ?_ GE211.out | refine below_set ?_ GE216.out | refine below_set ?_ GE222.out) | exact HB.out)⟩
        ·replace c92 := Bool.eq_false_iff.mpr c92
         subst c92
         have H1 : ((laws_markDiagram.f kj62 t217 t218 1).bind fun bt232 => ((laws_heldDiagram.f kj62 t217 bt232.2 1).bind fun t234 => (if t234 < 0 then (some false) else (if t234 = bt232.1 then ((laws_toDiagram.f kj62 a0_0 l0_1).bind fun bt235 => ((impl_DiagramFix.f kj62 bt235.1 bt235.2 a1 a2 a3).bind fun bt239 => ((laws_eqDiagram.f kj62 bt239.1 bt239.2.1 t206 t207).bind fun t245 => (if t245 = true then (laws_FnExactDiagramFix.j2 kj62 bt232.1 (bt239.2.2 != t210) t217 bt232.2) else (laws_FnExactDiagramFix.j2 kj62 bt232.1 true t217 bt232.2))))) else (some false))))) = some r := by rw [if_neg (show ¬ (false = true) by decide)] at H; exact H
         clear H
         have H := H1
         clear H1
         replace H := Option.bind_eq_some_iff.mp H
         obtain ⟨⟨t232, t233⟩, A930, H⟩ := H
         replace H : ((laws_heldDiagram.f kj62 t217 t233 1).bind fun t234 => (if t234 < 0 then (some false) else (if t234 = t232 then ((laws_toDiagram.f kj62 a0_0 l0_1).bind fun bt235 => ((impl_DiagramFix.f kj62 bt235.1 bt235.2 a1 a2 a3).bind fun bt239 => ((laws_eqDiagram.f kj62 bt239.1 bt239.2.1 t206 t207).bind fun t245 => (if t245 = true then (laws_FnExactDiagramFix.j2 kj62 t232 (bt239.2.2 != t210) t217 t233) else (laws_FnExactDiagramFix.j2 kj62 t232 true t217 t233))))) else (some false)))) = some r := H
         have A93 := Aside0.mk A930
         clear A930
         replace H := Option.bind_eq_some_iff.mp H
         obtain ⟨t234, A940, H⟩ := H
         replace H : (if t234 < 0 then (some false) else (if t234 = t232 then ((laws_toDiagram.f kj62 a0_0 l0_1).bind fun bt235 => ((impl_DiagramFix.f kj62 bt235.1 bt235.2 a1 a2 a3).bind fun bt239 => ((laws_eqDiagram.f kj62 bt239.1 bt239.2.1 t206 t207).bind fun t245 => (if t245 = true then (laws_FnExactDiagramFix.j2 kj62 t232 (bt239.2.2 != t210) t217 t233) else (laws_FnExactDiagramFix.j2 kj62 t232 true t217 t233))))) else (some false))) = some r := H
         have A94 := Aside0.mk A940
         clear A940
         by_cases c95 : t234 < 0
         ·rw [if_pos c95] at H
          have c95b0 : decide (t234 < 0) = true := decide_eq_true c95
          clear c95
          obtain rfl := Option.some.inj H
          have hnb96 := NB222_200.out
          have hnc96 := NB200_222.out
          have hnb97 := NB222_211.out
          have hnc97 := NB211_222.out
          have hnb98 := NB222_216.out
          have hnc98 := NB216_222.out
          have hcz99_0 : wc.cell? ⟨gb222, 0, none⟩ = some (.int .i64 t217) := (blk_cell BK222.out 0).trans rfl
          have hcz99_1 : wc.cell? ⟨gb222, 1, none⟩ = some (.slice Ao39 t218.length co39) := (blk_cell BK222.out 1).trans rfl
          have hfz99_0 := blk_frozen BK222.out 0
          have hfz99_1 := blk_frozen BK222.out 1
          go_wp2_with (first | ((with_reducible refine gate_callee (f := 22) rfl ?_); refine goesL_ (some 76) rfl rfl Try.func22 (by kernel_rfl) rfl #[.agg #[.int .i64 t217, .slice Ao39 t218.length co39], .int .i64 1] rfl (by (try simp only [List.map_toArray, List.map_cons, List.map_nil]); first | done | rfl | (simp only [List.length_drop, List.length_take]; rfl)) ?_; (with_reducible refine (laws_markDiagram.calls kj62 t217 (fun k_ => some k_ = (.slice Ao39 t218.length co39 : Value).ownBlock) (.slice Ao39 t218.length co39) t218 1 t232 t233 w _ ?side1 ?side2 A93.out).mono ?_); (case side1 => repeat (first | (with_reducible first | exact HB.out | apply bwA | apply bwN | apply bwD | refine below_set ?_ GE200.out | refine below_set ?_ GE211.out | refine below_set ?_ GE216.out | refine below_set ?_ GE222.out) | exact HB.out)); (case side2 => exact Kd.R_tight rfl HO_223001.out); rintro e w100 ⟨rfl, hy0, hb, hkp⟩; refine ⟨_, rfl, ?_⟩; have n0_ := Aside0.mk (Kd.R_mono (ok' := fun k_ => some k_ ≠ (.slice Ao32 t230.length co32 : Value).ownBlock ∧ some k_ ≠ (.slice Ao39 t218.length co39 : Value).ownBlock) (Kd.R_keptB (HO_212001.out) hkp (fun k_ hk_ hs_ => (hk_.2) hs_)) (fun k_ hk_ => ⟨hk_.1.1, hk_.1.2⟩)); have n1_ := Aside0.mk (Kd.R_mono (ok' := fun k_ => some k_ ≠ (.slice Ao25 t207.length co25 : Value).ownBlock ∧ some k_ ≠ (.slice Ao39 t218.length co39 : Value).ownBlock) (Kd.R_keptB (HO_217001.out) hkp (fun k_ hk_ hs_ => (hk_.2) hs_)) (fun k_ hk_ => ⟨hk_.1.1, hk_.1.2⟩)); have n2_ := Aside0.mk (Kd.R_reok rfl hy0 (fun k_ e_ => HO_223001.out.1 k_ e_)); have n3_ := Aside0.mk (blk_kept (by (with_reducible repeat (first | refine blk_drewN ?_ _ | refine blk_drew ?_ | refine blk_alloc ?_ _)); exact BK200.out) hkp (fun hs_ => (fun e_ => (Kd.R_ne HO_223001.out BK200.out (by decide)) e_) hs_)); have n4_ := Aside0.mk (blk_kept (by (with_reducible repeat (first | refine blk_drewN ?_ _ | refine blk_drew ?_ | refine blk_alloc ?_ _)); exact BK211.out) hkp (fun hs_ => (fun e_ => (Kd.R_ne HO_223001.out BK211.out (by decide)) e_) hs_)); have n5_ := Aside0.mk (blk_kept (by (with_reducible repeat (first | refine blk_drewN ?_ _ | refine blk_drew ?_ | refine blk_alloc ?_ _)); exact BK216.out) hkp (fun hs_ => (fun e_ => (Kd.R_ne HO_223001.out BK216.out (by decide)) e_) hs_)); have n6_ := Aside0.mk (blk_kept (by (with_reducible repeat (first | refine blk_drewN ?_ _ | refine blk_drew ?_ | refine blk_alloc ?_ _)); exact BK222.out) hkp (fun hs_ => (fun e_ => (Kd.R_ne HO_223001.out BK222.out (by decide)) e_) hs_)); have n7_ := Aside0.mk (hb); clear HO_212001; clear HO_217001; clear HO_223001; clear BK200; clear BK211; clear BK216; clear BK222; clear HB; have HO_212001 := n0_; have HO_217001 := n1_; have HO_223001 := n2_; have BK200 := n3_; have BK211 := n4_; have BK216 := n5_; have BK222 := n6_; have HB := n7_; clear n0_ n1_ n2_ n3_ n4_ n5_ n6_ n7_; (try clear hb); (try clear hkp); (try clear hy0); have hcz101_0 : w100.cell? ⟨gb222, 0, none⟩ = some (.int .i64 t217) := (blk_cell BK222.out 0).trans rfl; have hcz101_1 : w100.cell? ⟨gb222, 1, none⟩ = some (.slice Ao39 t218.length co39) := (blk_cell BK222.out 1).trans rfl; have hfz101_0 := blk_frozen BK222.out 0; have hfz101_1 := blk_frozen BK222.out 1) | ((with_reducible refine gate_callee (f := 23) rfl ?_); refine goesL_ (some 79) rfl rfl Try.func23 (by kernel_rfl) rfl #[.agg #[.int .i64 t217, .slice Ao39 t233.length co39], .int .i64 1] rfl (by (try simp only [List.map_toArray, List.map_cons, List.map_nil]); first | done | (rw [show t233.length = t218.length from (Kd.R_reads' HO_223001.out).1.symm] <;> rfl) | rfl | (simp only [List.length_drop, List.length_take]; rfl)) ?_; (with_reducible refine (laws_heldDiagram.calls kj62 t217 _ _ t233 1 t234 _ ?side1 ?side2 A94.out).mono ?_); (case side1 => repeat (first | exact (Kd.R_reads' HO_223001.out).2.2 | (with_reducible refine Kd.C_alloc ?_ _) | (with_reducible refine Kd.C_drewN ?_ _) | (with_reducible refine Kd.C_drew ?_))); (case side2 => rw [show t233.length = t218.length from (Kd.R_reads' HO_223001.out).1.symm]; exact (Kd.R_reads' HO_223001.out).2.1); rintro e w102 ⟨rfl, hb⟩; refine ⟨_, rfl, ?_⟩; have n0_ := Aside0.mk (Kd.R_below (by (with_reducible repeat (first | apply Kd.R_alloc | apply Kd.R_drewN | apply Kd.R_drew)); exact HO_212001.out) hb); have n1_ := Aside0.mk (Kd.R_below (by (with_reducible repeat (first | apply Kd.R_alloc | apply Kd.R_drewN | apply Kd.R_drew)); exact HO_217001.out) hb); have n2_ := Aside0.mk (Kd.R_below (by (with_reducible repeat (first | apply Kd.R_alloc | apply Kd.R_drewN | apply Kd.R_drew)); exact HO_223001.out) hb); have n3_ := Aside0.mk (blk_below (g := gb200) (o := .cells #[.int .i64 a0_0, .slice A0_1 l0_1.length c0_1] 34 (0, 0)) (by (with_reducible repeat (first | refine blk_drewN ?_ _ | refine blk_drew ?_ | refine blk_alloc ?_ _)); exact BK200.out) hb); have n4_ := Aside0.mk (blk_below (g := gb211) (o := .cells #[.int .i64 t206, .slice Ao25 t207.length co25] 25 (0, 0)) (by (with_reducible repeat (first | refine blk_drewN ?_ _ | refine blk_drew ?_ | refine blk_alloc ?_ _)); exact BK211.out) hb); have n5_ := Aside0.mk (blk_below (g := gb216) (o := .cells #[.int .i64 t212, .slice Ao32 t230.length co32] 25 (0, 0)) (by (with_reducible repeat (first | refine blk_drewN ?_ _ | refine blk_drew ?_ | refine blk_alloc ?_ _)); exact BK216.out) hb); have n6_ := Aside0.mk (blk_below (g := gb222) (o := .cells #[.int .i64 t217, .slice Ao39 t218.length co39] 25 (0, 0)) (by (with_reducible repeat (first | refine blk_drewN ?_ _ | refine blk_drew ?_ | refine blk_alloc ?_ _)); exact BK222.out) hb); have n7_ := Aside0.mk (below_step (by repeat (first | (with_reducible first | exact HB.out | apply bwA | apply bwN | apply bwD | refine below_set ?_ GE200.out | refine below_set ?_ GE211.out | refine below_set ?_ GE216.out | refine below_set ?_ GE222.out) | exact HB.out)) hb); clear HO_212001; clear HO_217001; clear HO_223001; clear BK200; clear BK211; clear BK216; clear BK222; clear HB; have HO_212001 := n0_; have HO_217001 := n1_; have HO_223001 := n2_; have BK200 := n3_; have BK211 := n4_; have BK216 := n5_; have BK222 := n6_; have HB := n7_; clear n0_ n1_ n2_ n3_ n4_ n5_ n6_ n7_; (try clear hb); (try clear hb2); (try clear hk); (try clear hi)))
          go_ret
          exact ⟨by first | rfl | (simp [errW_none, errW_some] <;> rfl) | (simp [*, errW_none, errW_some] <;> rfl), by repeat (first | (with_reducible first | exact HB.out | apply bwA | apply bwN | apply bwD | refine below_set ?_ GE200.out | refine below_set ?_ GE211.out | refine below_set ?_ GE216.out | refine below_set ?_ GE222.out) | exact HB.out)⟩
         ·rw [if_neg c95] at H
          have c95b0 : decide (t234 < 0) = false := decide_eq_false c95
          clear c95
          by_cases c103 : t234 = t232
          ·rw [if_pos c103] at H
           have c103b0 : (t234 == t232) = true := beq_iff_eq.mpr c103
           have c103b1 : (t234 != t232) = false := bne_eq_false_iff_eq.mpr c103
           clear c103
           replace H := Option.bind_eq_some_iff.mp H
           obtain ⟨⟨t235, t236⟩, A1040, H⟩ := H
           replace H : ((impl_DiagramFix.f kj62 t235 t236 a1 a2 a3).bind fun bt239 => ((laws_eqDiagram.f kj62 bt239.1 bt239.2.1 t206 t207).bind fun t245 => (if t245 = true then (laws_FnExactDiagramFix.j2 kj62 t232 (bt239.2.2 != t210) t217 t233) else (laws_FnExactDiagramFix.j2 kj62 t232 true t217 t233)))) = some r := H
           have A104 := Aside0.mk A1040
           clear A1040
           replace H := Option.bind_eq_some_iff.mp H
           obtain ⟨⟨t239, t240, t243⟩, A1050, H⟩ := H
           replace H : ((laws_eqDiagram.f kj62 t239 t240 t206 t207).bind fun t245 => (if t245 = true then (laws_FnExactDiagramFix.j2 kj62 t232 (t243 != t210) t217 t233) else (laws_FnExactDiagramFix.j2 kj62 t232 true t217 t233))) = some r := H
           have A105 := Aside0.mk A1050
           clear A1050
           have HC106 := Aside0.mk H
           clear H
           have hnb107 := NB222_200.out
           have hnc107 := NB200_222.out
           have hnb108 := NB222_211.out
           have hnc108 := NB211_222.out
           have hnb109 := NB222_216.out
           have hnc109 := NB216_222.out
           have hcz110_0 : wc.cell? ⟨gb222, 0, none⟩ = some (.int .i64 t217) := (blk_cell BK222.out 0).trans rfl
           have hcz110_1 : wc.cell? ⟨gb222, 1, none⟩ = some (.slice Ao39 t218.length co39) := (blk_cell BK222.out 1).trans rfl
           have hfz110_0 := blk_frozen BK222.out 0
           have hfz110_1 := blk_frozen BK222.out 1
           go_upto_region 25 with (first | ((with_reducible refine gate_callee (f := 22) rfl ?_); refine goesL_ (some 76) rfl rfl Try.func22 (by kernel_rfl) rfl #[.agg #[.int .i64 t217, .slice Ao39 t218.length co39], .int .i64 1] rfl (by (try simp only [List.map_toArray, List.map_cons, List.map_nil]); first | done | rfl | (simp only [List.length_drop, List.length_take]; rfl)) ?_; (with_reducible refine (laws_markDiagram.calls kj62 t217 (fun k_ => some k_ = (.slice Ao39 t218.length co39 : Value).ownBlock) (.slice Ao39 t218.length co39) t218 1 t232 t233 w _ ?side1 ?side2 A93.out).mono ?_); (case side1 => repeat (first | (with_reducible first | exact HB.out | apply bwA | apply bwN | apply bwD | refine below_set ?_ GE200.out | refine below_set ?_ GE211.out | refine below_set ?_ GE216.out | refine below_set ?_ GE222.out) | exact HB.out)); (case side2 => exact Kd.R_tight rfl HO_223001.out); rintro e w111 ⟨rfl, hy0, hb, hkp⟩; refine ⟨_, rfl, ?_⟩; have n0_ := Aside0.mk (Kd.R_mono (ok' := fun k_ => some k_ ≠ (.slice Ao32 t230.length co32 : Value).ownBlock ∧ some k_ ≠ (.slice Ao39 t218.length co39 : Value).ownBlock) (Kd.R_keptB (HO_212001.out) hkp (fun k_ hk_ hs_ => (hk_.2) hs_)) (fun k_ hk_ => ⟨hk_.1.1, hk_.1.2⟩)); have n1_ := Aside0.mk (Kd.R_mono (ok' := fun k_ => some k_ ≠ (.slice Ao25 t207.length co25 : Value).ownBlock ∧ some k_ ≠ (.slice Ao39 t218.length co39 : Value).ownBlock) (Kd.R_keptB (HO_217001.out) hkp (fun k_ hk_ hs_ => (hk_.2) hs_)) (fun k_ hk_ => ⟨hk_.1.1, hk_.1.2⟩)); have n2_ := Aside0.mk (Kd.R_reok rfl hy0 (fun k_ e_ => HO_223001.out.1 k_ e_)); have n3_ := Aside0.mk (blk_kept (by (with_reducible repeat (first | refine blk_drewN ?_ _ | refine blk_drew ?_ | refine blk_alloc ?_ _)); exact BK200.out) hkp (fun hs_ => (fun e_ => (Kd.R_ne HO_223001.out BK200.out (by decide)) e_) hs_)); have n4_ := Aside0.mk (blk_kept (by (with_reducible repeat (first | refine blk_drewN ?_ _ | refine blk_drew ?_ | refine blk_alloc ?_ _)); exact BK211.out) hkp (fun hs_ => (fun e_ => (Kd.R_ne HO_223001.out BK211.out (by decide)) e_) hs_)); have n5_ := Aside0.mk (blk_kept (by (with_reducible repeat (first | refine blk_drewN ?_ _ | refine blk_drew ?_ | refine blk_alloc ?_ _)); exact BK216.out) hkp (fun hs_ => (fun e_ => (Kd.R_ne HO_223001.out BK216.out (by decide)) e_) hs_)); have n6_ := Aside0.mk (blk_kept (by (with_reducible repeat (first | refine blk_drewN ?_ _ | refine blk_drew ?_ | refine blk_alloc ?_ _)); exact BK222.out) hkp (fun hs_ => (fun e_ => (Kd.R_ne HO_223001.out BK222.out (by decide)) e_) hs_)); have n7_ := Aside0.mk (hb); clear HO_212001; clear HO_217001; clear HO_223001; clear BK200; clear BK211; clear BK216; clear BK222; clear HB; have HO_212001 := n0_; have HO_217001 := n1_; have HO_223001 := n2_; have BK200 := n3_; have BK211 := n4_; have BK216 := n5_; have BK222 := n6_; have HB := n7_; clear n0_ n1_ n2_ n3_ n4_ n5_ n6_ n7_; (try clear hb); (try clear hkp); (try clear hy0); have hcz112_0 : w111.cell? ⟨gb222, 0, none⟩ = some (.int .i64 t217) := (blk_cell BK222.out 0).trans rfl; have hcz112_1 : w111.cell? ⟨gb222, 1, none⟩ = some (.slice Ao39 t218.length co39) := (blk_cell BK222.out 1).trans rfl; have hfz112_0 := blk_frozen BK222.out 0; have hfz112_1 := blk_frozen BK222.out 1) | ((with_reducible refine gate_callee (f := 23) rfl ?_); refine goesL_ (some 79) rfl rfl Try.func23 (by kernel_rfl) rfl #[.agg #[.int .i64 t217, .slice Ao39 t233.length co39], .int .i64 1] rfl (by (try simp only [List.map_toArray, List.map_cons, List.map_nil]); first | done | (rw [show t233.length = t218.length from (Kd.R_reads' HO_223001.out).1.symm] <;> rfl) | rfl | (simp only [List.length_drop, List.length_take]; rfl)) ?_; (with_reducible refine (laws_heldDiagram.calls kj62 t217 _ _ t233 1 t234 _ ?side1 ?side2 A94.out).mono ?_); (case side1 => repeat (first | exact (Kd.R_reads' HO_223001.out).2.2 | (with_reducible refine Kd.C_alloc ?_ _) | (with_reducible refine Kd.C_drewN ?_ _) | (with_reducible refine Kd.C_drew ?_))); (case side2 => rw [show t233.length = t218.length from (Kd.R_reads' HO_223001.out).1.symm]; exact (Kd.R_reads' HO_223001.out).2.1); rintro e w113 ⟨rfl, hb⟩; refine ⟨_, rfl, ?_⟩; have n0_ := Aside0.mk (Kd.R_below (by (with_reducible repeat (first | apply Kd.R_alloc | apply Kd.R_drewN | apply Kd.R_drew)); exact HO_212001.out) hb); have n1_ := Aside0.mk (Kd.R_below (by (with_reducible repeat (first | apply Kd.R_alloc | apply Kd.R_drewN | apply Kd.R_drew)); exact HO_217001.out) hb); have n2_ := Aside0.mk (Kd.R_below (by (with_reducible repeat (first | apply Kd.R_alloc | apply Kd.R_drewN | apply Kd.R_drew)); exact HO_223001.out) hb); have n3_ := Aside0.mk (blk_below (g := gb200) (o := .cells #[.int .i64 a0_0, .slice A0_1 l0_1.length c0_1] 34 (0, 0)) (by (with_reducible repeat (first | refine blk_drewN ?_ _ | refine blk_drew ?_ | refine blk_alloc ?_ _)); exact BK200.out) hb); have n4_ := Aside0.mk (blk_below (g := gb211) (o := .cells #[.int .i64 t206, .slice Ao25 t207.length co25] 25 (0, 0)) (by (with_reducible repeat (first | refine blk_drewN ?_ _ | refine blk_drew ?_ | refine blk_alloc ?_ _)); exact BK211.out) hb); have n5_ := Aside0.mk (blk_below (g := gb216) (o := .cells #[.int .i64 t212, .slice Ao32 t230.length co32] 25 (0, 0)) (by (with_reducible repeat (first | refine blk_drewN ?_ _ | refine blk_drew ?_ | refine blk_alloc ?_ _)); exact BK216.out) hb); have n6_ := Aside0.mk (blk_below (g := gb222) (o := .cells #[.int .i64 t217, .slice Ao39 t218.length co39] 25 (0, 0)) (by (with_reducible repeat (first | refine blk_drewN ?_ _ | refine blk_drew ?_ | refine blk_alloc ?_ _)); exact BK222.out) hb); have n7_ := Aside0.mk (below_step (by repeat (first | (with_reducible first | exact HB.out | apply bwA | apply bwN | apply bwD | refine below_set ?_ GE200.out | refine below_set ?_ GE211.out | refine below_set ?_ GE216.out | refine below_set ?_ GE222.out) | exact HB.out)) hb); clear HO_212001; clear HO_217001; clear HO_223001; clear BK200; clear BK211; clear BK216; clear BK222; clear HB; have HO_212001 := n0_; have HO_217001 := n1_; have HO_223001 := n2_; have BK200 := n3_; have BK211 := n4_; have BK216 := n5_; have BK222 := n6_; have HB := n7_; clear n0_ n1_ n2_ n3_ n4_ n5_ n6_ n7_; (try clear hb); (try clear hb2); (try clear hk); (try clear hi); have hnb114 := NB200_211.out; have hnc114 := NB211_200.out; have hnb115 := NB200_216.out; have hnc115 := NB216_200.out; have hcz116_0 : w113.cell? ⟨gb200, 0, none⟩ = some (.int .i64 a0_0) := (blk_cell BK200.out 0).trans rfl; have hcz116_1 : w113.cell? ⟨gb200, 1, none⟩ = some (.slice A0_1 l0_1.length c0_1) := (blk_cell BK200.out 1).trans rfl; have hfz116_0 := blk_frozen BK200.out 0; have hfz116_1 := blk_frozen BK200.out 1) | ((with_reducible refine gate_callee (f := 20) rfl ?_); refine goesL_ (some 87) rfl rfl Try.func20 (by kernel_rfl) rfl #[.agg #[.int .i64 a0_0, .slice A0_1 l0_1.length c0_1]] rfl (by (try simp only [List.map_toArray, List.map_cons, List.map_nil]); first | done | rfl | (simp only [List.length_drop, List.length_take]; rfl)) ?_; (with_reducible refine (laws_toDiagram.calls kj62 a0_0 _ _ l0_1 t235 t236 _ ?side1 ?side2 A104.out).mono ?_); (case side1 => repeat (first | exact (Kd.C_below HR0_1.out HB.out) | (with_reducible refine Kd.C_alloc ?_ _) | (with_reducible refine Kd.C_drewN ?_ _) | (with_reducible refine Kd.C_drew ?_))); (case side2 => exact HC0_1.out); rintro e w117 ⟨v237, rfl, ho0, hb⟩; refine ⟨_, rfl, ?_⟩; have n0_ := Aside0.mk (Kd.R_elder' (by (with_reducible repeat (first | apply Kd.R_alloc | apply Kd.R_drewN | apply Kd.R_drew)); exact HO_212001.out) (Kd.R_base ho0) hb); have n1_ := Aside0.mk (Kd.R_elder' (by (with_reducible repeat (first | apply Kd.R_alloc | apply Kd.R_drewN | apply Kd.R_drew)); exact HO_217001.out) (Kd.R_base ho0) hb); have n2_ := Aside0.mk (Kd.R_elder' (by (with_reducible repeat (first | apply Kd.R_alloc | apply Kd.R_drewN | apply Kd.R_drew)); exact HO_223001.out) (Kd.R_base ho0) hb); have n3_ := Aside0.mk (Kd.R_lower (Kd.R_new' (Kd.R_new' (Kd.R_new' ho0 (Kd.R_lt (by (with_reducible repeat (first | apply Kd.R_alloc | apply Kd.R_drewN | apply Kd.R_drew)); exact HO_212001.out))) (Kd.R_lt (by (with_reducible repeat (first | apply Kd.R_alloc | apply Kd.R_drewN | apply Kd.R_drew)); exact HO_217001.out))) (Kd.R_lt (by (with_reducible repeat (first | apply Kd.R_alloc | apply Kd.R_drewN | apply Kd.R_drew)); exact HO_223001.out))) (below_size (by repeat (first | (with_reducible first | exact HB.out | apply bwA | apply bwN | apply bwD | refine below_set ?_ GE200.out | refine below_set ?_ GE211.out | refine below_set ?_ GE216.out | refine below_set ?_ GE222.out) | exact HB.out)))); have n4_ := Aside0.mk (blk_below (g := gb200) (o := .cells #[.int .i64 a0_0, .slice A0_1 l0_1.length c0_1] 34 (0, 0)) (by (with_reducible repeat (first | refine blk_drewN ?_ _ | refine blk_drew ?_ | refine blk_alloc ?_ _)); exact BK200.out) hb); have n5_ := Aside0.mk (blk_below (g := gb211) (o := .cells #[.int .i64 t206, .slice Ao25 t207.length co25] 25 (0, 0)) (by (with_reducible repeat (first | refine blk_drewN ?_ _ | refine blk_drew ?_ | refine blk_alloc ?_ _)); exact BK211.out) hb); have n6_ := Aside0.mk (blk_below (g := gb216) (o := .cells #[.int .i64 t212, .slice Ao32 t230.length co32] 25 (0, 0)) (by (with_reducible repeat (first | refine blk_drewN ?_ _ | refine blk_drew ?_ | refine blk_alloc ?_ _)); exact BK216.out) hb); have n7_ := Aside0.mk (blk_below (g := gb222) (o := .cells #[.int .i64 t217, .slice Ao39 t218.length co39] 25 (0, 0)) (by (with_reducible repeat (first | refine blk_drewN ?_ _ | refine blk_drew ?_ | refine blk_alloc ?_ _)); exact BK222.out) hb); have n8_ := Aside0.mk (below_step (by repeat (first | (with_reducible first | exact HB.out | apply bwA | apply bwN | apply bwD | refine below_set ?_ GE200.out | refine below_set ?_ GE211.out | refine below_set ?_ GE216.out | refine below_set ?_ GE222.out) | exact HB.out)) hb); clear HO_212001; clear HO_217001; clear HO_223001; clear BK200; clear BK211; clear BK216; clear BK222; clear HB; have HO_212001 := n0_; have HO_217001 := n1_; have HO_223001 := n2_; have HO238 := n3_; have BK200 := n4_; have BK211 := n5_; have BK216 := n6_; have BK222 := n7_; have HB := n8_; clear n0_ n1_ n2_ n3_ n4_ n5_ n6_ n7_ n8_; (try clear hb); (try clear hb2); (try clear hk); (try clear hi); (try clear ho0); obtain ⟨Ao118, co118, eo118⟩ := Kd.R_slice HO238.out; subst eo118) | ((with_reducible refine gate_callee (f := 16) rfl ?_); refine goesL_ (some 91) rfl rfl Try.func16 (by kernel_rfl) rfl #[.agg #[.int .i64 t235, .slice Ao118 t236.length co118], .int .i64 a1, .int .i64 a2, .int .i64 a3] rfl (by (try simp only [List.map_toArray, List.map_cons, List.map_nil]); first | done | rfl | (simp only [List.length_drop, List.length_take]; rfl)) ?_; (with_reducible refine (impl_DiagramFix.calls kj62 t235 _ _ t236 a1 a2 a3 t239 t240 t243 _ ?side1 ?side2 A105.out).mono ?_); (case side1 => repeat (first | exact (Kd.R_reads' HO238.out).2.2 | (with_reducible refine Kd.C_alloc ?_ _) | (with_reducible refine Kd.C_drewN ?_ _) | (with_reducible refine Kd.C_drew ?_))); (case side2 => exact (Kd.R_reads' HO238.out).2.1); rintro e w119 ⟨v241, rfl, ho0, hb⟩; refine ⟨_, rfl, ?_⟩; have n0_ := Aside0.mk (Kd.R_elder' (by (with_reducible repeat (first | apply Kd.R_alloc | apply Kd.R_drewN | apply Kd.R_drew)); exact HO_212001.out) (Kd.R_base ho0) hb); have n1_ := Aside0.mk (Kd.R_elder' (by (with_reducible repeat (first | apply Kd.R_alloc | apply Kd.R_drewN | apply Kd.R_drew)); exact HO_217001.out) (Kd.R_base ho0) hb); have n2_ := Aside0.mk (Kd.R_elder' (by (with_reducible repeat (first | apply Kd.R_alloc | apply Kd.R_drewN | apply Kd.R_drew)); exact HO_223001.out) (Kd.R_base ho0) hb); have n3_ := Aside0.mk (Kd.R_elder' (by (with_reducible repeat (first | apply Kd.R_alloc | apply Kd.R_drewN | apply Kd.R_drew)); exact HO238.out) (Kd.R_base ho0) hb); have n4_ := Aside0.mk (Kd.R_lower (Kd.R_new' (Kd.R_new' (Kd.R_new' (Kd.R_new' ho0 (Kd.R_lt (by (with_reducible repeat (first | apply Kd.R_alloc | apply Kd.R_drewN | apply Kd.R_drew)); exact HO_212001.out))) (Kd.R_lt (by (with_reducible repeat (first | apply Kd.R_alloc | apply Kd.R_drewN | apply Kd.R_drew)); exact HO_217001.out))) (Kd.R_lt (by (with_reducible repeat (first | apply Kd.R_alloc | apply Kd.R_drewN | apply Kd.R_drew)); exact HO_223001.out))) (Kd.R_lt (by (with_reducible repeat (first | apply Kd.R_alloc | apply Kd.R_drewN | apply Kd.R_drew)); exact HO238.out))) (below_size (by repeat (first | (with_reducible first | exact HB.out | apply bwA | apply bwN | apply bwD | refine below_set ?_ GE200.out | refine below_set ?_ GE211.out | refine below_set ?_ GE216.out | refine below_set ?_ GE222.out) | exact HB.out)))); have n5_ := Aside0.mk (blk_below (g := gb200) (o := .cells #[.int .i64 a0_0, .slice A0_1 l0_1.length c0_1] 34 (0, 0)) (by (with_reducible repeat (first | refine blk_drewN ?_ _ | refine blk_drew ?_ | refine blk_alloc ?_ _)); exact BK200.out) hb); have n6_ := Aside0.mk (blk_below (g := gb211) (o := .cells #[.int .i64 t206, .slice Ao25 t207.length co25] 25 (0, 0)) (by (with_reducible repeat (first | refine blk_drewN ?_ _ | refine blk_drew ?_ | refine blk_alloc ?_ _)); exact BK211.out) hb); have n7_ := Aside0.mk (blk_below (g := gb216) (o := .cells #[.int .i64 t212, .slice Ao32 t230.length co32] 25 (0, 0)) (by (with_reducible repeat (first | refine blk_drewN ?_ _ | refine blk_drew ?_ | refine blk_alloc ?_ _)); exact BK216.out) hb); have n8_ := Aside0.mk (blk_below (g := gb222) (o := .cells #[.int .i64 t217, .slice Ao39 t218.length co39] 25 (0, 0)) (by (with_reducible repeat (first | refine blk_drewN ?_ _ | refine blk_drew ?_ | refine blk_alloc ?_ _)); exact BK222.out) hb); have n9_ := Aside0.mk (below_step (by repeat (first | (with_reducible first | exact HB.out | apply bwA | apply bwN | apply bwD | refine below_set ?_ GE200.out | refine below_set ?_ GE211.out | refine below_set ?_ GE216.out | refine below_set ?_ GE222.out) | exact HB.out)) hb); clear HO_212001; clear HO_217001; clear HO_223001; clear HO238; clear BK200; clear BK211; clear BK216; clear BK222; clear HB; have HO_212001 := n0_; have HO_217001 := n1_; have HO_223001 := n2_; have HO238 := n3_; have HO242 := n4_; have BK200 := n5_; have BK211 := n6_; have BK216 := n7_; have BK222 := n8_; have HB := n9_; clear n0_ n1_ n2_ n3_ n4_ n5_ n6_ n7_ n8_ n9_; (try clear hb); (try clear hb2); (try clear hk); (try clear hi); (try clear ho0)) | ((with_reducible refine gate_dst (N := 18) rfl ?_); refine box_event ?hg (N := 18) ?hd (cs := #[.int .i64 0, .slice none 0 0]) (t := 25) ?hr ?_; (case hd => rfl); (case hg => rfl); (case hr => first | (go_simp; done) | (go_simp; rfl)); intro gb244 hg w120 hbox hb; have n0_ := Aside0.mk (Kd.R_below (by (with_reducible repeat (first | apply Kd.R_alloc | apply Kd.R_drewN | apply Kd.R_drew)); exact HO_212001.out) hb); have n1_ := Aside0.mk (Kd.R_below (by (with_reducible repeat (first | apply Kd.R_alloc | apply Kd.R_drewN | apply Kd.R_drew)); exact HO_217001.out) hb); have n2_ := Aside0.mk (Kd.R_below (by (with_reducible repeat (first | apply Kd.R_alloc | apply Kd.R_drewN | apply Kd.R_drew)); exact HO_223001.out) hb); have n3_ := Aside0.mk (Kd.R_below (by (with_reducible repeat (first | apply Kd.R_alloc | apply Kd.R_drewN | apply Kd.R_drew)); exact HO238.out) hb); have n4_ := Aside0.mk (Kd.R_below (by (with_reducible repeat (first | apply Kd.R_alloc | apply Kd.R_drewN | apply Kd.R_drew)); exact HO242.out) hb); have n5_ := Aside0.mk (blk_below (g := gb200) (o := .cells #[.int .i64 a0_0, .slice A0_1 l0_1.length c0_1] 34 (0, 0)) (by (with_reducible repeat (first | refine blk_drewN ?_ _ | refine blk_drew ?_ | refine blk_alloc ?_ _)); exact BK200.out) hb); have n6_ := Aside0.mk (blk_below (g := gb211) (o := .cells #[.int .i64 t206, .slice Ao25 t207.length co25] 25 (0, 0)) (by (with_reducible repeat (first | refine blk_drewN ?_ _ | refine blk_drew ?_ | refine blk_alloc ?_ _)); exact BK211.out) hb); have n7_ := Aside0.mk (blk_below (g := gb216) (o := .cells #[.int .i64 t212, .slice Ao32 t230.length co32] 25 (0, 0)) (by (with_reducible repeat (first | refine blk_drewN ?_ _ | refine blk_drew ?_ | refine blk_alloc ?_ _)); exact BK216.out) hb); have n8_ := Aside0.mk (blk_below (g := gb222) (o := .cells #[.int .i64 t217, .slice Ao39 t218.length co39] 25 (0, 0)) (by (with_reducible repeat (first | refine blk_drewN ?_ _ | refine blk_drew ?_ | refine blk_alloc ?_ _)); exact BK222.out) hb); have n9_ := Aside0.mk (below_step (by repeat (first | (with_reducible first | exact HB.out | apply bwA | apply bwN | apply bwD | refine below_set ?_ GE200.out | refine below_set ?_ GE211.out | refine below_set ?_ GE216.out | refine below_set ?_ GE222.out) | exact HB.out)) hb); have n10_ := Aside0.mk (hbox); have n11_ := Aside0.mk ((by rw [hg]; exact (below_size (by repeat (first | (with_reducible first | exact HB.out | apply bwA | apply bwN | apply bwD | refine below_set ?_ GE200.out | refine below_set ?_ GE211.out | refine below_set ?_ GE216.out | refine below_set ?_ GE222.out) | exact HB.out))) : w.heap.size ≤ gb244)); have n12_ := Aside0.mk ((by rw [hg]; exact (below_size (by repeat (first | (with_reducible first | exact HB.out | apply bwA | apply bwN | apply bwD | refine below_set ?_ GE200.out | refine below_set ?_ GE211.out | refine below_set ?_ GE216.out | refine below_set ?_ GE222.out) | exact HB.out))) : w.heap.size ≤ gb244)); have n13_ := Aside0.mk ((by rw [hg]; exact Nat.ne_of_lt (blk_lt (g := gb200) (o := .cells #[.int .i64 a0_0, .slice A0_1 l0_1.length c0_1] 34 (0, 0)) (by (with_reducible repeat (first | refine blk_drewN ?_ _ | refine blk_drew ?_ | refine blk_alloc ?_ _)); exact BK200.out)) : gb200 ≠ gb244)); have n14_ := Aside0.mk ((by rw [hg]; exact Nat.ne_of_gt (blk_lt (g := gb200) (o := .cells #[.int .i64 a0_0, .slice A0_1 l0_1.length c0_1] 34 (0, 0)) (by (with_reducible repeat (first | refine blk_drewN ?_ _ | refine blk_drew ?_ | refine blk_alloc ?_ _)); exact BK200.out)) : gb244 ≠ gb200)); have n15_ := Aside0.mk ((by rw [hg]; exact Nat.ne_of_lt (blk_lt (g := gb211) (o := .cells #[.int .i64 t206, .slice Ao25 t207.length co25] 25 (0, 0)) (by (with_reducible repeat (first | refine blk_drewN ?_ _ | refine blk_drew ?_ | refine blk_alloc ?_ _)); exact BK211.out)) : gb211 ≠ gb244)); have n16_ := Aside0.mk ((by rw [hg]; exact Nat.ne_of_gt (blk_lt (g := gb211) (o := .cells #[.int .i64 t206, .slice Ao25 t207.length co25] 25 (0, 0)) (by (with_reducible repeat (first | refine blk_drewN ?_ _ | refine blk_drew ?_ | refine blk_alloc ?_ _)); exact BK211.out)) : gb244 ≠ gb211)); have n17_ := Aside0.mk ((by rw [hg]; exact Nat.ne_of_lt (blk_lt (g := gb216) (o := .cells #[.int .i64 t212, .slice Ao32 t230.length co32] 25 (0, 0)) (by (with_reducible repeat (first | refine blk_drewN ?_ _ | refine blk_drew ?_ | refine blk_alloc ?_ _)); exact BK216.out)) : gb216 ≠ gb244)); have n18_ := Aside0.mk ((by rw [hg]; exact Nat.ne_of_gt (blk_lt (g := gb216) (o := .cells #[.int .i64 t212, .slice Ao32 t230.length co32] 25 (0, 0)) (by (with_reducible repeat (first | refine blk_drewN ?_ _ | refine blk_drew ?_ | refine blk_alloc ?_ _)); exact BK216.out)) : gb244 ≠ gb216)); have n19_ := Aside0.mk ((by rw [hg]; exact Nat.ne_of_lt (blk_lt (g := gb222) (o := .cells #[.int .i64 t217, .slice Ao39 t218.length co39] 25 (0, 0)) (by (with_reducible repeat (first | refine blk_drewN ?_ _ | refine blk_drew ?_ | refine blk_alloc ?_ _)); exact BK222.out)) : gb222 ≠ gb244)); have n20_ := Aside0.mk ((by rw [hg]; exact Nat.ne_of_gt (blk_lt (g := gb222) (o := .cells #[.int .i64 t217, .slice Ao39 t218.length co39] 25 (0, 0)) (by (with_reducible repeat (first | refine blk_drewN ?_ _ | refine blk_drew ?_ | refine blk_alloc ?_ _)); exact BK222.out)) : gb244 ≠ gb222)); clear HO_212001; clear HO_217001; clear HO_223001; clear HO238; clear HO242; clear BK200; clear BK211; clear BK216; clear BK222; clear HB; have HO_212001 := n0_; have HO_217001 := n1_; have HO_223001 := n2_; have HO238 := n3_; have HO242 := n4_; have BK200 := n5_; have BK211 := n6_; have BK216 := n7_; have BK222 := n8_; have HB := n9_; have BK244 := n10_; have GW244 := n11_; have GE244 := n12_; have NB200_244 := n13_; have NB244_200 := n14_; have NB211_244 := n15_; have NB244_211 := n16_; have NB216_244 := n17_; have NB244_216 := n18_; have NB222_244 := n19_; have NB244_222 := n20_; clear n0_ n1_ n2_ n3_ n4_ n5_ n6_ n7_ n8_ n9_ n10_ n11_ n12_ n13_ n14_ n15_ n16_ n17_ n18_ n19_ n20_; clear hb hbox hg; have hnb121 := NB244_200.out; have hnc121 := NB200_244.out; have hnb122 := NB244_211.out; have hnc122 := NB211_244.out; have hnb123 := NB244_216.out; have hnc123 := NB216_244.out; have hnb124 := NB244_222.out; have hnc124 := NB222_244.out; have hcz125_0 : w120.cell? ⟨gb244, 0, none⟩ = some (.int .i64 0) := (blk_cell BK244.out 0).trans rfl; have hcz125_1 : w120.cell? ⟨gb244, 1, none⟩ = some (.slice none 0 0) := (blk_cell BK244.out 1).trans rfl; have hfz125_0 := blk_frozen BK244.out 0; have hfz125_1 := blk_frozen BK244.out 1; obtain ⟨Ao126, co126, eo126⟩ := Kd.R_slice HO242.out; subst eo126))
           (try simp only [Act.put, List.setIfInBounds_toArray, List.set_cons_zero, List.set_cons_succ])
           go_cut [102] (fun v102 wc => ∃ (kq : Nat) (x102_105 : Bool), v102 = .bool x102_105 ∧ Aside0 (laws_FnExactDiagramFix.j2 kq t232 x102_105 t217 t233 = some r) ∧ Aside0 (kq ≤ kj62) ∧ Aside0 (Kd.R k71 71 wc w.heap.size (fun k_ => some k_ ≠ ((.slice Ao32 t230.length co32) : Value).ownBlock ∧ some k_ ≠ ((.slice Ao39 t218.length co39) : Value).ownBlock ∧ some k_ ≠ ((.slice Ao126 t240.length co126) : Value).ownBlock) (.slice Ao25 t207.length co25) t207) ∧ Aside0 (Kd.R k71 71 wc w.heap.size (fun k_ => some k_ ≠ ((.slice Ao25 t207.length co25) : Value).ownBlock ∧ some k_ ≠ ((.slice Ao39 t218.length co39) : Value).ownBlock ∧ some k_ ≠ ((.slice Ao126 t240.length co126) : Value).ownBlock) (.slice Ao32 t230.length co32) t230) ∧ Aside0 (Kd.R k71 71 wc w.heap.size (fun k_ => some k_ ≠ ((.slice Ao25 t207.length co25) : Value).ownBlock ∧ some k_ ≠ ((.slice Ao32 t230.length co32) : Value).ownBlock ∧ some k_ ≠ ((.slice Ao126 t240.length co126) : Value).ownBlock) (.slice Ao39 t218.length co39) t233) ∧ Aside0 (Kd.R k71 71 wc w.heap.size (fun k_ => some k_ ≠ ((.slice Ao25 t207.length co25) : Value).ownBlock ∧ some k_ ≠ ((.slice Ao32 t230.length co32) : Value).ownBlock ∧ some k_ ≠ ((.slice Ao39 t218.length co39) : Value).ownBlock) (.slice Ao126 t240.length co126) t240) ∧ Aside0 (wc.heap[gb200]? = some (.cells #[.int .i64 a0_0, (.slice A0_1 l0_1.length c0_1)] 34 (0, 0))) ∧ Aside0 (wc.heap[gb211]? = some (.cells #[.int .i64 t206, (.slice Ao25 t207.length co25)] 25 (0, 0))) ∧ Aside0 (wc.heap[gb216]? = some (.cells #[.int .i64 t212, (.slice Ao32 t230.length co32)] 25 (0, 0))) ∧ Aside0 (wc.heap[gb222]? = some (.cells #[.int .i64 t217, (.slice Ao39 t218.length co39)] 25 (0, 0))) ∧ Aside0 (wc.heap[gb244]? = some (.cells #[.int .i64 t239, (.slice Ao126 t240.length co126)] 25 (0, 0))) ∧ Aside0 (Below w.heap.size w wc))
           case first =>
            have H := HC106.out
            clear HC106
            replace H := Option.bind_eq_some_iff.mp H
            obtain ⟨t245, A1270, H⟩ := H
            replace H : (if t245 = true then (laws_FnExactDiagramFix.j2 kj62 t232 (t243 != t210) t217 t233) else (laws_FnExactDiagramFix.j2 kj62 t232 true t217 t233)) = some r := H
            have A127 := Aside0.mk A1270
            clear A1270
            by_cases c128 : t245 = true
            ·subst c128
             have H1 : (laws_FnExactDiagramFix.j2 kj62 t232 (t243 != t210) t217 t233) = some r := by rw [if_pos rfl] at H; exact H
             clear H
             have H := H1
             clear H1
             have H' := Aside0.mk H
             clear H
             have hnb129 := NB244_200.out
             have hnc129 := NB200_244.out
             have hnb130 := NB244_211.out
             have hnc130 := NB211_244.out
             have hnb131 := NB244_216.out
             have hnc131 := NB216_244.out
             have hnb132 := NB244_222.out
             have hnc132 := NB222_244.out
             have hcz133_0 : w120.cell? ⟨gb244, 0, none⟩ = some (.int .i64 0) := (blk_cell BK244.out 0).trans rfl
             have hcz133_1 : w120.cell? ⟨gb244, 1, none⟩ = some (.slice none 0 0) := (blk_cell BK244.out 1).trans rfl
             have hfz133_0 := blk_frozen BK244.out 0
             have hfz133_1 := blk_frozen BK244.out 1
             have hnb134 := NB211_200.out
             have hnc134 := NB200_211.out
             have hnb135 := NB211_216.out
             have hnc135 := NB216_211.out
             have hnb136 := NB211_222.out
             have hnc136 := NB222_211.out
             have hcz137_0 : w120.cell? ⟨gb211, 0, none⟩ = some (.int .i64 t206) := (blk_cell BK211.out 0).trans rfl
             have hcz137_1 : w120.cell? ⟨gb211, 1, none⟩ = some (.slice Ao25 t207.length co25) := (blk_cell BK211.out 1).trans rfl
             have hfz137_0 := blk_frozen BK211.out 0
             have hfz137_1 := blk_frozen BK211.out 1
             go_wp2_with (first | ((with_reducible refine gate_callee (f := 21) rfl ?_); refine goesL_ (some 96) rfl rfl Try.func21 (by kernel_rfl) rfl #[.agg #[.int .i64 t239, .slice Ao126 t240.length co126], .agg #[.int .i64 t206, .slice Ao25 t207.length co25]] rfl (by (try simp only [List.map_toArray, List.map_cons, List.map_nil]); first | done | rfl | (simp only [List.length_drop, List.length_take]; rfl)) ?_; (with_reducible refine (laws_eqDiagram.calls kj62 t239 _ _ t240 t206 _ _ t207 true _ ?side1 ?side2 ?side3 ?side4 A127.out).mono ?_); (case side1 => refine (Kd.R_reads' (e := 71) (base := w.heap.size) (ok := fun k_ => ((((True ∧ some k_ ≠ (.slice Ao25 t207.length co25 : Value).ownBlock) ∧ some k_ ≠ (.slice Ao32 t230.length co32 : Value).ownBlock) ∧ some k_ ≠ (.slice Ao39 t218.length co39 : Value).ownBlock) ∧ some k_ ≠ (.slice Ao118 t236.length co118 : Value).ownBlock)) (n := t240.length) (c := co126) ?_).2.2; exact (by (with_reducible repeat (first | apply Kd.R_alloc | apply Kd.R_drewN | apply Kd.R_drew)); exact (Kd.R_mono (Kd.R_far (p := ⟨gb244, 1, none⟩) (Kd.R_far (p := ⟨gb244, 0, none⟩) (Kd.R_types HO242.out BK244.out (by decide)) (fun _ hk => hk.2) (.int .i64 t239)) (fun _ hk => hk.2) (.slice Ao126 t240.length co126)) (fun _ h_ => h_.1)))); (case side2 => exact (Kd.R_reads' HO242.out).2.1); (case side3 => refine (Kd.R_reads' (e := 71) (base := w.heap.size) (ok := fun k_ => (((some k_ ≠ (.slice Ao32 t230.length co32 : Value).ownBlock ∧ some k_ ≠ (.slice Ao39 t218.length co39 : Value).ownBlock) ∧ some k_ ≠ (.slice Ao118 t236.length co118 : Value).ownBlock) ∧ some k_ ≠ (.slice Ao126 t240.length co126 : Value).ownBlock)) (n := t207.length) (c := co25) ?_).2.2; exact (by (with_reducible repeat (first | apply Kd.R_alloc | apply Kd.R_drewN | apply Kd.R_drew)); exact (Kd.R_mono (Kd.R_far (p := ⟨gb244, 1, none⟩) (Kd.R_far (p := ⟨gb244, 0, none⟩) (Kd.R_types HO_212001.out BK244.out (by decide)) (fun _ hk => hk.2) (.int .i64 t239)) (fun _ hk => hk.2) (.slice Ao126 t240.length co126)) (fun _ h_ => h_.1)))); (case side4 => exact (Kd.R_reads' HO_212001.out).2.1); rintro e w138 ⟨rfl, hb⟩; refine ⟨_, rfl, ?_⟩; have n0_ := Aside0.mk (Kd.R_below (by (with_reducible repeat (first | apply Kd.R_alloc | apply Kd.R_drewN | apply Kd.R_drew)); exact (Kd.R_mono (Kd.R_far (p := ⟨gb244, 1, none⟩) (Kd.R_far (p := ⟨gb244, 0, none⟩) (Kd.R_types HO_212001.out BK244.out (by decide)) (fun _ hk => hk.2) (.int .i64 t239)) (fun _ hk => hk.2) (.slice Ao126 t240.length co126)) (fun _ h_ => h_.1))) hb); have n1_ := Aside0.mk (Kd.R_below (by (with_reducible repeat (first | apply Kd.R_alloc | apply Kd.R_drewN | apply Kd.R_drew)); exact (Kd.R_mono (Kd.R_far (p := ⟨gb244, 1, none⟩) (Kd.R_far (p := ⟨gb244, 0, none⟩) (Kd.R_types HO_217001.out BK244.out (by decide)) (fun _ hk => hk.2) (.int .i64 t239)) (fun _ hk => hk.2) (.slice Ao126 t240.length co126)) (fun _ h_ => h_.1))) hb); have n2_ := Aside0.mk (Kd.R_below (by (with_reducible repeat (first | apply Kd.R_alloc | apply Kd.R_drewN | apply Kd.R_drew)); exact (Kd.R_mono (Kd.R_far (p := ⟨gb244, 1, none⟩) (Kd.R_far (p := ⟨gb244, 0, none⟩) (Kd.R_types HO_223001.out BK244.out (by decide)) (fun _ hk => hk.2) (.int .i64 t239)) (fun _ hk => hk.2) (.slice Ao126 t240.length co126)) (fun _ h_ => h_.1))) hb); have n3_ := Aside0.mk (Kd.R_below (by (with_reducible repeat (first | apply Kd.R_alloc | apply Kd.R_drewN | apply Kd.R_drew)); exact (Kd.R_mono (Kd.R_far (p := ⟨gb244, 1, none⟩) (Kd.R_far (p := ⟨gb244, 0, none⟩) (Kd.R_types HO238.out BK244.out (by decide)) (fun _ hk => hk.2) (.int .i64 t239)) (fun _ hk => hk.2) (.slice Ao126 t240.length co126)) (fun _ h_ => h_.1))) hb); have n4_ := Aside0.mk (Kd.R_below (by (with_reducible repeat (first | apply Kd.R_alloc | apply Kd.R_drewN | apply Kd.R_drew)); exact (Kd.R_mono (Kd.R_far (p := ⟨gb244, 1, none⟩) (Kd.R_far (p := ⟨gb244, 0, none⟩) (Kd.R_types HO242.out BK244.out (by decide)) (fun _ hk => hk.2) (.int .i64 t239)) (fun _ hk => hk.2) (.slice Ao126 t240.length co126)) (fun _ h_ => h_.1))) hb); have n5_ := Aside0.mk (blk_below (g := gb200) (o := .cells #[.int .i64 a0_0, .slice A0_1 l0_1.length c0_1] 34 (0, 0)) (by (with_reducible repeat (first | refine blk_drewN ?_ _ | refine blk_drew ?_ | refine blk_alloc ?_ _)); refine blk_far ?_ NB200_244.out _; (with_reducible repeat (first | refine blk_drewN ?_ _ | refine blk_drew ?_ | refine blk_alloc ?_ _)); refine blk_far ?_ NB200_244.out _; (with_reducible repeat (first | refine blk_drewN ?_ _ | refine blk_drew ?_ | refine blk_alloc ?_ _)); exact BK200.out) hb); have n6_ := Aside0.mk (blk_below (g := gb211) (o := .cells #[.int .i64 t206, .slice Ao25 t207.length co25] 25 (0, 0)) (by (with_reducible repeat (first | refine blk_drewN ?_ _ | refine blk_drew ?_ | refine blk_alloc ?_ _)); refine blk_far ?_ NB211_244.out _; (with_reducible repeat (first | refine blk_drewN ?_ _ | refine blk_drew ?_ | refine blk_alloc ?_ _)); refine blk_far ?_ NB211_244.out _; (with_reducible repeat (first | refine blk_drewN ?_ _ | refine blk_drew ?_ | refine blk_alloc ?_ _)); exact BK211.out) hb); have n7_ := Aside0.mk (blk_below (g := gb216) (o := .cells #[.int .i64 t212, .slice Ao32 t230.length co32] 25 (0, 0)) (by (with_reducible repeat (first | refine blk_drewN ?_ _ | refine blk_drew ?_ | refine blk_alloc ?_ _)); refine blk_far ?_ NB216_244.out _; (with_reducible repeat (first | refine blk_drewN ?_ _ | refine blk_drew ?_ | refine blk_alloc ?_ _)); refine blk_far ?_ NB216_244.out _; (with_reducible repeat (first | refine blk_drewN ?_ _ | refine blk_drew ?_ | refine blk_alloc ?_ _)); exact BK216.out) hb); have n8_ := Aside0.mk (blk_below (g := gb222) (o := .cells #[.int .i64 t217, .slice Ao39 t218.length co39] 25 (0, 0)) (by (with_reducible repeat (first | refine blk_drewN ?_ _ | refine blk_drew ?_ | refine blk_alloc ?_ _)); refine blk_far ?_ NB222_244.out _; (with_reducible repeat (first | refine blk_drewN ?_ _ | refine blk_drew ?_ | refine blk_alloc ?_ _)); refine blk_far ?_ NB222_244.out _; (with_reducible repeat (first | refine blk_drewN ?_ _ | refine blk_drew ?_ | refine blk_alloc ?_ _)); exact BK222.out) hb); have n9_ := Aside0.mk (blk_below (g := gb244) (o := .cells #[.int .i64 t239, .slice Ao126 t240.length co126] 25 (0, 0)) (by (with_reducible repeat (first | refine blk_drewN ?_ _ | refine blk_drew ?_ | refine blk_alloc ?_ _)); refine blk_put (cs := #[.int .i64 t239, .slice none 0 0]) ?_ 1 _ rfl; (with_reducible repeat (first | refine blk_drewN ?_ _ | refine blk_drew ?_ | refine blk_alloc ?_ _)); refine blk_put (cs := #[.int .i64 0, .slice none 0 0]) ?_ 0 _ rfl; (with_reducible repeat (first | refine blk_drewN ?_ _ | refine blk_drew ?_ | refine blk_alloc ?_ _)); exact BK244.out) hb); have n10_ := Aside0.mk (below_step (by repeat (first | (with_reducible first | exact HB.out | apply bwA | apply bwN | apply bwD | refine below_set ?_ GE200.out | refine below_set ?_ GE211.out | refine below_set ?_ GE216.out | refine below_set ?_ GE222.out | refine below_set ?_ GE244.out) | exact HB.out)) hb); clear HO_212001; clear HO_217001; clear HO_223001; clear HO238; clear HO242; clear BK200; clear BK211; clear BK216; clear BK222; clear BK244; clear HB; have HO_212001 := n0_; have HO_217001 := n1_; have HO_223001 := n2_; have HO238 := n3_; have HO242 := n4_; have BK200 := n5_; have BK211 := n6_; have BK216 := n7_; have BK222 := n8_; have BK244 := n9_; have HB := n10_; clear n0_ n1_ n2_ n3_ n4_ n5_ n6_ n7_ n8_ n9_ n10_; (try clear hb); (try clear hb2); (try clear hk); (try clear hi)))
             go_meet
             case rel => exact ⟨_, ((t243 != t210)), (by first | rfl | (simp; done) | (simp [*]; done)), H', ⟨by have := HJ13.out; have := HJ62.out; first | omega | exact Nat.le_refl _⟩, ⟨by (try simp only [hl217001_62]); (with_reducible repeat (first | apply Kd.R_alloc | apply Kd.R_drewN | apply Kd.R_drew)); exact Kd.R_mono HO_212001.out (fun _ hk => ⟨hk.1.1.1, ⟨hk.1.1.2, hk.2⟩⟩)⟩, ⟨by (try simp only [hl217001_62]); (with_reducible repeat (first | apply Kd.R_alloc | apply Kd.R_drewN | apply Kd.R_drew)); exact Kd.R_mono HO_217001.out (fun _ hk => ⟨hk.1.1.1, ⟨hk.1.1.2, hk.2⟩⟩)⟩, ⟨by (try simp only [hl217001_62]); (with_reducible repeat (first | apply Kd.R_alloc | apply Kd.R_drewN | apply Kd.R_drew)); exact Kd.R_mono HO_223001.out (fun _ hk => ⟨hk.1.1.1, ⟨hk.1.1.2, hk.2⟩⟩)⟩, ⟨by (try simp only [hl217001_62]); (with_reducible repeat (first | apply Kd.R_alloc | apply Kd.R_drewN | apply Kd.R_drew)); exact Kd.R_mono HO242.out (fun _ hk => ⟨hk.1.1.1.2, ⟨hk.1.1.2, hk.1.2⟩⟩)⟩, ⟨by (try simp only [hl217001_62]); (with_reducible repeat (first | refine blk_drewN ?_ _ | refine blk_drew ?_ | refine blk_alloc ?_ _)); exact BK200.out⟩, ⟨by (try simp only [hl217001_62]); (with_reducible repeat (first | refine blk_drewN ?_ _ | refine blk_drew ?_ | refine blk_alloc ?_ _)); exact BK211.out⟩, ⟨by (try simp only [hl217001_62]); (with_reducible repeat (first | refine blk_drewN ?_ _ | refine blk_drew ?_ | refine blk_alloc ?_ _)); exact BK216.out⟩, ⟨by (try simp only [hl217001_62]); (with_reducible repeat (first | refine blk_drewN ?_ _ | refine blk_drew ?_ | refine blk_alloc ?_ _)); exact BK222.out⟩, ⟨by (try simp only [hl217001_62]); (with_reducible repeat (first | refine blk_drewN ?_ _ | refine blk_drew ?_ | refine blk_alloc ?_ _)); exact BK244.out⟩, ⟨by repeat (first | (with_reducible first | exact HB.out | apply bwA | apply bwN | apply bwD | refine below_set ?_ GE200.out | refine below_set ?_ GE211.out | refine below_set ?_ GE216.out | refine below_set ?_ GE222.out | refine below_set ?_ GE244.out) | exact HB.out)⟩⟩
            ·replace c128 := Bool.eq_false_iff.mpr c128
             subst c128
             have H1 : (laws_FnExactDiagramFix.j2 kj62 t232 true t217 t233) = some r := by rw [if_neg (show ¬ (false = true) by decide)] at H; exact H
             clear H
             have H := H1
             clear H1
             have H' := Aside0.mk H
             clear H
             have hnb139 := NB244_200.out
             have hnc139 := NB200_244.out
             have hnb140 := NB244_211.out
             have hnc140 := NB211_244.out
             have hnb141 := NB244_216.out
             have hnc141 := NB216_244.out
             have hnb142 := NB244_222.out
             have hnc142 := NB222_244.out
             have hcz143_0 : w120.cell? ⟨gb244, 0, none⟩ = some (.int .i64 0) := (blk_cell BK244.out 0).trans rfl
             have hcz143_1 : w120.cell? ⟨gb244, 1, none⟩ = some (.slice none 0 0) := (blk_cell BK244.out 1).trans rfl
             have hfz143_0 := blk_frozen BK244.out 0
             have hfz143_1 := blk_frozen BK244.out 1
             have hnb144 := NB211_200.out
             have hnc144 := NB200_211.out
             have hnb145 := NB211_216.out
             have hnc145 := NB216_211.out
             have hnb146 := NB211_222.out
             have hnc146 := NB222_211.out
             have hcz147_0 : w120.cell? ⟨gb211, 0, none⟩ = some (.int .i64 t206) := (blk_cell BK211.out 0).trans rfl
             have hcz147_1 : w120.cell? ⟨gb211, 1, none⟩ = some (.slice Ao25 t207.length co25) := (blk_cell BK211.out 1).trans rfl
             have hfz147_0 := blk_frozen BK211.out 0
             have hfz147_1 := blk_frozen BK211.out 1
             go_wp2_with (first | ((with_reducible refine gate_callee (f := 21) rfl ?_); refine goesL_ (some 96) rfl rfl Try.func21 (by kernel_rfl) rfl #[.agg #[.int .i64 t239, .slice Ao126 t240.length co126], .agg #[.int .i64 t206, .slice Ao25 t207.length co25]] rfl (by (try simp only [List.map_toArray, List.map_cons, List.map_nil]); first | done | rfl | (simp only [List.length_drop, List.length_take]; rfl)) ?_; (with_reducible refine (laws_eqDiagram.calls kj62 t239 _ _ t240 t206 _ _ t207 false _ ?side1 ?side2 ?side3 ?side4 A127.out).mono ?_); (case side1 => refine (Kd.R_reads' (e := 71) (base := w.heap.size) (ok := fun k_ => ((((True ∧ some k_ ≠ (.slice Ao25 t207.length co25 : Value).ownBlock) ∧ some k_ ≠ (.slice Ao32 t230.length co32 : Value).ownBlock) ∧ some k_ ≠ (.slice Ao39 t218.length co39 : Value).ownBlock) ∧ some k_ ≠ (.slice Ao118 t236.length co118 : Value).ownBlock)) (n := t240.length) (c := co126) ?_).2.2; exact (by (with_reducible repeat (first | apply Kd.R_alloc | apply Kd.R_drewN | apply Kd.R_drew)); exact (Kd.R_mono (Kd.R_far (p := ⟨gb244, 1, none⟩) (Kd.R_far (p := ⟨gb244, 0, none⟩) (Kd.R_types HO242.out BK244.out (by decide)) (fun _ hk => hk.2) (.int .i64 t239)) (fun _ hk => hk.2) (.slice Ao126 t240.length co126)) (fun _ h_ => h_.1)))); (case side2 => exact (Kd.R_reads' HO242.out).2.1); (case side3 => refine (Kd.R_reads' (e := 71) (base := w.heap.size) (ok := fun k_ => (((some k_ ≠ (.slice Ao32 t230.length co32 : Value).ownBlock ∧ some k_ ≠ (.slice Ao39 t218.length co39 : Value).ownBlock) ∧ some k_ ≠ (.slice Ao118 t236.length co118 : Value).ownBlock) ∧ some k_ ≠ (.slice Ao126 t240.length co126 : Value).ownBlock)) (n := t207.length) (c := co25) ?_).2.2; exact (by (with_reducible repeat (first | apply Kd.R_alloc | apply Kd.R_drewN | apply Kd.R_drew)); exact (Kd.R_mono (Kd.R_far (p := ⟨gb244, 1, none⟩) (Kd.R_far (p := ⟨gb244, 0, none⟩) (Kd.R_types HO_212001.out BK244.out (by decide)) (fun _ hk => hk.2) (.int .i64 t239)) (fun _ hk => hk.2) (.slice Ao126 t240.length co126)) (fun _ h_ => h_.1)))); (case side4 => exact (Kd.R_reads' HO_212001.out).2.1); rintro e w148 ⟨rfl, hb⟩; refine ⟨_, rfl, ?_⟩; have n0_ := Aside0.mk (Kd.R_below (by (with_reducible repeat (first | apply Kd.R_alloc | apply Kd.R_drewN | apply Kd.R_drew)); exact (Kd.R_mono (Kd.R_far (p := ⟨gb244, 1, none⟩) (Kd.R_far (p := ⟨gb244, 0, none⟩) (Kd.R_types HO_212001.out BK244.out (by decide)) (fun _ hk => hk.2) (.int .i64 t239)) (fun _ hk => hk.2) (.slice Ao126 t240.length co126)) (fun _ h_ => h_.1))) hb); have n1_ := Aside0.mk (Kd.R_below (by (with_reducible repeat (first | apply Kd.R_alloc | apply Kd.R_drewN | apply Kd.R_drew)); exact (Kd.R_mono (Kd.R_far (p := ⟨gb244, 1, none⟩) (Kd.R_far (p := ⟨gb244, 0, none⟩) (Kd.R_types HO_217001.out BK244.out (by decide)) (fun _ hk => hk.2) (.int .i64 t239)) (fun _ hk => hk.2) (.slice Ao126 t240.length co126)) (fun _ h_ => h_.1))) hb); have n2_ := Aside0.mk (Kd.R_below (by (with_reducible repeat (first | apply Kd.R_alloc | apply Kd.R_drewN | apply Kd.R_drew)); exact (Kd.R_mono (Kd.R_far (p := ⟨gb244, 1, none⟩) (Kd.R_far (p := ⟨gb244, 0, none⟩) (Kd.R_types HO_223001.out BK244.out (by decide)) (fun _ hk => hk.2) (.int .i64 t239)) (fun _ hk => hk.2) (.slice Ao126 t240.length co126)) (fun _ h_ => h_.1))) hb); have n3_ := Aside0.mk (Kd.R_below (by (with_reducible repeat (first | apply Kd.R_alloc | apply Kd.R_drewN | apply Kd.R_drew)); exact (Kd.R_mono (Kd.R_far (p := ⟨gb244, 1, none⟩) (Kd.R_far (p := ⟨gb244, 0, none⟩) (Kd.R_types HO238.out BK244.out (by decide)) (fun _ hk => hk.2) (.int .i64 t239)) (fun _ hk => hk.2) (.slice Ao126 t240.length co126)) (fun _ h_ => h_.1))) hb); have n4_ := Aside0.mk (Kd.R_below (by (with_reducible repeat (first | apply Kd.R_alloc | apply Kd.R_drewN | apply Kd.R_drew)); exact (Kd.R_mono (Kd.R_far (p := ⟨gb244, 1, none⟩) (Kd.R_far (p := ⟨gb244, 0, none⟩) (Kd.R_types HO242.out BK244.out (by decide)) (fun _ hk => hk.2) (.int .i64 t239)) (fun _ hk => hk.2) (.slice Ao126 t240.length co126)) (fun _ h_ => h_.1))) hb); have n5_ := Aside0.mk (blk_below (g := gb200) (o := .cells #[.int .i64 a0_0, .slice A0_1 l0_1.length c0_1] 34 (0, 0)) (by (with_reducible repeat (first | refine blk_drewN ?_ _ | refine blk_drew ?_ | refine blk_alloc ?_ _)); refine blk_far ?_ NB200_244.out _; (with_reducible repeat (first | refine blk_drewN ?_ _ | refine blk_drew ?_ | refine blk_alloc ?_ _)); refine blk_far ?_ NB200_244.out _; (with_reducible repeat (first | refine blk_drewN ?_ _ | refine blk_drew ?_ | refine blk_alloc ?_ _)); exact BK200.out) hb); have n6_ := Aside0.mk (blk_below (g := gb211) (o := .cells #[.int .i64 t206, .slice Ao25 t207.length co25] 25 (0, 0)) (by (with_reducible repeat (first | refine blk_drewN ?_ _ | refine blk_drew ?_ | refine blk_alloc ?_ _)); refine blk_far ?_ NB211_244.out _; (with_reducible repeat (first | refine blk_drewN ?_ _ | refine blk_drew ?_ | refine blk_alloc ?_ _)); refine blk_far ?_ NB211_244.out _; (with_reducible repeat (first | refine blk_drewN ?_ _ | refine blk_drew ?_ | refine blk_alloc ?_ _)); exact BK211.out) hb); have n7_ := Aside0.mk (blk_below (g := gb216) (o := .cells #[.int .i64 t212, .slice Ao32 t230.length co32] 25 (0, 0)) (by (with_reducible repeat (first | refine blk_drewN ?_ _ | refine blk_drew ?_ | refine blk_alloc ?_ _)); refine blk_far ?_ NB216_244.out _; (with_reducible repeat (first | refine blk_drewN ?_ _ | refine blk_drew ?_ | refine blk_alloc ?_ _)); refine blk_far ?_ NB216_244.out _; (with_reducible repeat (first | refine blk_drewN ?_ _ | refine blk_drew ?_ | refine blk_alloc ?_ _)); exact BK216.out) hb); have n8_ := Aside0.mk (blk_below (g := gb222) (o := .cells #[.int .i64 t217, .slice Ao39 t218.length co39] 25 (0, 0)) (by (with_reducible repeat (first | refine blk_drewN ?_ _ | refine blk_drew ?_ | refine blk_alloc ?_ _)); refine blk_far ?_ NB222_244.out _; (with_reducible repeat (first | refine blk_drewN ?_ _ | refine blk_drew ?_ | refine blk_alloc ?_ _)); refine blk_far ?_ NB222_244.out _; (with_reducible repeat (first | refine blk_drewN ?_ _ | refine blk_drew ?_ | refine blk_alloc ?_ _)); exact BK222.out) hb); have n9_ := Aside0.mk (blk_below (g := gb244) (o := .cells #[.int .i64 t239, .slice Ao126 t240.length co126] 25 (0, 0)) (by (with_reducible repeat (first | refine blk_drewN ?_ _ | refine blk_drew ?_ | refine blk_alloc ?_ _)); refine blk_put (cs := #[.int .i64 t239, .slice none 0 0]) ?_ 1 _ rfl; (with_reducible repeat (first | refine blk_drewN ?_ _ | refine blk_drew ?_ | refine blk_alloc ?_ _)); refine blk_put (cs := #[.int .i64 0, .slice none 0 0]) ?_ 0 _ rfl; (with_reducible repeat (first | refine blk_drewN ?_ _ | refine blk_drew ?_ | refine blk_alloc ?_ _)); exact BK244.out) hb); have n10_ := Aside0.mk (below_step (by repeat (first | (with_reducible first | exact HB.out | apply bwA | apply bwN | apply bwD | refine below_set ?_ GE200.out | refine below_set ?_ GE211.out | refine below_set ?_ GE216.out | refine below_set ?_ GE222.out | refine below_set ?_ GE244.out) | exact HB.out)) hb); clear HO_212001; clear HO_217001; clear HO_223001; clear HO238; clear HO242; clear BK200; clear BK211; clear BK216; clear BK222; clear BK244; clear HB; have HO_212001 := n0_; have HO_217001 := n1_; have HO_223001 := n2_; have HO238 := n3_; have HO242 := n4_; have BK200 := n5_; have BK211 := n6_; have BK216 := n7_; have BK222 := n8_; have BK244 := n9_; have HB := n10_; clear n0_ n1_ n2_ n3_ n4_ n5_ n6_ n7_ n8_ n9_ n10_; (try clear hb); (try clear hb2); (try clear hk); (try clear hi)))
             go_meet
             case rel => exact ⟨_, (true), (by first | rfl | (simp; done) | (simp [*]; done)), H', ⟨by have := HJ13.out; have := HJ62.out; first | omega | exact Nat.le_refl _⟩, ⟨by (try simp only [hl217001_62]); (with_reducible repeat (first | apply Kd.R_alloc | apply Kd.R_drewN | apply Kd.R_drew)); exact Kd.R_mono HO_212001.out (fun _ hk => ⟨hk.1.1.1, ⟨hk.1.1.2, hk.2⟩⟩)⟩, ⟨by (try simp only [hl217001_62]); (with_reducible repeat (first | apply Kd.R_alloc | apply Kd.R_drewN | apply Kd.R_drew)); exact Kd.R_mono HO_217001.out (fun _ hk => ⟨hk.1.1.1, ⟨hk.1.1.2, hk.2⟩⟩)⟩, ⟨by (try simp only [hl217001_62]); (with_reducible repeat (first | apply Kd.R_alloc | apply Kd.R_drewN | apply Kd.R_drew)); exact Kd.R_mono HO_223001.out (fun _ hk => ⟨hk.1.1.1, ⟨hk.1.1.2, hk.2⟩⟩)⟩, ⟨by (try simp only [hl217001_62]); (with_reducible repeat (first | apply Kd.R_alloc | apply Kd.R_drewN | apply Kd.R_drew)); exact Kd.R_mono HO242.out (fun _ hk => ⟨hk.1.1.1.2, ⟨hk.1.1.2, hk.1.2⟩⟩)⟩, ⟨by (try simp only [hl217001_62]); (with_reducible repeat (first | refine blk_drewN ?_ _ | refine blk_drew ?_ | refine blk_alloc ?_ _)); exact BK200.out⟩, ⟨by (try simp only [hl217001_62]); (with_reducible repeat (first | refine blk_drewN ?_ _ | refine blk_drew ?_ | refine blk_alloc ?_ _)); exact BK211.out⟩, ⟨by (try simp only [hl217001_62]); (with_reducible repeat (first | refine blk_drewN ?_ _ | refine blk_drew ?_ | refine blk_alloc ?_ _)); exact BK216.out⟩, ⟨by (try simp only [hl217001_62]); (with_reducible repeat (first | refine blk_drewN ?_ _ | refine blk_drew ?_ | refine blk_alloc ?_ _)); exact BK222.out⟩, ⟨by (try simp only [hl217001_62]); (with_reducible repeat (first | refine blk_drewN ?_ _ | refine blk_drew ?_ | refine blk_alloc ?_ _)); exact BK244.out⟩, ⟨by repeat (first | (with_reducible first | exact HB.out | apply bwA | apply bwN | apply bwD | refine below_set ?_ GE200.out | refine below_set ?_ GE211.out | refine below_set ?_ GE216.out | refine below_set ?_ GE222.out | refine below_set ?_ GE244.out) | exact HB.out)⟩⟩
           case rest =>
            clear HC106
            try clear c1
            try clear c2
            try clear p2
            try clear c3
            try clear c4
            try clear c5
            try clear c6
            try clear c6b0
            try clear c7
            try clear c8
            try clear c9
            try clear c10
            try clear c11
            try clear c12
            try clear c13
            try clear c14
            try clear c16
            try clear c18
            try clear c19
            try clear c20
            try clear c21
            try clear c22
            try clear c23
            try clear c29
            try clear c30
            try clear c35
            try clear c36
            try clear c37
            try clear c41
            try clear c42
            try clear c43
            try clear c44
            try clear c46
            try clear c47
            try clear c50
            try clear c51
            try clear c52
            try clear c54
            try clear c55
            try clear c58
            try clear c61
            try clear c68
            try clear c69
            try clear c70
            try clear c73
            try clear c73b0
            try clear c75
            try clear c76
            try clear c77
            try clear c78
            try clear c80
            try clear c81
            try clear c84
            try clear c85
            try clear c86
            try clear c88
            try clear c89
            try clear c92
            try clear c95
            try clear c95b0
            try clear c96
            try clear c97
            try clear c98
            try clear c103
            try clear c103b0
            try clear c103b1
            try clear c107
            try clear c108
            try clear c109
            try clear c114
            try clear c115
            try clear c121
            try clear c122
            try clear c123
            try clear c124
            try clear c128
            try clear c129
            try clear c130
            try clear c131
            try clear c132
            try clear c134
            try clear c135
            try clear c136
            try clear c139
            try clear c140
            try clear c141
            try clear c142
            try clear c144
            try clear c145
            try clear c146
            try clear hcz101_0
            try clear hcz101_1
            try clear hcz110_0
            try clear hcz110_1
            try clear hcz112_0
            try clear hcz112_1
            try clear hcz116_0
            try clear hcz116_1
            try clear hcz125_0
            try clear hcz125_1
            try clear hcz133_0
            try clear hcz133_1
            try clear hcz137_0
            try clear hcz137_1
            try clear hcz143_0
            try clear hcz143_1
            try clear hcz147_0
            try clear hcz147_1
            try clear hcz16_0
            try clear hcz16_1
            try clear hcz18_0
            try clear hcz18_1
            try clear hcz24_0
            try clear hcz24_1
            try clear hcz26_0
            try clear hcz26_1
            try clear hcz31_0
            try clear hcz31_1
            try clear hcz38_0
            try clear hcz38_1
            try clear hcz45_0
            try clear hcz45_1
            try clear hcz48_0
            try clear hcz48_1
            try clear hcz53_0
            try clear hcz53_1
            try clear hcz56_0
            try clear hcz56_1
            try clear hcz71_0
            try clear hcz71_1
            try clear hcz79_0
            try clear hcz79_1
            try clear hcz82_0
            try clear hcz82_1
            try clear hcz87_0
            try clear hcz87_1
            try clear hcz8_0
            try clear hcz8_1
            try clear hcz90_0
            try clear hcz90_1
            try clear hcz99_0
            try clear hcz99_1
            try clear hfz101_0
            try clear hfz101_1
            try clear hfz110_0
            try clear hfz110_1
            try clear hfz112_0
            try clear hfz112_1
            try clear hfz116_0
            try clear hfz116_1
            try clear hfz125_0
            try clear hfz125_1
            try clear hfz133_0
            try clear hfz133_1
            try clear hfz137_0
            try clear hfz137_1
            try clear hfz143_0
            try clear hfz143_1
            try clear hfz147_0
            try clear hfz147_1
            try clear hfz16_0
            try clear hfz16_1
            try clear hfz18_0
            try clear hfz18_1
            try clear hfz24_0
            try clear hfz24_1
            try clear hfz26_0
            try clear hfz26_1
            try clear hfz31_0
            try clear hfz31_1
            try clear hfz38_0
            try clear hfz38_1
            try clear hfz45_0
            try clear hfz45_1
            try clear hfz48_0
            try clear hfz48_1
            try clear hfz53_0
            try clear hfz53_1
            try clear hfz56_0
            try clear hfz56_1
            try clear hfz71_0
            try clear hfz71_1
            try clear hfz79_0
            try clear hfz79_1
            try clear hfz82_0
            try clear hfz82_1
            try clear hfz87_0
            try clear hfz87_1
            try clear hfz8_0
            try clear hfz8_1
            try clear hfz90_0
            try clear hfz90_1
            try clear hfz99_0
            try clear hfz99_1
            try clear p2
            obtain ⟨kq, x102_105, rfl, HA, HJ105, HO_212001, HO_217001, HO_223001, HO_245001, BK200, BK211, BK216, BK222, BK244, HB⟩ := hcut
            have hl223001_105 := (Kd.R_reads' HO_223001.out).1
            rw [hl223001_105] at HO_223001
            (try simp only [hl223001_105])
            (try simp only [hl223001_105] at BK200)
            (try simp only [hl223001_105] at BK211)
            (try simp only [hl223001_105] at BK216)
            (try simp only [hl223001_105] at BK222)
            (try simp only [hl223001_105] at BK244)
            (try simp only [hl223001_105] at HO_212001)
            (try simp only [hl223001_105] at HO_217001)
            (try simp only [hl223001_105] at HO_245001)
            cases kq with
            | zero => exact absurd HA.out (by simp [laws_FnExactDiagramFix.j2])
            | succ kj105 =>
             have H := HA.out
             clear HA
             simp only [laws_FnExactDiagramFix.j2] at H
             by_cases c149 : x102_105 = true
             ·subst c149
              have H1 : (some false) = some r := by rw [if_pos rfl] at H; exact H
              clear H
              have H := H1
              clear H1
              obtain rfl := Option.some.inj H
              go_wp2
              go_ret
              exact ⟨by first | rfl | (simp [errW_none, errW_some] <;> rfl) | (simp [*, errW_none, errW_some] <;> rfl), by repeat (first | (with_reducible first | exact HB.out | apply bwA | apply bwN | apply bwD | refine below_set ?_ GE200.out | refine below_set ?_ GE211.out | refine below_set ?_ GE216.out | refine below_set ?_ GE222.out | refine below_set ?_ GE244.out) | exact HB.out)⟩
             ·replace c149 := Bool.eq_false_iff.mpr c149
              subst c149
              have H1 : ((laws_heldDiagram.f kj105 t217 t233 1).bind fun t246 => (if t246 < 0 then (some false) else (if t246 = t232 then (some true) else (some false)))) = some r := by rw [if_neg (show ¬ (false = true) by decide)] at H; exact H
              clear H
              have H := H1
              clear H1
              replace H := Option.bind_eq_some_iff.mp H
              obtain ⟨t246, A1500, H⟩ := H
              replace H : (if t246 < 0 then (some false) else (if t246 = t232 then (some true) else (some false))) = some r := H
              have A150 := Aside0.mk A1500
              clear A1500
              by_cases c151 : t246 < 0
              ·rw [if_pos c151] at H
               have c151b0 : decide (t246 < 0) = true := decide_eq_true c151
               clear c151
               obtain rfl := Option.some.inj H
               have hnb152 := NB222_200.out
               have hnc152 := NB200_222.out
               have hnb153 := NB222_211.out
               have hnc153 := NB211_222.out
               have hnb154 := NB222_216.out
               have hnc154 := NB216_222.out
               have hnb155 := NB222_244.out
               have hnc155 := NB244_222.out
               have hcz156_0 : wc.cell? ⟨gb222, 0, none⟩ = some (.int .i64 t217) := (blk_cell BK222.out 0).trans rfl
               have hcz156_1 : wc.cell? ⟨gb222, 1, none⟩ = some (.slice Ao39 t233.length co39) := (blk_cell BK222.out 1).trans rfl
               have hfz156_0 := blk_frozen BK222.out 0
               have hfz156_1 := blk_frozen BK222.out 1
               go_wp2_with (first | ((with_reducible refine gate_callee (f := 23) rfl ?_); refine goesL_ (some 105) rfl rfl Try.func23 (by kernel_rfl) rfl #[.agg #[.int .i64 t217, .slice Ao39 t233.length co39], .int .i64 1] rfl (by (try simp only [List.map_toArray, List.map_cons, List.map_nil]); first | done | rfl | (simp only [List.length_drop, List.length_take]; rfl)) ?_; (with_reducible refine (laws_heldDiagram.calls kj105 t217 _ _ t233 1 t246 _ ?side1 ?side2 A150.out).mono ?_); (case side1 => repeat (first | exact (Kd.R_reads' HO_223001.out).2.2 | (with_reducible refine Kd.C_alloc ?_ _) | (with_reducible refine Kd.C_drewN ?_ _) | (with_reducible refine Kd.C_drew ?_))); (case side2 => exact (Kd.R_reads' HO_223001.out).2.1); rintro e w157 ⟨rfl, hb⟩; refine ⟨_, rfl, ?_⟩; have n0_ := Aside0.mk (Kd.R_below (by (with_reducible repeat (first | apply Kd.R_alloc | apply Kd.R_drewN | apply Kd.R_drew)); exact HO_212001.out) hb); have n1_ := Aside0.mk (Kd.R_below (by (with_reducible repeat (first | apply Kd.R_alloc | apply Kd.R_drewN | apply Kd.R_drew)); exact HO_217001.out) hb); have n2_ := Aside0.mk (Kd.R_below (by (with_reducible repeat (first | apply Kd.R_alloc | apply Kd.R_drewN | apply Kd.R_drew)); exact HO_223001.out) hb); have n3_ := Aside0.mk (Kd.R_below (by (with_reducible repeat (first | apply Kd.R_alloc | apply Kd.R_drewN | apply Kd.R_drew)); exact HO_245001.out) hb); have n4_ := Aside0.mk (blk_below (g := gb200) (o := .cells #[.int .i64 a0_0, .slice A0_1 l0_1.length c0_1] 34 (0, 0)) (by (with_reducible repeat (first | refine blk_drewN ?_ _ | refine blk_drew ?_ | refine blk_alloc ?_ _)); exact BK200.out) hb); have n5_ := Aside0.mk (blk_below (g := gb211) (o := .cells #[.int .i64 t206, .slice Ao25 t207.length co25] 25 (0, 0)) (by (with_reducible repeat (first | refine blk_drewN ?_ _ | refine blk_drew ?_ | refine blk_alloc ?_ _)); exact BK211.out) hb); have n6_ := Aside0.mk (blk_below (g := gb216) (o := .cells #[.int .i64 t212, .slice Ao32 t230.length co32] 25 (0, 0)) (by (with_reducible repeat (first | refine blk_drewN ?_ _ | refine blk_drew ?_ | refine blk_alloc ?_ _)); exact BK216.out) hb); have n7_ := Aside0.mk (blk_below (g := gb222) (o := .cells #[.int .i64 t217, .slice Ao39 t233.length co39] 25 (0, 0)) (by (with_reducible repeat (first | refine blk_drewN ?_ _ | refine blk_drew ?_ | refine blk_alloc ?_ _)); exact BK222.out) hb); have n8_ := Aside0.mk (blk_below (g := gb244) (o := .cells #[.int .i64 t239, .slice Ao126 t240.length co126] 25 (0, 0)) (by (with_reducible repeat (first | refine blk_drewN ?_ _ | refine blk_drew ?_ | refine blk_alloc ?_ _)); exact BK244.out) hb); have n9_ := Aside0.mk (below_step (by repeat (first | (with_reducible first | exact HB.out | apply bwA | apply bwN | apply bwD | refine below_set ?_ GE200.out | refine below_set ?_ GE211.out | refine below_set ?_ GE216.out | refine below_set ?_ GE222.out | refine below_set ?_ GE244.out) | exact HB.out)) hb); clear HO_212001; clear HO_217001; clear HO_223001; clear HO_245001; clear BK200; clear BK211; clear BK216; clear BK222; clear BK244; clear HB; have HO_212001 := n0_; have HO_217001 := n1_; have HO_223001 := n2_; have HO_245001 := n3_; have BK200 := n4_; have BK211 := n5_; have BK216 := n6_; have BK222 := n7_; have BK244 := n8_; have HB := n9_; clear n0_ n1_ n2_ n3_ n4_ n5_ n6_ n7_ n8_ n9_; (try clear hb); (try clear hb2); (try clear hk); (try clear hi)))
               go_ret
               exact ⟨by first | rfl | (simp [errW_none, errW_some] <;> rfl) | (simp [*, errW_none, errW_some] <;> rfl), by repeat (first | (with_reducible first | exact HB.out | apply bwA | apply bwN | apply bwD | refine below_set ?_ GE200.out | refine below_set ?_ GE211.out | refine below_set ?_ GE216.out | refine below_set ?_ GE222.out | refine below_set ?_ GE244.out) | exact HB.out)⟩
              ·rw [if_neg c151] at H
               have c151b0 : decide (t246 < 0) = false := decide_eq_false c151
               clear c151
               by_cases c158 : t246 = t232
               ·rw [if_pos c158] at H
                have c158b0 : (t246 == t232) = true := beq_iff_eq.mpr c158
                have c158b1 : (t246 != t232) = false := bne_eq_false_iff_eq.mpr c158
                clear c158
                obtain rfl := Option.some.inj H
                have hnb159 := NB222_200.out
                have hnc159 := NB200_222.out
                have hnb160 := NB222_211.out
                have hnc160 := NB211_222.out
                have hnb161 := NB222_216.out
                have hnc161 := NB216_222.out
                have hnb162 := NB222_244.out
                have hnc162 := NB244_222.out
                have hcz163_0 : wc.cell? ⟨gb222, 0, none⟩ = some (.int .i64 t217) := (blk_cell BK222.out 0).trans rfl
                have hcz163_1 : wc.cell? ⟨gb222, 1, none⟩ = some (.slice Ao39 t233.length co39) := (blk_cell BK222.out 1).trans rfl
                have hfz163_0 := blk_frozen BK222.out 0
                have hfz163_1 := blk_frozen BK222.out 1
                go_wp2_with (first | ((with_reducible refine gate_callee (f := 23) rfl ?_); refine goesL_ (some 105) rfl rfl Try.func23 (by kernel_rfl) rfl #[.agg #[.int .i64 t217, .slice Ao39 t233.length co39], .int .i64 1] rfl (by (try simp only [List.map_toArray, List.map_cons, List.map_nil]); first | done | rfl | (simp only [List.length_drop, List.length_take]; rfl)) ?_; (with_reducible refine (laws_heldDiagram.calls kj105 t217 _ _ t233 1 t246 _ ?side1 ?side2 A150.out).mono ?_); (case side1 => repeat (first | exact (Kd.R_reads' HO_223001.out).2.2 | (with_reducible refine Kd.C_alloc ?_ _) | (with_reducible refine Kd.C_drewN ?_ _) | (with_reducible refine Kd.C_drew ?_))); (case side2 => exact (Kd.R_reads' HO_223001.out).2.1); rintro e w164 ⟨rfl, hb⟩; refine ⟨_, rfl, ?_⟩; have n0_ := Aside0.mk (Kd.R_below (by (with_reducible repeat (first | apply Kd.R_alloc | apply Kd.R_drewN | apply Kd.R_drew)); exact HO_212001.out) hb); have n1_ := Aside0.mk (Kd.R_below (by (with_reducible repeat (first | apply Kd.R_alloc | apply Kd.R_drewN | apply Kd.R_drew)); exact HO_217001.out) hb); have n2_ := Aside0.mk (Kd.R_below (by (with_reducible repeat (first | apply Kd.R_alloc | apply Kd.R_drewN | apply Kd.R_drew)); exact HO_223001.out) hb); have n3_ := Aside0.mk (Kd.R_below (by (with_reducible repeat (first | apply Kd.R_alloc | apply Kd.R_drewN | apply Kd.R_drew)); exact HO_245001.out) hb); have n4_ := Aside0.mk (blk_below (g := gb200) (o := .cells #[.int .i64 a0_0, .slice A0_1 l0_1.length c0_1] 34 (0, 0)) (by (with_reducible repeat (first | refine blk_drewN ?_ _ | refine blk_drew ?_ | refine blk_alloc ?_ _)); exact BK200.out) hb); have n5_ := Aside0.mk (blk_below (g := gb211) (o := .cells #[.int .i64 t206, .slice Ao25 t207.length co25] 25 (0, 0)) (by (with_reducible repeat (first | refine blk_drewN ?_ _ | refine blk_drew ?_ | refine blk_alloc ?_ _)); exact BK211.out) hb); have n6_ := Aside0.mk (blk_below (g := gb216) (o := .cells #[.int .i64 t212, .slice Ao32 t230.length co32] 25 (0, 0)) (by (with_reducible repeat (first | refine blk_drewN ?_ _ | refine blk_drew ?_ | refine blk_alloc ?_ _)); exact BK216.out) hb); have n7_ := Aside0.mk (blk_below (g := gb222) (o := .cells #[.int .i64 t217, .slice Ao39 t233.length co39] 25 (0, 0)) (by (with_reducible repeat (first | refine blk_drewN ?_ _ | refine blk_drew ?_ | refine blk_alloc ?_ _)); exact BK222.out) hb); have n8_ := Aside0.mk (blk_below (g := gb244) (o := .cells #[.int .i64 t239, .slice Ao126 t240.length co126] 25 (0, 0)) (by (with_reducible repeat (first | refine blk_drewN ?_ _ | refine blk_drew ?_ | refine blk_alloc ?_ _)); exact BK244.out) hb); have n9_ := Aside0.mk (below_step (by repeat (first | (with_reducible first | exact HB.out | apply bwA | apply bwN | apply bwD | refine below_set ?_ GE200.out | refine below_set ?_ GE211.out | refine below_set ?_ GE216.out | refine below_set ?_ GE222.out | refine below_set ?_ GE244.out) | exact HB.out)) hb); clear HO_212001; clear HO_217001; clear HO_223001; clear HO_245001; clear BK200; clear BK211; clear BK216; clear BK222; clear BK244; clear HB; have HO_212001 := n0_; have HO_217001 := n1_; have HO_223001 := n2_; have HO_245001 := n3_; have BK200 := n4_; have BK211 := n5_; have BK216 := n6_; have BK222 := n7_; have BK244 := n8_; have HB := n9_; clear n0_ n1_ n2_ n3_ n4_ n5_ n6_ n7_ n8_ n9_; (try clear hb); (try clear hb2); (try clear hk); (try clear hi)))
                go_ret
                exact ⟨by first | rfl | (simp [errW_none, errW_some] <;> rfl) | (simp [*, errW_none, errW_some] <;> rfl), by repeat (first | (with_reducible first | exact HB.out | apply bwA | apply bwN | apply bwD | refine below_set ?_ GE200.out | refine below_set ?_ GE211.out | refine below_set ?_ GE216.out | refine below_set ?_ GE222.out | refine below_set ?_ GE244.out) | exact HB.out)⟩
               ·rw [if_neg c158] at H
                have c158b0 : (t246 == t232) = false := beq_eq_false_iff_ne.mpr c158
                have c158b1 : (t246 != t232) = true := bne_iff_ne.mpr c158
                obtain rfl := Option.some.inj H
                have hnb165 := NB222_200.out
                have hnc165 := NB200_222.out
                have hnb166 := NB222_211.out
                have hnc166 := NB211_222.out
                have hnb167 := NB222_216.out
                have hnc167 := NB216_222.out
                have hnb168 := NB222_244.out
                have hnc168 := NB244_222.out
                have hcz169_0 : wc.cell? ⟨gb222, 0, none⟩ = some (.int .i64 t217) := (blk_cell BK222.out 0).trans rfl
                have hcz169_1 : wc.cell? ⟨gb222, 1, none⟩ = some (.slice Ao39 t233.length co39) := (blk_cell BK222.out 1).trans rfl
                have hfz169_0 := blk_frozen BK222.out 0
                have hfz169_1 := blk_frozen BK222.out 1
                go_wp2_with (first | ((with_reducible refine gate_callee (f := 23) rfl ?_); refine goesL_ (some 105) rfl rfl Try.func23 (by kernel_rfl) rfl #[.agg #[.int .i64 t217, .slice Ao39 t233.length co39], .int .i64 1] rfl (by (try simp only [List.map_toArray, List.map_cons, List.map_nil]); first | done | rfl | (simp only [List.length_drop, List.length_take]; rfl)) ?_; (with_reducible refine (laws_heldDiagram.calls kj105 t217 _ _ t233 1 t246 _ ?side1 ?side2 A150.out).mono ?_); (case side1 => repeat (first | exact (Kd.R_reads' HO_223001.out).2.2 | (with_reducible refine Kd.C_alloc ?_ _) | (with_reducible refine Kd.C_drewN ?_ _) | (with_reducible refine Kd.C_drew ?_))); (case side2 => exact (Kd.R_reads' HO_223001.out).2.1); rintro e w170 ⟨rfl, hb⟩; refine ⟨_, rfl, ?_⟩; have n0_ := Aside0.mk (Kd.R_below (by (with_reducible repeat (first | apply Kd.R_alloc | apply Kd.R_drewN | apply Kd.R_drew)); exact HO_212001.out) hb); have n1_ := Aside0.mk (Kd.R_below (by (with_reducible repeat (first | apply Kd.R_alloc | apply Kd.R_drewN | apply Kd.R_drew)); exact HO_217001.out) hb); have n2_ := Aside0.mk (Kd.R_below (by (with_reducible repeat (first | apply Kd.R_alloc | apply Kd.R_drewN | apply Kd.R_drew)); exact HO_223001.out) hb); have n3_ := Aside0.mk (Kd.R_below (by (with_reducible repeat (first | apply Kd.R_alloc | apply Kd.R_drewN | apply Kd.R_drew)); exact HO_245001.out) hb); have n4_ := Aside0.mk (blk_below (g := gb200) (o := .cells #[.int .i64 a0_0, .slice A0_1 l0_1.length c0_1] 34 (0, 0)) (by (with_reducible repeat (first | refine blk_drewN ?_ _ | refine blk_drew ?_ | refine blk_alloc ?_ _)); exact BK200.out) hb); have n5_ := Aside0.mk (blk_below (g := gb211) (o := .cells #[.int .i64 t206, .slice Ao25 t207.length co25] 25 (0, 0)) (by (with_reducible repeat (first | refine blk_drewN ?_ _ | refine blk_drew ?_ | refine blk_alloc ?_ _)); exact BK211.out) hb); have n6_ := Aside0.mk (blk_below (g := gb216) (o := .cells #[.int .i64 t212, .slice Ao32 t230.length co32] 25 (0, 0)) (by (with_reducible repeat (first | refine blk_drewN ?_ _ | refine blk_drew ?_ | refine blk_alloc ?_ _)); exact BK216.out) hb); have n7_ := Aside0.mk (blk_below (g := gb222) (o := .cells #[.int .i64 t217, .slice Ao39 t233.length co39] 25 (0, 0)) (by (with_reducible repeat (first | refine blk_drewN ?_ _ | refine blk_drew ?_ | refine blk_alloc ?_ _)); exact BK222.out) hb); have n8_ := Aside0.mk (blk_below (g := gb244) (o := .cells #[.int .i64 t239, .slice Ao126 t240.length co126] 25 (0, 0)) (by (with_reducible repeat (first | refine blk_drewN ?_ _ | refine blk_drew ?_ | refine blk_alloc ?_ _)); exact BK244.out) hb); have n9_ := Aside0.mk (below_step (by repeat (first | (with_reducible first | exact HB.out | apply bwA | apply bwN | apply bwD | refine below_set ?_ GE200.out | refine below_set ?_ GE211.out | refine below_set ?_ GE216.out | refine below_set ?_ GE222.out | refine below_set ?_ GE244.out) | exact HB.out)) hb); clear HO_212001; clear HO_217001; clear HO_223001; clear HO_245001; clear BK200; clear BK211; clear BK216; clear BK222; clear BK244; clear HB; have HO_212001 := n0_; have HO_217001 := n1_; have HO_223001 := n2_; have HO_245001 := n3_; have BK200 := n4_; have BK211 := n5_; have BK216 := n6_; have BK222 := n7_; have BK244 := n8_; have HB := n9_; clear n0_ n1_ n2_ n3_ n4_ n5_ n6_ n7_ n8_ n9_; (try clear hb); (try clear hb2); (try clear hk); (try clear hi)))
                go_ret
                exact ⟨by first | rfl | (simp [errW_none, errW_some] <;> rfl) | (simp [*, errW_none, errW_some] <;> rfl), by repeat (first | (with_reducible first | exact HB.out | apply bwA | apply bwN | apply bwD | refine below_set ?_ GE200.out | refine below_set ?_ GE211.out | refine below_set ?_ GE216.out | refine below_set ?_ GE222.out | refine below_set ?_ GE244.out) | exact HB.out)⟩
          ·rw [if_neg c103] at H
           have c103b0 : (t234 == t232) = false := beq_eq_false_iff_ne.mpr c103
           have c103b1 : (t234 != t232) = true := bne_iff_ne.mpr c103
           obtain rfl := Option.some.inj H
           have hnb171 := NB222_200.out
           have hnc171 := NB200_222.out
           have hnb172 := NB222_211.out
           have hnc172 := NB211_222.out
           have hnb173 := NB222_216.out
           have hnc173 := NB216_222.out
           have hcz174_0 : wc.cell? ⟨gb222, 0, none⟩ = some (.int .i64 t217) := (blk_cell BK222.out 0).trans rfl
           have hcz174_1 : wc.cell? ⟨gb222, 1, none⟩ = some (.slice Ao39 t218.length co39) := (blk_cell BK222.out 1).trans rfl
           have hfz174_0 := blk_frozen BK222.out 0
           have hfz174_1 := blk_frozen BK222.out 1
           go_wp2_with (first | ((with_reducible refine gate_callee (f := 22) rfl ?_); refine goesL_ (some 76) rfl rfl Try.func22 (by kernel_rfl) rfl #[.agg #[.int .i64 t217, .slice Ao39 t218.length co39], .int .i64 1] rfl (by (try simp only [List.map_toArray, List.map_cons, List.map_nil]); first | done | rfl | (simp only [List.length_drop, List.length_take]; rfl)) ?_; (with_reducible refine (laws_markDiagram.calls kj62 t217 (fun k_ => some k_ = (.slice Ao39 t218.length co39 : Value).ownBlock) (.slice Ao39 t218.length co39) t218 1 t232 t233 w _ ?side1 ?side2 A93.out).mono ?_); (case side1 => repeat (first | (with_reducible first | exact HB.out | apply bwA | apply bwN | apply bwD | refine below_set ?_ GE200.out | refine below_set ?_ GE211.out | refine below_set ?_ GE216.out | refine below_set ?_ GE222.out) | exact HB.out)); (case side2 => exact Kd.R_tight rfl HO_223001.out); rintro e w175 ⟨rfl, hy0, hb, hkp⟩; refine ⟨_, rfl, ?_⟩; have n0_ := Aside0.mk (Kd.R_mono (ok' := fun k_ => some k_ ≠ (.slice Ao32 t230.length co32 : Value).ownBlock ∧ some k_ ≠ (.slice Ao39 t218.length co39 : Value).ownBlock) (Kd.R_keptB (HO_212001.out) hkp (fun k_ hk_ hs_ => (hk_.2) hs_)) (fun k_ hk_ => ⟨hk_.1.1, hk_.1.2⟩)); have n1_ := Aside0.mk (Kd.R_mono (ok' := fun k_ => some k_ ≠ (.slice Ao25 t207.length co25 : Value).ownBlock ∧ some k_ ≠ (.slice Ao39 t218.length co39 : Value).ownBlock) (Kd.R_keptB (HO_217001.out) hkp (fun k_ hk_ hs_ => (hk_.2) hs_)) (fun k_ hk_ => ⟨hk_.1.1, hk_.1.2⟩)); have n2_ := Aside0.mk (Kd.R_reok rfl hy0 (fun k_ e_ => HO_223001.out.1 k_ e_)); have n3_ := Aside0.mk (blk_kept (by (with_reducible repeat (first | refine blk_drewN ?_ _ | refine blk_drew ?_ | refine blk_alloc ?_ _)); exact BK200.out) hkp (fun hs_ => (fun e_ => (Kd.R_ne HO_223001.out BK200.out (by decide)) e_) hs_)); have n4_ := Aside0.mk (blk_kept (by (with_reducible repeat (first | refine blk_drewN ?_ _ | refine blk_drew ?_ | refine blk_alloc ?_ _)); exact BK211.out) hkp (fun hs_ => (fun e_ => (Kd.R_ne HO_223001.out BK211.out (by decide)) e_) hs_)); have n5_ := Aside0.mk (blk_kept (by (with_reducible repeat (first | refine blk_drewN ?_ _ | refine blk_drew ?_ | refine blk_alloc ?_ _)); exact BK216.out) hkp (fun hs_ => (fun e_ => (Kd.R_ne HO_223001.out BK216.out (by decide)) e_) hs_)); have n6_ := Aside0.mk (blk_kept (by (with_reducible repeat (first | refine blk_drewN ?_ _ | refine blk_drew ?_ | refine blk_alloc ?_ _)); exact BK222.out) hkp (fun hs_ => (fun e_ => (Kd.R_ne HO_223001.out BK222.out (by decide)) e_) hs_)); have n7_ := Aside0.mk (hb); clear HO_212001; clear HO_217001; clear HO_223001; clear BK200; clear BK211; clear BK216; clear BK222; clear HB; have HO_212001 := n0_; have HO_217001 := n1_; have HO_223001 := n2_; have BK200 := n3_; have BK211 := n4_; have BK216 := n5_; have BK222 := n6_; have HB := n7_; clear n0_ n1_ n2_ n3_ n4_ n5_ n6_ n7_; (try clear hb); (try clear hkp); (try clear hy0); have hcz176_0 : w175.cell? ⟨gb222, 0, none⟩ = some (.int .i64 t217) := (blk_cell BK222.out 0).trans rfl; have hcz176_1 : w175.cell? ⟨gb222, 1, none⟩ = some (.slice Ao39 t218.length co39) := (blk_cell BK222.out 1).trans rfl; have hfz176_0 := blk_frozen BK222.out 0; have hfz176_1 := blk_frozen BK222.out 1) | ((with_reducible refine gate_callee (f := 23) rfl ?_); refine goesL_ (some 79) rfl rfl Try.func23 (by kernel_rfl) rfl #[.agg #[.int .i64 t217, .slice Ao39 t233.length co39], .int .i64 1] rfl (by (try simp only [List.map_toArray, List.map_cons, List.map_nil]); first | done | (rw [show t233.length = t218.length from (Kd.R_reads' HO_223001.out).1.symm] <;> rfl) | rfl | (simp only [List.length_drop, List.length_take]; rfl)) ?_; (with_reducible refine (laws_heldDiagram.calls kj62 t217 _ _ t233 1 t234 _ ?side1 ?side2 A94.out).mono ?_); (case side1 => repeat (first | exact (Kd.R_reads' HO_223001.out).2.2 | (with_reducible refine Kd.C_alloc ?_ _) | (with_reducible refine Kd.C_drewN ?_ _) | (with_reducible refine Kd.C_drew ?_))); (case side2 => rw [show t233.length = t218.length from (Kd.R_reads' HO_223001.out).1.symm]; exact (Kd.R_reads' HO_223001.out).2.1); rintro e w177 ⟨rfl, hb⟩; refine ⟨_, rfl, ?_⟩; have n0_ := Aside0.mk (Kd.R_below (by (with_reducible repeat (first | apply Kd.R_alloc | apply Kd.R_drewN | apply Kd.R_drew)); exact HO_212001.out) hb); have n1_ := Aside0.mk (Kd.R_below (by (with_reducible repeat (first | apply Kd.R_alloc | apply Kd.R_drewN | apply Kd.R_drew)); exact HO_217001.out) hb); have n2_ := Aside0.mk (Kd.R_below (by (with_reducible repeat (first | apply Kd.R_alloc | apply Kd.R_drewN | apply Kd.R_drew)); exact HO_223001.out) hb); have n3_ := Aside0.mk (blk_below (g := gb200) (o := .cells #[.int .i64 a0_0, .slice A0_1 l0_1.length c0_1] 34 (0, 0)) (by (with_reducible repeat (first | refine blk_drewN ?_ _ | refine blk_drew ?_ | refine blk_alloc ?_ _)); exact BK200.out) hb); have n4_ := Aside0.mk (blk_below (g := gb211) (o := .cells #[.int .i64 t206, .slice Ao25 t207.length co25] 25 (0, 0)) (by (with_reducible repeat (first | refine blk_drewN ?_ _ | refine blk_drew ?_ | refine blk_alloc ?_ _)); exact BK211.out) hb); have n5_ := Aside0.mk (blk_below (g := gb216) (o := .cells #[.int .i64 t212, .slice Ao32 t230.length co32] 25 (0, 0)) (by (with_reducible repeat (first | refine blk_drewN ?_ _ | refine blk_drew ?_ | refine blk_alloc ?_ _)); exact BK216.out) hb); have n6_ := Aside0.mk (blk_below (g := gb222) (o := .cells #[.int .i64 t217, .slice Ao39 t218.length co39] 25 (0, 0)) (by (with_reducible repeat (first | refine blk_drewN ?_ _ | refine blk_drew ?_ | refine blk_alloc ?_ _)); exact BK222.out) hb); have n7_ := Aside0.mk (below_step (by repeat (first | (with_reducible first | exact HB.out | apply bwA | apply bwN | apply bwD | refine below_set ?_ GE200.out | refine below_set ?_ GE211.out | refine below_set ?_ GE216.out | refine below_set ?_ GE222.out) | exact HB.out)) hb); clear HO_212001; clear HO_217001; clear HO_223001; clear BK200; clear BK211; clear BK216; clear BK222; clear HB; have HO_212001 := n0_; have HO_217001 := n1_; have HO_223001 := n2_; have BK200 := n3_; have BK211 := n4_; have BK216 := n5_; have BK222 := n6_; have HB := n7_; clear n0_ n1_ n2_ n3_ n4_ n5_ n6_ n7_; (try clear hb); (try clear hb2); (try clear hk); (try clear hi)))
           go_ret
           exact ⟨by first | rfl | (simp [errW_none, errW_some] <;> rfl) | (simp [*, errW_none, errW_some] <;> rfl), by repeat (first | (with_reducible first | exact HB.out | apply bwA | apply bwN | apply bwD | refine below_set ?_ GE200.out | refine below_set ?_ GE211.out | refine below_set ?_ GE216.out | refine below_set ?_ GE222.out) | exact HB.out)⟩
     ·replace c61 := Bool.eq_false_iff.mpr c61
      subst c61
      have H1 : (some false) = some r := by rw [if_neg (show ¬ (false = true) by decide)] at H; exact H
      clear H
      have H := H1
      clear H1
      obtain rfl := Option.some.inj H
      try go_wp2
      have n0_ := Aside0.mk (Kd.R_drew HO_212001.out)
      have n1_ := Aside0.mk (Kd.R_drew HO_217001.out)
      have n2_ := Aside0.mk (Kd.R_drew HO_223001.out)
      have n3_ := Aside0.mk (blk_drew BK200.out)
      have n4_ := Aside0.mk (blk_drew BK211.out)
      have n5_ := Aside0.mk (blk_drew BK216.out)
      have n6_ := Aside0.mk (blk_drew BK222.out)
      have n7_ := Aside0.mk (below_drew1 HB.out)
      clear HO_212001
      clear HO_217001
      clear HO_223001
      clear BK200
      clear BK211
      clear BK216
      clear BK222
      clear HB
      have HO_212001 := n0_
      have HO_217001 := n1_
      have HO_223001 := n2_
      have BK200 := n3_
      have BK211 := n4_
      have BK216 := n5_
      have BK222 := n6_
      have HB := n7_
      clear n0_ n1_ n2_ n3_ n4_ n5_ n6_ n7_
      refine start_ (n := 5) (S := fun w' => w'.cell? ⟨gb216, 0, none⟩ = some (.int .i64 t212) ∧ w'.cell? ⟨gb216, 1, none⟩ = some (.slice Ao32 t213.length co32) ∧ w'.cell? ⟨gb200, 0, none⟩ = some (.int .i64 a0_0) ∧ w'.cell? ⟨gb200, 1, none⟩ = some (.slice A0_1 l0_1.length c0_1)) (ds := []) #[false, false, false, false, false] (by kernel_rfl) rfl rfl ⟨(blk_cell BK216.out 0).trans rfl, (blk_cell BK216.out 1).trans rfl, (blk_cell BK200.out 0).trans rfl, (blk_cell BK200.out 1).trans rfl⟩ (fun hHeld => ?_)
      generalize wc.drew = w178 at HO_212001 HO_217001 HO_223001 BK200 BK211 BK216 BK222 HB hHeld ⊢
      refine take_ (i := 0) (N := some 53) (v := ?_) (a' := ?_) #[true, false, false, false, false] rfl rfl (by kernel_rfl) (fun _ _ _ h => h) (Or.inl ⟨by rfl, ?_⟩) hHeld ?_ ?_
      rotate_left
      ·rintro w' ⟨s0, s1, s2, s3⟩
       go_simp
       with_reducible rfl
      rotate_left
      ·simp only [Act.put, List.setIfInBounds_toArray, List.set_cons_zero, List.set_cons_succ, i64_w, i32_w]
       rfl
      refine take_ (i := 1) (N := some 54) (v := ?_) (a' := ?_) #[true, true, false, false, false] rfl rfl (by kernel_rfl) (fun _ _ _ h => h) (Or.inl ⟨by rfl, ?_⟩) hHeld ?_ ?_
      rotate_left
      ·rintro w' ⟨s0, s1, s2, s3⟩
       go_simp
       with_reducible rfl
      rotate_left
      ·simp only [Act.put, List.setIfInBounds_toArray, List.set_cons_zero, List.set_cons_succ, i64_w, i32_w]
       rfl
      refine one_ (i := 2) (N := some 55) #[true, true, true, false, false] rfl rfl (by kernel_rfl) (by decide) (fun K hK => ?_)
      refine goes_ Try.func20 (by kernel_rfl) rfl #[.agg #[.int .i64 a0_0, .slice A0_1 l0_1.length c0_1]] (by rfl) rfl rfl (by (try simp only [List.map_toArray, List.map_cons, List.map_nil]); first | done | rfl | (simp only [List.length_drop, List.length_take]; rfl)) ?_
      with_reducible refine (laws_toDiagram.calls kj13 a0_0 _ _ l0_1 t224 t225 _ ?side1 ?side2 A59.out).mono ?_
      (case side1 => repeat (first | exact (Kd.C_below HR0_1.out HB.out) | (with_reducible refine Kd.C_alloc ?_ _) | (with_reducible refine Kd.C_drewN ?_ _) | (with_reducible refine Kd.C_drew ?_)))
      (case side2 => exact HC0_1.out)
      rintro e w179 ⟨v226, rfl, ho0, hb⟩
      refine ⟨_, rfl, ?_⟩
      have n0_ := Aside0.mk (Kd.R_elder' (by (with_reducible repeat (first | apply Kd.R_alloc | apply Kd.R_drewN | apply Kd.R_drew)); exact HO_212001.out) (Kd.R_base ho0) hb)
      have n1_ := Aside0.mk (Kd.R_elder' (by (with_reducible repeat (first | apply Kd.R_alloc | apply Kd.R_drewN | apply Kd.R_drew)); exact HO_217001.out) (Kd.R_base ho0) hb)
      have n2_ := Aside0.mk (Kd.R_elder' (by (with_reducible repeat (first | apply Kd.R_alloc | apply Kd.R_drewN | apply Kd.R_drew)); exact HO_223001.out) (Kd.R_base ho0) hb)
      have n3_ := Aside0.mk (Kd.R_lower (Kd.R_new' (Kd.R_new' (Kd.R_new' ho0 (Kd.R_lt (by (with_reducible repeat (first | apply Kd.R_alloc | apply Kd.R_drewN | apply Kd.R_drew)); exact HO_212001.out))) (Kd.R_lt (by (with_reducible repeat (first | apply Kd.R_alloc | apply Kd.R_drewN | apply Kd.R_drew)); exact HO_217001.out))) (Kd.R_lt (by (with_reducible repeat (first | apply Kd.R_alloc | apply Kd.R_drewN | apply Kd.R_drew)); exact HO_223001.out))) (below_size (by repeat (first | (with_reducible first | exact HB.out | apply bwA | apply bwN | apply bwD | refine below_set ?_ GE200.out | refine below_set ?_ GE211.out | refine below_set ?_ GE216.out | refine below_set ?_ GE222.out) | exact HB.out))))
      have n4_ := Aside0.mk (blk_below (g := gb200) (o := .cells #[.int .i64 a0_0, .slice A0_1 l0_1.length c0_1] 34 (0, 0)) (by (with_reducible repeat (first | refine blk_drewN ?_ _ | refine blk_drew ?_ | refine blk_alloc ?_ _)); exact BK200.out) hb)
      have n5_ := Aside0.mk (blk_below (g := gb211) (o := .cells #[.int .i64 t206, .slice Ao25 t207.length co25] 25 (0, 0)) (by (with_reducible repeat (first | refine blk_drewN ?_ _ | refine blk_drew ?_ | refine blk_alloc ?_ _)); exact BK211.out) hb)
      have n6_ := Aside0.mk (blk_below (g := gb216) (o := .cells #[.int .i64 t212, .slice Ao32 t213.length co32] 25 (0, 0)) (by (with_reducible repeat (first | refine blk_drewN ?_ _ | refine blk_drew ?_ | refine blk_alloc ?_ _)); exact BK216.out) hb)
      have n7_ := Aside0.mk (blk_below (g := gb222) (o := .cells #[.int .i64 t217, .slice Ao39 t218.length co39] 25 (0, 0)) (by (with_reducible repeat (first | refine blk_drewN ?_ _ | refine blk_drew ?_ | refine blk_alloc ?_ _)); exact BK222.out) hb)
      have n8_ := Aside0.mk (below_step (by repeat (first | (with_reducible first | exact HB.out | apply bwA | apply bwN | apply bwD | refine below_set ?_ GE200.out | refine below_set ?_ GE211.out | refine below_set ?_ GE216.out | refine below_set ?_ GE222.out) | exact HB.out)) hb)
      clear HO_212001
      clear HO_217001
      clear HO_223001
      clear BK200
      clear BK211
      clear BK216
      clear BK222
      clear HB
      have HO_212001 := n0_
      have HO_217001 := n1_
      have HO_223001 := n2_
      have HO227 := n3_
      have BK200 := n4_
      have BK211 := n5_
      have BK216 := n6_
      have BK222 := n7_
      have HB := n8_
      clear n0_ n1_ n2_ n3_ n4_ n5_ n6_ n7_ n8_
      (try clear hb)
      (try clear hb2)
      (try clear hk)
      (try clear hi)
      (try clear ho0)
      obtain ⟨Ao180, co180, eo180⟩ := Kd.R_slice HO227.out
      (first | subst eo180 | (injection eo180 with f1_ f2_ f3_; have f4_ := f1_.symm; have f5_ := f3_.symm; clear f1_ f2_ f3_; subst f4_; subst f5_))
      refine hK.out _ _ ⟨(blk_cell BK216.out 0).trans rfl, (blk_cell BK216.out 1).trans rfl, (blk_cell BK200.out 0).trans rfl, (blk_cell BK200.out 1).trans rfl⟩ (fun hHeld => ?_)
      clear hK K
      refine norm_ (a' := ?_) ?_ ?_
      rotate_left
      ·show Act.put _ (some 55) _ = _
       simp only [Act.put, List.setIfInBounds_toArray, List.set_cons_zero, List.set_cons_succ, i64_w, i32_w]
       rfl
      refine one_ (i := 3) (N := some 56) #[true, true, true, true, false] rfl rfl (by kernel_rfl) (by decide) (fun K hK => ?_)
      refine goes_ Try.func21 (by kernel_rfl) rfl #[.agg #[.int .i64 t212, .slice Ao32 t213.length co32], .agg #[.int .i64 t224, .slice Ao180 t225.length co180]] (by rfl) rfl rfl (by (try simp only [List.map_toArray, List.map_cons, List.map_nil]); first | done | rfl | (simp only [List.length_drop, List.length_take]; rfl)) ?_
      with_reducible refine (laws_eqDiagram.calls kj13 t212 _ _ t213 t224 _ _ t225 false _ ?side1 ?side2 ?side3 ?side4 A60.out).mono ?_
      (case side1 => repeat (first | exact (Kd.R_reads' HO_217001.out).2.2 | (with_reducible refine Kd.C_alloc ?_ _) | (with_reducible refine Kd.C_drewN ?_ _) | (with_reducible refine Kd.C_drew ?_)))
      (case side2 => exact (Kd.R_reads' HO_217001.out).2.1)
      (case side3 => repeat (first | exact (Kd.R_reads' HO227.out).2.2 | (with_reducible refine Kd.C_alloc ?_ _) | (with_reducible refine Kd.C_drewN ?_ _) | (with_reducible refine Kd.C_drew ?_)))
      (case side4 => exact (Kd.R_reads' HO227.out).2.1)
      rintro e w181 ⟨rfl, hb⟩
      refine ⟨_, rfl, ?_⟩
      have n0_ := Aside0.mk (Kd.R_below (by (with_reducible repeat (first | apply Kd.R_alloc | apply Kd.R_drewN | apply Kd.R_drew)); exact HO_212001.out) hb)
      have n1_ := Aside0.mk (Kd.R_below (by (with_reducible repeat (first | apply Kd.R_alloc | apply Kd.R_drewN | apply Kd.R_drew)); exact HO_217001.out) hb)
      have n2_ := Aside0.mk (Kd.R_below (by (with_reducible repeat (first | apply Kd.R_alloc | apply Kd.R_drewN | apply Kd.R_drew)); exact HO_223001.out) hb)
      have n3_ := Aside0.mk (Kd.R_below (by (with_reducible repeat (first | apply Kd.R_alloc | apply Kd.R_drewN | apply Kd.R_drew)); exact HO227.out) hb)
      have n4_ := Aside0.mk (blk_below (g := gb200) (o := .cells #[.int .i64 a0_0, .slice A0_1 l0_1.length c0_1] 34 (0, 0)) (by (with_reducible repeat (first | refine blk_drewN ?_ _ | refine blk_drew ?_ | refine blk_alloc ?_ _)); exact BK200.out) hb)
      have n5_ := Aside0.mk (blk_below (g := gb211) (o := .cells #[.int .i64 t206, .slice Ao25 t207.length co25] 25 (0, 0)) (by (with_reducible repeat (first | refine blk_drewN ?_ _ | refine blk_drew ?_ | refine blk_alloc ?_ _)); exact BK211.out) hb)
      have n6_ := Aside0.mk (blk_below (g := gb216) (o := .cells #[.int .i64 t212, .slice Ao32 t213.length co32] 25 (0, 0)) (by (with_reducible repeat (first | refine blk_drewN ?_ _ | refine blk_drew ?_ | refine blk_alloc ?_ _)); exact BK216.out) hb)
      have n7_ := Aside0.mk (blk_below (g := gb222) (o := .cells #[.int .i64 t217, .slice Ao39 t218.length co39] 25 (0, 0)) (by (with_reducible repeat (first | refine blk_drewN ?_ _ | refine blk_drew ?_ | refine blk_alloc ?_ _)); exact BK222.out) hb)
      have n8_ := Aside0.mk (below_step (by repeat (first | (with_reducible first | exact HB.out | apply bwA | apply bwN | apply bwD | refine below_set ?_ GE200.out | refine below_set ?_ GE211.out | refine below_set ?_ GE216.out | refine below_set ?_ GE222.out) | exact HB.out)) hb)
      clear HO_212001
      clear HO_217001
      clear HO_223001
      clear HO227
      clear BK200
      clear BK211
      clear BK216
      clear BK222
      clear HB
      have HO_212001 := n0_
      have HO_217001 := n1_
      have HO_223001 := n2_
      have HO227 := n3_
      have BK200 := n4_
      have BK211 := n5_
      have BK216 := n6_
      have BK222 := n7_
      have HB := n8_
      clear n0_ n1_ n2_ n3_ n4_ n5_ n6_ n7_ n8_
      (try clear hb)
      (try clear hb2)
      (try clear hk)
      (try clear hi)
      refine hK.out _ _ ⟨(blk_cell BK216.out 0).trans rfl, (blk_cell BK216.out 1).trans rfl, (blk_cell BK200.out 0).trans rfl, (blk_cell BK200.out 1).trans rfl⟩ (fun hHeld => ?_)
      clear hK K
      refine norm_ (a' := ?_) ?_ ?_
      rotate_left
      ·show Act.put _ (some 56) _ = _
       simp only [Act.put, List.setIfInBounds_toArray, List.set_cons_zero, List.set_cons_succ, i64_w, i32_w]
       rfl
      refine pure_ (i := 4) (N := some 57) (v := ?_) (a' := ?_) #[true, true, true, true, true] rfl rfl (by kernel_rfl) (fun _ _ _ h => h) (Or.inl ⟨by rfl, ?_⟩) ?_ ?_
      rotate_left
      ·intro w'
       go_simp
       with_reducible rfl
      rotate_left
      ·simp only [Act.put, List.setIfInBounds_toArray, List.set_cons_zero, List.set_cons_succ, i64_w, i32_w]
       rfl
      refine done_ (by kernel_rfl) ?_
      try go_wp2
      go_ret
      exact ⟨by first | rfl | (simp [errW_none, errW_some] <;> rfl) | (simp [*, errW_none, errW_some] <;> rfl), by repeat (first | (with_reducible first | exact HB.out | apply bwA | apply bwN | apply bwD | refine below_set ?_ GE200.out | refine below_set ?_ GE211.out | refine below_set ?_ GE216.out | refine below_set ?_ GE222.out) | exact HB.out)⟩
def GoodIi64 (x : Int) : Prop := (Lit.int .i64 x).wf = true
def GoodS116 (x : S116) : Prop := GoodIi64 x.f0 ∧ GoodIi64 x.f1 ∧ GoodIi64 x.f2
def GoodL3 (x : List (S116)) : Prop := (x.length ≤ maxLen ∧ ∀ x_ ∈ x, GoodS116 x_)
/-- THE ONE PURE STATEMENT of laws_FnExactDiagramFix. -/
def laws_FnExactDiagramFix.Pure : Prop := ∀ (a0_0 : Int) (l0_1 : List (S116)) (a1 : Int) (a2 : Int) (a3 : Int), GoodIi64 a0_0 → GoodL3 l0_1 → GoodIi64 a1 → GoodIi64 a2 → GoodIi64 a3 → ∃ k, laws_FnExactDiagramFix.f k a0_0 l0_1 a1 a2 a3 = some true
theorem laws_FnExactDiagramFix.walk (P : laws_FnExactDiagramFix.Pure) (a0_0 : Int) (A0_1 : Option Addr) (c0_1 : Nat) (l0_1 : List (S116)) (a1 : Int) (a2 : Int) (a3 : Int) (w : World) (hr0_1 : Kd.C k116 w A0_1 l0_1.length l0_1) (hc0_1 : l0_1.length ≤ c0_1) (g0_0 : GoodIi64 a0_0) (g0_1 : GoodL3 l0_1) (g1 : GoodIi64 a1) (g2 : GoodIi64 a2) (g3 : GoodIi64 a3) :
  Calls Try.prog 4 #[.agg #[.int .i64 a0_0, .slice A0_1 l0_1.length c0_1], .int .i64 a1, .int .i64 a2, .int .i64 a3] w fun e w' => e = .returned (.bool true) ∧ Below w.heap.size w w' := by
 obtain ⟨k, h⟩ := P a0_0 l0_1 a1 a2 a3 g0_0 g0_1 g1 g2 g3
 refine (laws_FnExactDiagramFix.calls k a0_0 _ _ l0_1 a1 a2 a3 true w hr0_1 hc0_1 h).mono ?_
 rintro e w' ⟨rfl, hd⟩
 exact ⟨rfl, hd⟩

end Go.Proofs.Ytpcompnmadpljaa.QFnExactDiagramFix
