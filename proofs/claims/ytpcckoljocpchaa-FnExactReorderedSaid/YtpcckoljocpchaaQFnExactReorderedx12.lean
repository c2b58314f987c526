-- Written by a program of this session (mk.py). Lean checks it.
import Derived.Test.YtpcckoljocpchaaQFnExactReorderedx0
import Derived.Test.YtpcckoljocpchaaQFnExactReorderedx5
import Derived.Test.YtpcckoljocpchaaQFnExactReorderedx9
import Derived.Test.YtpcckoljocpchaaQFnExactReorderedx10
import Derived.Test.YtpcckoljocpchaaQFnExactReorderedx11
namespace Go.Proofs.Ytpcckoljocpchaa.QFnExactReordered
open Go.RowKit Go.Proofs.YtpcckoljocpchaaW.PrintWords Go.Proofs.YtpcckoljocpchaaW.PrintLast Go.Proofs.YtpcckoljocpchaaW.PrintMore
attribute [local go_sem] max2_int min2_int max_two min_two max_three min_three max_four min_four   -- for this text's walks alone
set_option linter.unusedVariables false
set_option linter.unusedSimpArgs false

/-! ### laws_FnExactReordered: function 11 -/
mutual
def laws_FnExactReordered.j0 : Nat → Int → List Int → Int → List Int → Int → Bool → Int → List (S138) → Int → List (S56) → Int → List (S56) → Int → List (S56) → Option (Bool)
 | 0, _, _, _, _, _, _, _, _, _, _, _, _, _, _ => none
 | k + 1, x1, x2, x9, x11, x13, x55, x250000, x250001, x264000, x264001, x269000, x269001, x278000, x278001 => if x55 = true then (some false) else ((laws_toDiagram.f k x250000 x250001).bind fun bt279 => ((laws_eqDiagram.f k x269000 x269001 bt279.1 bt279.2).bind fun t283 => (if t283 = true then ((laws_toIntS.f k x2).bind fun t284 => ((laws_eqIntS.f k x11 t284).bind fun t287 => (if t287 = true then ((laws_markDiagram.f k x269000 x269001 1).bind fun bt288 => ((laws_markIntS.f k x11 bt288.1).bind fun bt290 => (if bt290.1 < 0 then (laws_FnExactReordered.j1 k x1 x2 x9 true x250000 x250001 x264000 x264001 x278000 x278001) else ((laws_eqDiagram.f k x278000 x278001 x264000 x264001).bind fun t292 => (if t292 = true then (laws_FnExactReordered.j1 k x1 x2 x9 (x13 != x9) x250000 x250001 x264000 x264001 x278000 x278001) else (laws_FnExactReordered.j1 k x1 x2 x9 true x250000 x250001 x264000 x264001 x278000 x278001)))))) else (some false)))) else (some false))))
def laws_FnExactReordered.j1 : Nat → Int → List Int → Int → Bool → Int → List (S138) → Int → List (S56) → Int → List (S56) → Option (Bool)
 | 0, _, _, _, _, _, _, _, _, _, _ => none
 | k + 1, x1, x2, x9, x84, x250000, x250001, x264000, x264001, x278000, x278001 => if x84 = true then (some false) else ((laws_markDiagram.f k x278000 x278001 1).bind fun bt293 => ((laws_heldDiagram.f k x278000 bt293.2 1).bind fun t295 => (if t295 < 0 then (some false) else (if t295 = bt293.1 then ((laws_toDiagram.f k x250000 x250001).bind fun bt296 => ((laws_toIntS.f k x2).bind fun t300 => ((impl_Reordered.f k bt296.1 bt296.2 x1 t300).bind fun bt303 => ((laws_eqDiagram.f k bt303.1 bt303.2.1 x264000 x264001).bind fun t309 => (if t309 = true then (laws_FnExactReordered.j2 k bt293.1 (bt303.2.2 != x9) x278000 bt293.2) else (laws_FnExactReordered.j2 k bt293.1 true x278000 bt293.2)))))) else (some false)))))
def laws_FnExactReordered.j2 : Nat → Int → Bool → Int → List (S56) → Option (Bool)
 | 0, _, _, _, _ => none
 | k + 1, x15, x113, x278000, x278001 => if x113 = true then (some false) else ((laws_heldDiagram.f k x278000 x278001 1).bind fun t310 => (if t310 < 0 then (some false) else (if t310 = x15 then (some true) else (some false))))
end
def laws_FnExactReordered.f (k : Nat) (a0_0 : Int) (l0_1 : List (S138)) (a1 : Int) (l2 : List Int) : Option (Bool) := if (l2.length : Int) > 1048576 then (some true) else ((laws_szDiagram.f a0_0 l0_1 1048576).bind fun t250 => (if t250 < 0 then (some true) else ((laws_toDiagram.f k a0_0 l0_1).bind fun bt251 => ((laws_toIntS.f k l2).bind fun t255 => ((spec_Reordered.f k bt251.1 bt251.2 a1 t255).bind fun bt258 => ((laws_toDiagram.f k a0_0 l0_1).bind fun bt264 => ((laws_toIntS.f k l2).bind fun t269 => ((impl_Reordered.f k bt264.1 bt264.2 a1 t269).bind fun bt272 => ((laws_eqDiagram.f k bt272.1 bt272.2.1 bt258.1 bt258.2.1).bind fun t278 => (if t278 = true then (laws_FnExactReordered.j0 k a1 l2 bt258.2.2 t269 bt272.2.2 (bt272.2.2 != bt258.2.2) a0_0 l0_1 bt258.1 bt258.2.1 bt264.1 bt264.2 bt272.1 bt272.2.1) else (laws_FnExactReordered.j0 k a1 l2 bt258.2.2 t269 bt272.2.2 true a0_0 l0_1 bt258.1 bt258.2.1 bt264.1 bt264.2 bt272.1 bt272.2.1)))))))))))
theorem laws_FnExactReordered.mono_l : ∀ k, (∀ y0 y1 y2 y3 y4 y5 y6 y7 y8 y9 y10 y11 y12 y13, LeO (laws_FnExactReordered.j0 k y0 y1 y2 y3 y4 y5 y6 y7 y8 y9 y10 y11 y12 y13) (laws_FnExactReordered.j0 (k + 1) y0 y1 y2 y3 y4 y5 y6 y7 y8 y9 y10 y11 y12 y13)) ∧ (∀ y0 y1 y2 y3 y4 y5 y6 y7 y8 y9, LeO (laws_FnExactReordered.j1 k y0 y1 y2 y3 y4 y5 y6 y7 y8 y9) (laws_FnExactReordered.j1 (k + 1) y0 y1 y2 y3 y4 y5 y6 y7 y8 y9)) ∧ (∀ y0 y1 y2 y3, LeO (laws_FnExactReordered.j2 k y0 y1 y2 y3) (laws_FnExactReordered.j2 (k + 1) y0 y1 y2 y3))
 | 0 => ⟨fun _ _ _ _ _ _ _ _ _ _ _ _ _ _ r h => by simp [laws_FnExactReordered.j0] at h, fun _ _ _ _ _ _ _ _ _ _ r h => by simp [laws_FnExactReordered.j1] at h, fun _ _ _ _ r h => by simp [laws_FnExactReordered.j2] at h⟩
 | k + 1 => by
  obtain ⟨ih0, ih1, ih2⟩ := laws_FnExactReordered.mono_l k
  refine ⟨?_, ?_, ?_⟩
  ·intro y0 y1 y2 y3 y4 y5 y6 y7 y8 y9 y10 y11 y12 y13
   unfold laws_FnExactReordered.j0
   repeat' first
   | (with_reducible exact ih0 _ _ _ _ _ _ _ _ _ _ _ _ _ _)
   | (with_reducible exact ih1 _ _ _ _ _ _ _ _ _ _)
   | (with_reducible exact ih2 _ _ _ _)
   | (with_reducible exact impl_Reordered.mono _ _ _ _ _)
   | (with_reducible exact laws_eqDiagram.mono _ _ _ _ _)
   | (with_reducible exact laws_eqIntS.mono _ _ _)
   | (with_reducible exact laws_heldDiagram.mono _ _ _ _)
   | (with_reducible exact laws_markDiagram.mono _ _ _ _)
   | (with_reducible exact laws_markIntS.mono _ _ _)
   | (with_reducible exact laws_toDiagram.mono _ _ _)
   | (with_reducible exact laws_toIntS.mono _ _)
   | (with_reducible exact spec_Reordered.mono _ _ _ _ _)
   | (with_reducible exact LeO.refl _)
   | (with_reducible exact LeO.none _)
   | (with_reducible refine LeO.ite ?_ ?_)
   | (with_reducible refine LeO.bind ?_ (fun _ => ?_))
   | exact ih0 _ _ _ _ _ _ _ _ _ _ _ _ _ _
   | exact ih1 _ _ _ _ _ _ _ _ _ _
   | exact ih2 _ _ _ _
   | exact impl_Reordered.mono _ _ _ _ _
   | exact laws_eqDiagram.mono _ _ _ _ _
   | exact laws_eqIntS.mono _ _ _
   | exact laws_heldDiagram.mono _ _ _ _
   | exact laws_markDiagram.mono _ _ _ _
   | exact laws_markIntS.mono _ _ _
   | exact laws_toDiagram.mono _ _ _
   | exact laws_toIntS.mono _ _
   | exact spec_Reordered.mono _ _ _ _ _
   | exact LeO.none _
   | refine LeO.ite ?_ ?_
   | refine LeO.bind ?_ (fun _ => ?_)
  ·intro y0 y1 y2 y3 y4 y5 y6 y7 y8 y9
   unfold laws_FnExactReordered.j1
   repeat' first
   | (with_reducible exact ih0 _ _ _ _ _ _ _ _ _ _ _ _ _ _)
   | (with_reducible exact ih1 _ _ _ _ _ _ _ _ _ _)
   | (with_reducible exact ih2 _ _ _ _)
   | (with_reducible exact impl_Reordered.mono _ _ _ _ _)
   | (with_reducible exact laws_eqDiagram.mono _ _ _ _ _)
   | (with_reducible exact laws_eqIntS.mono _ _ _)
   | (with_reducible exact laws_heldDiagram.mono _ _ _ _)
   | (with_reducible exact laws_markDiagram.mono _ _ _ _)
   | (with_reducible exact laws_markIntS.mono _ _ _)
   | (with_reducible exact laws_toDiagram.mono _ _ _)
   | (with_reducible exact laws_toIntS.mono _ _)
   | (with_reducible exact spec_Reordered.mono _ _ _ _ _)
   | (with_reducible exact LeO.refl _)
   | (with_reducible exact LeO.none _)
   | (with_reducible refine LeO.ite ?_ ?_)
   | (with_reducible refine LeO.bind ?_ (fun _ => ?_))
   | exact ih0 _ _ _ _ _ _ _ _ _ _ _ _ _ _
   | exact ih1 _ _ _ _ _ _ _ _ _ _
   | exact ih2 _ _ _ _
   | exact impl_Reordered.mono _ _ _ _ _
   | exact laws_eqDiagram.mono _ _ _ _ _
   | exact laws_eqIntS.mono _ _ _
   | exact laws_heldDiagram.mono _ _ _ _
   | exact laws_markDiagram.mono _ _ _ _
   | exact laws_markIntS.mono _ _ _
   | exact laws_toDiagram.mono _ _ _
   | exact laws_toIntS.mono _ _
   | exact spec_Reordered.mono _ _ _ _ _
   | exact LeO.none _
   | refine LeO.ite ?_ ?_
   | refine LeO.bind ?_ (fun _ => ?_)
  ·intro y0 y1 y2 y3
   unfold laws_FnExactReordered.j2
   repeat' first
   | (with_reducible exact ih0 _ _ _ _ _ _ _ _ _ _ _ _ _ _)
   | (with_reducible exact ih1 _ _ _ _ _ _ _ _ _ _)
   | (with_reducible exact ih2 _ _ _ _)
   | (with_reducible exact impl_Reordered.mono _ _ _ _ _)
   | (with_reducible exact laws_eqDiagram.mono _ _ _ _ _)
   | (with_reducible exact laws_eqIntS.mono _ _ _)
   | (with_reducible exact laws_heldDiagram.mono _ _ _ _)
   | (with_reducible exact laws_markDiagram.mono _ _ _ _)
   | (with_reducible exact laws_markIntS.mono _ _ _)
   | (with_reducible exact laws_toDiagram.mono _ _ _)
   | (with_reducible exact laws_toIntS.mono _ _)
   | (with_reducible exact spec_Reordered.mono _ _ _ _ _)
   | (with_reducible exact LeO.refl _)
   | (with_reducible exact LeO.none _)
   | (with_reducible refine LeO.ite ?_ ?_)
   | (with_reducible refine LeO.bind ?_ (fun _ => ?_))
   | exact ih0 _ _ _ _ _ _ _ _ _ _ _ _ _ _
   | exact ih1 _ _ _ _ _ _ _ _ _ _
   | exact ih2 _ _ _ _
   | exact impl_Reordered.mono _ _ _ _ _
   | exact laws_eqDiagram.mono _ _ _ _ _
   | exact laws_eqIntS.mono _ _ _
   | exact laws_heldDiagram.mono _ _ _ _
   | exact laws_markDiagram.mono _ _ _ _
   | exact laws_markIntS.mono _ _ _
   | exact laws_toDiagram.mono _ _ _
   | exact laws_toIntS.mono _ _
   | exact spec_Reordered.mono _ _ _ _ _
   | exact LeO.none _
   | refine LeO.ite ?_ ?_
   | refine LeO.bind ?_ (fun _ => ?_)
theorem laws_FnExactReordered.mono : ∀ a0 a1 a2 a3 k, LeO (laws_FnExactReordered.f k a0 a1 a2 a3) (laws_FnExactReordered.f (k + 1) a0 a1 a2 a3) := by
 intro a0 a1 a2 a3 k
 obtain ⟨ih0, ih1, ih2⟩ := laws_FnExactReordered.mono_l k
 unfold laws_FnExactReordered.f
 repeat' first
   | (with_reducible exact ih0 _ _ _ _ _ _ _ _ _ _ _ _ _ _)
   | (with_reducible exact ih1 _ _ _ _ _ _ _ _ _ _)
   | (with_reducible exact ih2 _ _ _ _)
   | (with_reducible exact impl_Reordered.mono _ _ _ _ _)
   | (with_reducible exact laws_eqDiagram.mono _ _ _ _ _)
   | (with_reducible exact laws_eqIntS.mono _ _ _)
   | (with_reducible exact laws_heldDiagram.mono _ _ _ _)
   | (with_reducible exact laws_markDiagram.mono _ _ _ _)
   | (with_reducible exact laws_markIntS.mono _ _ _)
   | (with_reducible exact laws_toDiagram.mono _ _ _)
   | (with_reducible exact laws_toIntS.mono _ _)
   | (with_reducible exact spec_Reordered.mono _ _ _ _ _)
   | (with_reducible exact LeO.refl _)
   | (with_reducible exact LeO.none _)
   | (with_reducible refine LeO.ite ?_ ?_)
   | (with_reducible refine LeO.bind ?_ (fun _ => ?_))
   | exact ih0 _ _ _ _ _ _ _ _ _ _ _ _ _ _
   | exact ih1 _ _ _ _ _ _ _ _ _ _
   | exact ih2 _ _ _ _
   | exact impl_Reordered.mono _ _ _ _ _
   | exact laws_eqDiagram.mono _ _ _ _ _
   | exact laws_eqIntS.mono _ _ _
   | exact laws_heldDiagram.mono _ _ _ _
   | exact laws_markDiagram.mono _ _ _ _
   | exact laws_markIntS.mono _ _ _
   | exact laws_toDiagram.mono _ _ _
   | exact laws_toIntS.mono _ _
   | exact spec_Reordered.mono _ _ _ _ _
   | exact LeO.none _
   | refine LeO.ite ?_ ?_
   | refine LeO.bind ?_ (fun _ => ?_)
set_option maxHeartbeats 8000000 in
set_option maxRecDepth 100000 in
theorem laws_FnExactReordered.calls (k : Nat) (a0_0 : Int) (A0_1 : Option Addr) (c0_1 : Nat) (l0_1 : List (S138)) (a1 : Int) (A2 : Option Addr) (c2 : Nat) (l2 : List Int) (r : Bool) (w : World) (hr0_1 : Kd.C k138 w A0_1 l0_1.length l0_1) (hc0_1 : l0_1.length ≤ c0_1) (hr2 : Kd.C (Kd.int .i64) w A2 l2.length l2) (hc2 : l2.length ≤ c2) (h : laws_FnExactReordered.f k a0_0 l0_1 a1 l2 = some r) :
  Calls Try.prog 11 #[.agg #[.int .i64 a0_0, .slice A0_1 l0_1.length c0_1], .int .i64 a1, .slice A2 l2.length c2] w fun e w' => e = .returned (.bool r) ∧ Below w.heap.size w w' := by
 have hu59 := Try.underlying59
 have hu48 := Try.underlying48
 have HR0_1 := Aside0.mk hr0_1
 have HC0_1 := Aside0.mk hc0_1
 clear hr0_1 hc0_1
 have HR2 := Aside0.mk hr2
 have HC2 := Aside0.mk hc2
 clear hr2 hc2
 have HB := Aside0.mk (Below.refl w.heap.size w)
 have H : (if (l2.length : Int) > 1048576 then (some true) else ((laws_szDiagram.f a0_0 l0_1 1048576).bind fun t250 => (if t250 < 0 then (some true) else ((laws_toDiagram.f k a0_0 l0_1).bind fun bt251 => ((laws_toIntS.f k l2).bind fun t255 => ((spec_Reordered.f k bt251.1 bt251.2 a1 t255).bind fun bt258 => ((laws_toDiagram.f k a0_0 l0_1).bind fun bt264 => ((laws_toIntS.f k l2).bind fun t269 => ((impl_Reordered.f k bt264.1 bt264.2 a1 t269).bind fun bt272 => ((laws_eqDiagram.f k bt272.1 bt272.2.1 bt258.1 bt258.2.1).bind fun t278 => (if t278 = true then (laws_FnExactReordered.j0 k a1 l2 bt258.2.2 t269 bt272.2.2 (bt272.2.2 != bt258.2.2) a0_0 l0_1 bt258.1 bt258.2.1 bt264.1 bt264.2 bt272.1 bt272.2.1) else (laws_FnExactReordered.j0 k a1 l2 bt258.2.2 t269 bt272.2.2 true a0_0 l0_1 bt258.1 bt258.2.1 bt264.1 bt264.2 bt272.1 bt272.2.1)))))))))))) = some r := h
 clear h
 by_cases c4 : (l2.length : Int) > 1048576
 ·rw [if_pos c4] at H
  have c4b0 : decide (1048576 < (l2.length : Int)) = true := decide_eq_true c4
  have c4b1 : decide (1048576 < l2.length) = true := decide_eq_true (by omega)
  clear c4
  obtain rfl := Option.some.inj H
  go_enter Try.func11, Try.ntmps11
  (try rw [hl269001_74] at c4b0)
  (try rw [hl269001_74] at c4b1)
  (try rw [hl278001_121] at c4b0)
  (try rw [hl278001_121] at c4b1)
  go_wp2_with (first | ((with_reducible refine gate_dst (N := 3) rfl ?_); refine box_event ?hg (N := 3) ?hd (cs := #[.int .i64 a0_0, .slice A0_1 l0_1.length c0_1]) (t := 59) ?hr ?_; (case hd => rfl); (case hg => rfl); (case hr => first | (go_simp; done) | (go_simp; rfl)); intro gb249 hg w5 hbox hb; have n0_ := Aside0.mk (below_step (by repeat (first | (with_reducible first | exact HB.out | apply bwA | apply bwN | apply bwD) | exact HB.out)) hb); have n1_ := Aside0.mk (hbox); have n2_ := Aside0.mk ((by rw [hg]; exact (below_size (by repeat (first | (with_reducible first | exact HB.out | apply bwA | apply bwN | apply bwD) | exact HB.out))) : w.heap.size ≤ gb249)); have n3_ := Aside0.mk ((by rw [hg]; exact (below_size (by repeat (first | (with_reducible first | exact HB.out | apply bwA | apply bwN | apply bwD) | exact HB.out))) : w.heap.size ≤ gb249)); clear HB; have HB := n0_; have BK249 := n1_; have GW249 := n2_; have GE249 := n3_; clear n0_ n1_ n2_ n3_; clear hb hbox hg))
  go_ret
  exact ⟨by first | rfl | (simp [errW_none, errW_some] <;> rfl) | (simp [*, errW_none, errW_some] <;> rfl), by repeat (first | (with_reducible first | exact HB.out | apply bwA | apply bwN | apply bwD | refine below_set ?_ GE249.out) | exact HB.out)⟩
 ·rw [if_neg c4] at H
  have c4b0 : decide (1048576 < (l2.length : Int)) = false := decide_eq_false c4
  have c4b1 : decide (1048576 < l2.length) = false := decide_eq_false (by omega)
  clear c4
  replace H := Option.bind_eq_some_iff.mp H
  obtain ⟨t250, A60, H⟩ := H
  replace H : (if t250 < 0 then (some true) else ((laws_toDiagram.f k a0_0 l0_1).bind fun bt251 => ((laws_toIntS.f k l2).bind fun t255 => ((spec_Reordered.f k bt251.1 bt251.2 a1 t255).bind fun bt258 => ((laws_toDiagram.f k a0_0 l0_1).bind fun bt264 => ((laws_toIntS.f k l2).bind fun t269 => ((impl_Reordered.f k bt264.1 bt264.2 a1 t269).bind fun bt272 => ((laws_eqDiagram.f k bt272.1 bt272.2.1 bt258.1 bt258.2.1).bind fun t278 => (if t278 = true then (laws_FnExactReordered.j0 k a1 l2 bt258.2.2 t269 bt272.2.2 (bt272.2.2 != bt258.2.2) a0_0 l0_1 bt258.1 bt258.2.1 bt264.1 bt264.2 bt272.1 bt272.2.1) else (laws_FnExactReordered.j0 k a1 l2 bt258.2.2 t269 bt272.2.2 true a0_0 l0_1 bt258.1 bt258.2.1 bt264.1 bt264.2 bt272.1 bt272.2.1)))))))))) = some r := H
  have A6 := Aside0.mk A60
  clear A60
  by_cases c7 : t250 < 0
  ·rw [if_pos c7] at H
   have c7b0 : decide (t250 < 0) = true := decide_eq_true c7
   clear c7
   obtain rfl := Option.some.inj H
   go_enter Try.func11, Try.ntmps11
   (try rw [hl269001_74] at c4b0)
   (try rw [hl269001_74] at c4b1)
   (try rw [hl278001_121] at c4b0)
   (try rw [hl278001_121] at c4b1)
   go_wp2_with (first | ((with_reducible refine gate_dst (N := 3) rfl ?_); refine box_event ?hg (N := 3) ?hd (cs := #[.int .i64 a0_0, .slice A0_1 l0_1.length c0_1]) (t := 59) ?hr ?_; (case hd => rfl); (case hg => rfl); (case hr => first | (go_simp; done) | (go_simp; rfl)); intro gb249 hg w8 hbox hb; have n0_ := Aside0.mk (below_step (by repeat (first | (with_reducible first | exact HB.out | apply bwA | apply bwN | apply bwD) | exact HB.out)) hb); have n1_ := Aside0.mk (hbox); have n2_ := Aside0.mk ((by rw [hg]; exact (below_size (by repeat (first | (with_reducible first | exact HB.out | apply bwA | apply bwN | apply bwD) | exact HB.out))) : w.heap.size ≤ gb249)); have n3_ := Aside0.mk ((by rw [hg]; exact (below_size (by repeat (first | (with_reducible first | exact HB.out | apply bwA | apply bwN | apply bwD) | exact HB.out))) : w.heap.size ≤ gb249)); clear HB; have HB := n0_; have BK249 := n1_; have GW249 := n2_; have GE249 := n3_; clear n0_ n1_ n2_ n3_; clear hb hbox hg; have hcz9_0 : w8.cell? ⟨gb249, 0, none⟩ = some (.int .i64 a0_0) := (blk_cell BK249.out 0).trans rfl; have hcz9_1 : w8.cell? ⟨gb249, 1, none⟩ = some (.slice A0_1 l0_1.length c0_1) := (blk_cell BK249.out 1).trans rfl; have hfz9_0 := blk_frozen BK249.out 0; have hfz9_1 := blk_frozen BK249.out 1) | ((with_reducible refine gate_callee (f := 36) rfl ?_); refine goesL_ (some 24) rfl rfl Try.func36 (by kernel_rfl) rfl #[.agg #[.int .i64 a0_0, .slice A0_1 l0_1.length c0_1], .int .i64 1048576] rfl (by (try simp only [List.map_toArray, List.map_cons, List.map_nil]); first | done | rfl | (simp only [List.length_drop, List.length_take]; rfl)) ?_; (with_reducible refine (laws_szDiagram.calls a0_0 _ _ l0_1 1048576 t250 _ ?side1 ?side2 A6.out).mono ?_); (case side1 => repeat (first | exact (Kd.C_below HR0_1.out HB.out) | (with_reducible refine Kd.C_alloc ?_ _) | (with_reducible refine Kd.C_drewN ?_ _) | (with_reducible refine Kd.C_drew ?_))); (case side2 => exact HC0_1.out); rintro e w10 ⟨rfl, hb⟩; refine ⟨_, rfl, ?_⟩; have n0_ := Aside0.mk (blk_below (g := gb249) (o := .cells #[.int .i64 a0_0, .slice A0_1 l0_1.length c0_1] 59 (0, 0)) (by (with_reducible repeat (first | refine blk_drewN ?_ _ | refine blk_drew ?_ | refine blk_alloc ?_ _)); exact BK249.out) hb); have n1_ := Aside0.mk (below_step (by repeat (first | (with_reducible first | exact HB.out | apply bwA | apply bwN | apply bwD | refine below_set ?_ GE249.out) | exact HB.out)) hb); clear BK249; clear HB; have BK249 := n0_; have HB := n1_; clear n0_ n1_; (try clear hb); (try clear hb2); (try clear hk); (try clear hi)))
   go_ret
   exact ⟨by first | rfl | (simp [errW_none, errW_some] <;> rfl) | (simp [*, errW_none, errW_some] <;> rfl), by repeat (first | (with_reducible first | exact HB.out | apply bwA | apply bwN | apply bwD | refine below_set ?_ GE249.out) | exact HB.out)⟩
  ·rw [if_neg c7] at H
   have c7b0 : decide (t250 < 0) = false := decide_eq_false c7
   clear c7
   replace H := Option.bind_eq_some_iff.mp H
   obtain ⟨⟨t251, t252⟩, A110, H⟩ := H
   replace H : ((laws_toIntS.f k l2).bind fun t255 => ((spec_Reordered.f k t251 t252 a1 t255).bind fun bt258 => ((laws_toDiagram.f k a0_0 l0_1).bind fun bt264 => ((laws_toIntS.f k l2).bind fun t269 => ((impl_Reordered.f k bt264.1 bt264.2 a1 t269).bind fun bt272 => ((laws_eqDiagram.f k bt272.1 bt272.2.1 bt258.1 bt258.2.1).bind fun t278 => (if t278 = true then (laws_FnExactReordered.j0 k a1 l2 bt258.2.2 t269 bt272.2.2 (bt272.2.2 != bt258.2.2) a0_0 l0_1 bt258.1 bt258.2.1 bt264.1 bt264.2 bt272.1 bt272.2.1) else (laws_FnExactReordered.j0 k a1 l2 bt258.2.2 t269 bt272.2.2 true a0_0 l0_1 bt258.1 bt258.2.1 bt264.1 bt264.2 bt272.1 bt272.2.1)))))))) = some r := H
   have A11 := Aside0.mk A110
   clear A110
   replace H := Option.bind_eq_some_iff.mp H
   obtain ⟨t255, A120, H⟩ := H
   replace H : ((spec_Reordered.f k t251 t252 a1 t255).bind fun bt258 => ((laws_toDiagram.f k a0_0 l0_1).bind fun bt264 => ((laws_toIntS.f k l2).bind fun t269 => ((impl_Reordered.f k bt264.1 bt264.2 a1 t269).bind fun bt272 => ((laws_eqDiagram.f k bt272.1 bt272.2.1 bt258.1 bt258.2.1).bind fun t278 => (if t278 = true then (laws_FnExactReordered.j0 k a1 l2 bt258.2.2 t269 bt272.2.2 (bt272.2.2 != bt258.2.2) a0_0 l0_1 bt258.1 bt258.2.1 bt264.1 bt264.2 bt272.1 bt272.2.1) else (laws_FnExactReordered.j0 k a1 l2 bt258.2.2 t269 bt272.2.2 true a0_0 l0_1 bt258.1 bt258.2.1 bt264.1 bt264.2 bt272.1 bt272.2.1))))))) = some r := H
   have A12 := Aside0.mk A120
   clear A120
   replace H := Option.bind_eq_some_iff.mp H
   obtain ⟨⟨t258, t259, t262⟩, A130, H⟩ := H
   replace H : ((laws_toDiagram.f k a0_0 l0_1).bind fun bt264 => ((laws_toIntS.f k l2).bind fun t269 => ((impl_Reordered.f k bt264.1 bt264.2 a1 t269).bind fun bt272 => ((laws_eqDiagram.f k bt272.1 bt272.2.1 t258 t259).bind fun t278 => (if t278 = true then (laws_FnExactReordered.j0 k a1 l2 t262 t269 bt272.2.2 (bt272.2.2 != t262) a0_0 l0_1 t258 t259 bt264.1 bt264.2 bt272.1 bt272.2.1) else (laws_FnExactReordered.j0 k a1 l2 t262 t269 bt272.2.2 true a0_0 l0_1 t258 t259 bt264.1 bt264.2 bt272.1 bt272.2.1)))))) = some r := H
   have A13 := Aside0.mk A130
   clear A130
   replace H := Option.bind_eq_some_iff.mp H
   obtain ⟨⟨t264, t265⟩, A140, H⟩ := H
   replace H : ((laws_toIntS.f k l2).bind fun t269 => ((impl_Reordered.f k t264 t265 a1 t269).bind fun bt272 => ((laws_eqDiagram.f k bt272.1 bt272.2.1 t258 t259).bind fun t278 => (if t278 = true then (laws_FnExactReordered.j0 k a1 l2 t262 t269 bt272.2.2 (bt272.2.2 != t262) a0_0 l0_1 t258 t259 t264 t265 bt272.1 bt272.2.1) else (laws_FnExactReordered.j0 k a1 l2 t262 t269 bt272.2.2 true a0_0 l0_1 t258 t259 t264 t265 bt272.1 bt272.2.1))))) = some r := H
   have A14 := Aside0.mk A140
   clear A140
   replace H := Option.bind_eq_some_iff.mp H
   obtain ⟨t269, A150, H⟩ := H
   replace H : ((impl_Reordered.f k t264 t265 a1 t269).bind fun bt272 => ((laws_eqDiagram.f k bt272.1 bt272.2.1 t258 t259).bind fun t278 => (if t278 = true then (laws_FnExactReordered.j0 k a1 l2 t262 t269 bt272.2.2 (bt272.2.2 != t262) a0_0 l0_1 t258 t259 t264 t265 bt272.1 bt272.2.1) else (laws_FnExactReordered.j0 k a1 l2 t262 t269 bt272.2.2 true a0_0 l0_1 t258 t259 t264 t265 bt272.1 bt272.2.1)))) = some r := H
   have A15 := Aside0.mk A150
   clear A150
   replace H := Option.bind_eq_some_iff.mp H
   obtain ⟨⟨t272, t273, t276⟩, A160, H⟩ := H
   replace H : ((laws_eqDiagram.f k t272 t273 t258 t259).bind fun t278 => (if t278 = true then (laws_FnExactReordered.j0 k a1 l2 t262 t269 t276 (t276 != t262) a0_0 l0_1 t258 t259 t264 t265 t272 t273) else (laws_FnExactReordered.j0 k a1 l2 t262 t269 t276 true a0_0 l0_1 t258 t259 t264 t265 t272 t273))) = some r := H
   have A16 := Aside0.mk A160
   clear A160
   have HC17 := Aside0.mk H
   clear H
   go_enter Try.func11, Try.ntmps11
   go_upto_region 11 with (first | ((with_reducible refine gate_dst (N := 3) rfl ?_); refine box_event ?hg (N := 3) ?hd (cs := #[.int .i64 a0_0, .slice A0_1 l0_1.length c0_1]) (t := 59) ?hr ?_; (case hd => rfl); (case hg => rfl); (case hr => first | (go_simp; done) | (go_simp; rfl)); intro gb249 hg w18 hbox hb; have n0_ := Aside0.mk (below_step (by repeat (first | (with_reducible first | exact HB.out | apply bwA | apply bwN | apply bwD) | exact HB.out)) hb); have n1_ := Aside0.mk (hbox); have n2_ := Aside0.mk ((by rw [hg]; exact (below_size (by repeat (first | (with_reducible first | exact HB.out | apply bwA | apply bwN | apply bwD) | exact HB.out))) : w.heap.size ≤ gb249)); have n3_ := Aside0.mk ((by rw [hg]; exact (below_size (by repeat (first | (with_reducible first | exact HB.out | apply bwA | apply bwN | apply bwD) | exact HB.out))) : w.heap.size ≤ gb249)); clear HB; have HB := n0_; have BK249 := n1_; have GW249 := n2_; have GE249 := n3_; clear n0_ n1_ n2_ n3_; clear hb hbox hg; have hcz19_0 : w18.cell? ⟨gb249, 0, none⟩ = some (.int .i64 a0_0) := (blk_cell BK249.out 0).trans rfl; have hcz19_1 : w18.cell? ⟨gb249, 1, none⟩ = some (.slice A0_1 l0_1.length c0_1) := (blk_cell BK249.out 1).trans rfl; have hfz19_0 := blk_frozen BK249.out 0; have hfz19_1 := blk_frozen BK249.out 1) | ((with_reducible refine gate_callee (f := 36) rfl ?_); refine goesL_ (some 24) rfl rfl Try.func36 (by kernel_rfl) rfl #[.agg #[.int .i64 a0_0, .slice A0_1 l0_1.length c0_1], .int .i64 1048576] rfl (by (try simp only [List.map_toArray, List.map_cons, List.map_nil]); first | done | rfl | (simp only [List.length_drop, List.length_take]; rfl)) ?_; (with_reducible refine (laws_szDiagram.calls a0_0 _ _ l0_1 1048576 t250 _ ?side1 ?side2 A6.out).mono ?_); (case side1 => repeat (first | exact (Kd.C_below HR0_1.out HB.out) | (with_reducible refine Kd.C_alloc ?_ _) | (with_reducible refine Kd.C_drewN ?_ _) | (with_reducible refine Kd.C_drew ?_))); (case side2 => exact HC0_1.out); rintro e w20 ⟨rfl, hb⟩; refine ⟨_, rfl, ?_⟩; have n0_ := Aside0.mk (blk_below (g := gb249) (o := .cells #[.int .i64 a0_0, .slice A0_1 l0_1.length c0_1] 59 (0, 0)) (by (with_reducible repeat (first | refine blk_drewN ?_ _ | refine blk_drew ?_ | refine blk_alloc ?_ _)); exact BK249.out) hb); have n1_ := Aside0.mk (below_step (by repeat (first | (with_reducible first | exact HB.out | apply bwA | apply bwN | apply bwD | refine below_set ?_ GE249.out) | exact HB.out)) hb); clear BK249; clear HB; have BK249 := n0_; have HB := n1_; clear n0_ n1_; (try clear hb); (try clear hb2); (try clear hk); (try clear hi); have hcz21_0 : w20.cell? ⟨gb249, 0, none⟩ = some (.int .i64 a0_0) := (blk_cell BK249.out 0).trans rfl; have hcz21_1 : w20.cell? ⟨gb249, 1, none⟩ = some (.slice A0_1 l0_1.length c0_1) := (blk_cell BK249.out 1).trans rfl; have hfz21_0 := blk_frozen BK249.out 0; have hfz21_1 := blk_frozen BK249.out 1) | ((with_reducible refine gate_callee (f := 38) rfl ?_); refine goesL_ (some 29) rfl rfl Try.func38 (by kernel_rfl) rfl #[.agg #[.int .i64 a0_0, .slice A0_1 l0_1.length c0_1]] rfl (by (try simp only [List.map_toArray, List.map_cons, List.map_nil]); first | done | rfl | (simp only [List.length_drop, List.length_take]; rfl)) ?_; (with_reducible refine (laws_toDiagram.calls k a0_0 _ _ l0_1 t251 t252 _ ?side1 ?side2 A11.out).mono ?_); (case side1 => repeat (first | exact (Kd.C_below HR0_1.out HB.out) | (with_reducible refine Kd.C_alloc ?_ _) | (with_reducible refine Kd.C_drewN ?_ _) | (with_reducible refine Kd.C_drew ?_))); (case side2 => exact HC0_1.out); rintro e w22 ⟨v253, rfl, ho0, hb⟩; refine ⟨_, rfl, ?_⟩; have n0_ := Aside0.mk (Kd.R_lower ho0 (below_size (by repeat (first | (with_reducible first | exact HB.out | apply bwA | apply bwN | apply bwD | refine below_set ?_ GE249.out) | exact HB.out)))); have n1_ := Aside0.mk (blk_below (g := gb249) (o := .cells #[.int .i64 a0_0, .slice A0_1 l0_1.length c0_1] 59 (0, 0)) (by (with_reducible repeat (first | refine blk_drewN ?_ _ | refine blk_drew ?_ | refine blk_alloc ?_ _)); exact BK249.out) hb); have n2_ := Aside0.mk (below_step (by repeat (first | (with_reducible first | exact HB.out | apply bwA | apply bwN | apply bwD | refine below_set ?_ GE249.out) | exact HB.out)) hb); clear BK249; clear HB; have HO254 := n0_; have BK249 := n1_; have HB := n2_; clear n0_ n1_ n2_; (try clear hb); (try clear hb2); (try clear hk); (try clear hi); (try clear ho0)) | ((with_reducible refine gate_callee (f := 49) rfl ?_); refine goesL_ (some 32) rfl rfl Try.func49 (by kernel_rfl) rfl #[.slice A2 l2.length c2] rfl (by (try simp only [List.map_toArray, List.map_cons, List.map_nil]); first | done | rfl | (simp only [List.length_drop, List.length_take]; rfl)) ?_; (with_reducible refine (laws_toIntS.calls k _ _ l2 t255 _ ?side1 ?side2 A12.out).mono ?_); (case side1 => repeat (first | exact (Kd.C_below HR2.out HB.out) | (with_reducible refine Kd.C_alloc ?_ _) | (with_reducible refine Kd.C_drewN ?_ _) | (with_reducible refine Kd.C_drew ?_))); (case side2 => exact HC2.out); rintro e w23 ⟨v256, rfl, ho0, hb⟩; refine ⟨_, rfl, ?_⟩; have n0_ := Aside0.mk (Kd.R_below (by (with_reducible repeat (first | apply Kd.R_alloc | apply Kd.R_drewN | apply Kd.R_drew)); exact HO254.out) hb); have n1_ := Aside0.mk (Kd.R_lower ho0 (below_size (by repeat (first | (with_reducible first | exact HB.out | apply bwA | apply bwN | apply bwD | refine below_set ?_ GE249.out) | exact HB.out)))); have n2_ := Aside0.mk (blk_below (g := gb249) (o := .cells #[.int .i64 a0_0, .slice A0_1 l0_1.length c0_1] 59 (0, 0)) (by (with_reducible repeat (first | refine blk_drewN ?_ _ | refine blk_drew ?_ | refine blk_alloc ?_ _)); exact BK249.out) hb); have n3_ := Aside0.mk (below_step (by repeat (first | (with_reducible first | exact HB.out | apply bwA | apply bwN | apply bwD | refine below_set ?_ GE249.out) | exact HB.out)) hb); clear HO254; clear BK249; clear HB; have HO254 := n0_; have HO257 := n1_; have BK249 := n2_; have HB := n3_; clear n0_ n1_ n2_ n3_; (try clear hb); (try clear hb2); (try clear hk); (try clear hi); (try clear ho0); obtain ⟨Ao24, co24, eo24⟩ := Kd.R_slice HO254.out; subst eo24; obtain ⟨Ao25, co25, eo25⟩ := Kd.R_slice HO257.out; subst eo25) | ((with_reducible refine gate_callee (f := 33) rfl ?_); refine goesL_ (some 33) rfl rfl Try.func33 (by kernel_rfl) rfl #[.agg #[.int .i64 t251, .slice Ao24 t252.length co24], .int .i64 a1, .slice Ao25 t255.length co25] rfl (by (try simp only [List.map_toArray, List.map_cons, List.map_nil]); first | done | rfl | (simp only [List.length_drop, List.length_take]; rfl)) ?_; (with_reducible refine (spec_Reordered.calls k t251 _ _ t252 a1 _ _ t255 t258 t259 t262 _ ?side1 ?side2 ?side3 ?side4 A13.out).mono ?_); (case side1 => repeat (first | exact (Kd.R_reads' HO254.out).2.2 | (with_reducible refine Kd.C_alloc ?_ _) | (with_reducible refine Kd.C_drewN ?_ _) | (with_reducible refine Kd.C_drew ?_))); (case side2 => exact (Kd.R_reads' HO254.out).2.1); (case side3 => repeat (first | exact (Kd.R_reads' HO257.out).2.2 | (with_reducible refine Kd.C_alloc ?_ _) | (with_reducible refine Kd.C_drewN ?_ _) | (with_reducible refine Kd.C_drew ?_))); (case side4 => exact (Kd.R_reads' HO257.out).2.1); rintro e w26 ⟨v260, rfl, ho0, hb⟩; refine ⟨_, rfl, ?_⟩; have n0_ := Aside0.mk (Kd.R_elder' (by (with_reducible repeat (first | apply Kd.R_alloc | apply Kd.R_drewN | apply Kd.R_drew)); exact HO254.out) (Kd.R_base ho0) hb); have n1_ := Aside0.mk (Kd.R_below (by (with_reducible repeat (first | apply Kd.R_alloc | apply Kd.R_drewN | apply Kd.R_drew)); exact HO257.out) hb); have n2_ := Aside0.mk (Kd.R_lower (Kd.R_new' ho0 (Kd.R_lt (by (with_reducible repeat (first | apply Kd.R_alloc | apply Kd.R_drewN | apply Kd.R_drew)); exact HO254.out))) (below_size (by repeat (first | (with_reducible first | exact HB.out | apply bwA | apply bwN | apply bwD | refine below_set ?_ GE249.out) | exact HB.out)))); have n3_ := Aside0.mk (blk_below (g := gb249) (o := .cells #[.int .i64 a0_0, .slice A0_1 l0_1.length c0_1] 59 (0, 0)) (by (with_reducible repeat (first | refine blk_drewN ?_ _ | refine blk_drew ?_ | refine blk_alloc ?_ _)); exact BK249.out) hb); have n4_ := Aside0.mk (below_step (by repeat (first | (with_reducible first | exact HB.out | apply bwA | apply bwN | apply bwD | refine below_set ?_ GE249.out) | exact HB.out)) hb); clear HO254; clear HO257; clear BK249; clear HB; have HO254 := n0_; have HO257 := n1_; have HO261 := n2_; have BK249 := n3_; have HB := n4_; clear n0_ n1_ n2_ n3_ n4_; (try clear hb); (try clear hb2); (try clear hk); (try clear hi); (try clear ho0)) | ((with_reducible refine gate_dst (N := 8) rfl ?_); refine box_event ?hg (N := 8) ?hd (cs := #[.int .i64 0, .slice none 0 0]) (t := 48) ?hr ?_; (case hd => rfl); (case hg => rfl); (case hr => first | (go_simp; done) | (go_simp; rfl)); intro gb263 hg w27 hbox hb; have n0_ := Aside0.mk (Kd.R_below (by (with_reducible repeat (first | apply Kd.R_alloc | apply Kd.R_drewN | apply Kd.R_drew)); exact HO254.out) hb); have n1_ := Aside0.mk (Kd.R_below (by (with_reducible repeat (first | apply Kd.R_alloc | apply Kd.R_drewN | apply Kd.R_drew)); exact HO257.out) hb); have n2_ := Aside0.mk (Kd.R_below (by (with_reducible repeat (first | apply Kd.R_alloc | apply Kd.R_drewN | apply Kd.R_drew)); exact HO261.out) hb); have n3_ := Aside0.mk (blk_below (g := gb249) (o := .cells #[.int .i64 a0_0, .slice A0_1 l0_1.length c0_1] 59 (0, 0)) (by (with_reducible repeat (first | refine blk_drewN ?_ _ | refine blk_drew ?_ | refine blk_alloc ?_ _)); exact BK249.out) hb); have n4_ := Aside0.mk (below_step (by repeat (first | (with_reducible first | exact HB.out | apply bwA | apply bwN | apply bwD | refine below_set ?_ GE249.out) | exact HB.out)) hb); have n5_ := Aside0.mk (hbox); have n6_ := Aside0.mk ((by rw [hg]; exact (below_size (by repeat (first | (with_reducible first | exact HB.out | apply bwA | apply bwN | apply bwD | refine below_set ?_ GE249.out) | exact HB.out))) : w.heap.size ≤ gb263)); have n7_ := Aside0.mk ((by rw [hg]; exact (below_size (by repeat (first | (with_reducible first | exact HB.out | apply bwA | apply bwN | apply bwD | refine below_set ?_ GE249.out) | exact HB.out))) : w.heap.size ≤ gb263)); have n8_ := Aside0.mk ((by rw [hg]; exact Nat.ne_of_lt (blk_lt (g := gb249) (o := .cells #[.int .i64 a0_0, .slice A0_1 l0_1.length c0_1] 59 (0, 0)) (by (with_reducible repeat (first | refine blk_drewN ?_ _ | refine blk_drew ?_ | refine blk_alloc ?_ _)); exact BK249.out)) : gb249 ≠ gb263)); have n9_ := Aside0.mk ((by rw [hg]; exact Nat.ne_of_gt (blk_lt (g := gb249) (o := .cells #[.int .i64 a0_0, .slice A0_1 l0_1.length c0_1] 59 (0, 0)) (by (with_reducible repeat (first | refine blk_drewN ?_ _ | refine blk_drew ?_ | refine blk_alloc ?_ _)); exact BK249.out)) : gb263 ≠ gb249)); clear HO254; clear HO257; clear HO261; clear BK249; clear HB; have HO254 := n0_; have HO257 := n1_; have HO261 := n2_; have BK249 := n3_; have HB := n4_; have BK263 := n5_; have GW263 := n6_; have GE263 := n7_; have NB249_263 := n8_; have NB263_249 := n9_; clear n0_ n1_ n2_ n3_ n4_ n5_ n6_ n7_ n8_ n9_; clear hb hbox hg; have hnb28 := NB263_249.out; have hnc28 := NB249_263.out; have hcz29_0 : w27.cell? ⟨gb263, 0, none⟩ = some (.int .i64 0) := (blk_cell BK263.out 0).trans rfl; have hcz29_1 : w27.cell? ⟨gb263, 1, none⟩ = some (.slice none 0 0) := (blk_cell BK263.out 1).trans rfl; have hfz29_0 := blk_frozen BK263.out 0; have hfz29_1 := blk_frozen BK263.out 1; obtain ⟨Ao30, co30, eo30⟩ := Kd.R_slice HO261.out; subst eo30; have hcz31_0 : w27.cell? ⟨gb249, 0, none⟩ = some (.int .i64 a0_0) := (blk_cell BK249.out 0).trans rfl; have hcz31_1 : w27.cell? ⟨gb249, 1, none⟩ = some (.slice A0_1 l0_1.length c0_1) := (blk_cell BK249.out 1).trans rfl; have hfz31_0 := blk_frozen BK249.out 0; have hfz31_1 := blk_frozen BK249.out 1) | ((with_reducible refine gate_callee (f := 38) rfl ?_); refine goesL_ (some 37) rfl rfl Try.func38 (by kernel_rfl) rfl #[.agg #[.int .i64 a0_0, .slice A0_1 l0_1.length c0_1]] rfl (by (try simp only [List.map_toArray, List.map_cons, List.map_nil]); first | done | rfl | (simp only [List.length_drop, List.length_take]; rfl)) ?_; (with_reducible refine (laws_toDiagram.calls k a0_0 _ _ l0_1 t264 t265 _ ?side1 ?side2 A14.out).mono ?_); (case side1 => exact Kd.C_below HR0_1.out (by repeat (first | (with_reducible first | exact HB.out | apply bwA | apply bwN | apply bwD | refine below_set ?_ GE249.out | refine below_set ?_ GE263.out) | exact HB.out))); (case side2 => exact HC0_1.out); rintro e w32 ⟨v266, rfl, ho0, hb⟩; refine ⟨_, rfl, ?_⟩; have n0_ := Aside0.mk (Kd.R_elder' (by (with_reducible repeat (first | apply Kd.R_alloc | apply Kd.R_drewN | apply Kd.R_drew)); exact (Kd.R_mono (Kd.R_far (p := ⟨gb263, 1, none⟩) (Kd.R_far (p := ⟨gb263, 0, none⟩) (Kd.R_types HO254.out BK263.out (by decide)) (fun _ hk => hk.2) (.int .i64 t258)) (fun _ hk => hk.2) (.slice Ao30 t259.length co30)) (fun _ h_ => h_.1))) (Kd.R_base ho0) hb); have n1_ := Aside0.mk (Kd.R_below (by (with_reducible repeat (first | apply Kd.R_alloc | apply Kd.R_drewN | apply Kd.R_drew)); exact (Kd.R_mono (Kd.R_far (p := ⟨gb263, 1, none⟩) (Kd.R_far (p := ⟨gb263, 0, none⟩) (Kd.R_types HO257.out BK263.out (by decide)) (fun _ hk => hk.2) (.int .i64 t258)) (fun _ hk => hk.2) (.slice Ao30 t259.length co30)) (fun _ h_ => h_.1))) hb); have n2_ := Aside0.mk (Kd.R_elder' (by (with_reducible repeat (first | apply Kd.R_alloc | apply Kd.R_drewN | apply Kd.R_drew)); exact (Kd.R_mono (Kd.R_far (p := ⟨gb263, 1, none⟩) (Kd.R_far (p := ⟨gb263, 0, none⟩) (Kd.R_types HO261.out BK263.out (by decide)) (fun _ hk => hk.2) (.int .i64 t258)) (fun _ hk => hk.2) (.slice Ao30 t259.length co30)) (fun _ h_ => h_.1))) (Kd.R_base ho0) hb); have n3_ := Aside0.mk (Kd.R_lower (Kd.R_new' (Kd.R_new' ho0 (Kd.R_lt (by (with_reducible repeat (first | apply Kd.R_alloc | apply Kd.R_drewN | apply Kd.R_drew)); exact (Kd.R_mono (Kd.R_far (p := ⟨gb263, 1, none⟩) (Kd.R_far (p := ⟨gb263, 0, none⟩) (Kd.R_types HO254.out BK263.out (by decide)) (fun _ hk => hk.2) (.int .i64 t258)) (fun _ hk => hk.2) (.slice Ao30 t259.length co30)) (fun _ h_ => h_.1))))) (Kd.R_lt (by (with_reducible repeat (first | apply Kd.R_alloc | apply Kd.R_drewN | apply Kd.R_drew)); exact (Kd.R_mono (Kd.R_far (p := ⟨gb263, 1, none⟩) (Kd.R_far (p := ⟨gb263, 0, none⟩) (Kd.R_types HO261.out BK263.out (by decide)) (fun _ hk => hk.2) (.int .i64 t258)) (fun _ hk => hk.2) (.slice Ao30 t259.length co30)) (fun _ h_ => h_.1))))) (below_size (by repeat (first | (with_reducible first | exact HB.out | apply bwA | apply bwN | apply bwD | refine below_set ?_ GE249.out | refine below_set ?_ GE263.out) | exact HB.out)))); have n4_ := Aside0.mk (blk_below (g := gb249) (o := .cells #[.int .i64 a0_0, .slice A0_1 l0_1.length c0_1] 59 (0, 0)) (by (with_reducible repeat (first | refine blk_drewN ?_ _ | refine blk_drew ?_ | refine blk_alloc ?_ _)); refine blk_far ?_ NB249_263.out _; (with_reducible repeat (first | refine blk_drewN ?_ _ | refine blk_drew ?_ | refine blk_alloc ?_ _)); refine blk_far ?_ NB249_263.out _; (with_reducible repeat (first | refine blk_drewN ?_ _ | refine blk_drew ?_ | refine blk_alloc ?_ _)); exact BK249.out) hb); have n5_ := Aside0.mk (blk_below (g := gb263) (o := .cells #[.int .i64 t258, .slice Ao30 t259.length co30] 48 (0, 0)) (by (with_reducible repeat (first | refine blk_drewN ?_ _ | refine blk_drew ?_ | refine blk_alloc ?_ _)); refine blk_put (cs := #[.int .i64 t258, .slice none 0 0]) ?_ 1 _ rfl; (with_reducible repeat (first | refine blk_drewN ?_ _ | refine blk_drew ?_ | refine blk_alloc ?_ _)); refine blk_put (cs := #[.int .i64 0, .slice none 0 0]) ?_ 0 _ rfl; (with_reducible repeat (first | refine blk_drewN ?_ _ | refine blk_drew ?_ | refine blk_alloc ?_ _)); exact BK263.out) hb); have n6_ := Aside0.mk (below_step (by repeat (first | (with_reducible first | exact HB.out | apply bwA | apply bwN | apply bwD | refine below_set ?_ GE249.out | refine below_set ?_ GE263.out) | exact HB.out)) hb); clear HO254; clear HO257; clear HO261; clear BK249; clear BK263; clear HB; have HO254 := n0_; have HO257 := n1_; have HO261 := n2_; have HO267 := n3_; have BK249 := n4_; have BK263 := n5_; have HB := n6_; clear n0_ n1_ n2_ n3_ n4_ n5_ n6_; (try clear hb); (try clear hb2); (try clear hk); (try clear hi); (try clear ho0)) | ((with_reducible refine gate_dst (N := 10) rfl ?_); refine box_event ?hg (N := 10) ?hd (cs := #[.int .i64 0, .slice none 0 0]) (t := 48) ?hr ?_; (case hd => rfl); (case hg => rfl); (case hr => first | (go_simp; done) | (go_simp; rfl)); intro gb268 hg w33 hbox hb; have n0_ := Aside0.mk (Kd.R_below (by (with_reducible repeat (first | apply Kd.R_alloc | apply Kd.R_drewN | apply Kd.R_drew)); exact HO254.out) hb); have n1_ := Aside0.mk (Kd.R_below (by (with_reducible repeat (first | apply Kd.R_alloc | apply Kd.R_drewN | apply Kd.R_drew)); exact HO257.out) hb); have n2_ := Aside0.mk (Kd.R_below (by (with_reducible repeat (first | apply Kd.R_alloc | apply Kd.R_drewN | apply Kd.R_drew)); exact HO261.out) hb); have n3_ := Aside0.mk (Kd.R_below (by (with_reducible repeat (first | apply Kd.R_alloc | apply Kd.R_drewN | apply Kd.R_drew)); exact HO267.out) hb); have n4_ := Aside0.mk (blk_below (g := gb249) (o := .cells #[.int .i64 a0_0, .slice A0_1 l0_1.length c0_1] 59 (0, 0)) (by (with_reducible repeat (first | refine blk_drewN ?_ _ | refine blk_drew ?_ | refine blk_alloc ?_ _)); exact BK249.out) hb); have n5_ := Aside0.mk (blk_below (g := gb263) (o := .cells #[.int .i64 t258, .slice Ao30 t259.length co30] 48 (0, 0)) (by (with_reducible repeat (first | refine blk_drewN ?_ _ | refine blk_drew ?_ | refine blk_alloc ?_ _)); exact BK263.out) hb); have n6_ := Aside0.mk (below_step (by repeat (first | (with_reducible first | exact HB.out | apply bwA | apply bwN | apply bwD | refine below_set ?_ GE249.out | refine below_set ?_ GE263.out) | exact HB.out)) hb); have n7_ := Aside0.mk (hbox); have n8_ := Aside0.mk ((by rw [hg]; exact (below_size (by repeat (first | (with_reducible first | exact HB.out | apply bwA | apply bwN | apply bwD | refine below_set ?_ GE249.out | refine below_set ?_ GE263.out) | exact HB.out))) : w.heap.size ≤ gb268)); have n9_ := Aside0.mk ((by rw [hg]; exact (below_size (by repeat (first | (with_reducible first | exact HB.out | apply bwA | apply bwN | apply bwD | refine below_set ?_ GE249.out | refine below_set ?_ GE263.out) | exact HB.out))) : w.heap.size ≤ gb268)); have n10_ := Aside0.mk ((by rw [hg]; exact Nat.ne_of_lt (blk_lt (g := gb249) (o := .cells #[.int .i64 a0_0, .slice A0_1 l0_1.length c0_1] 59 (0, 0)) (by (with_reducible repeat (first | refine blk_drewN ?_ _ | refine blk_drew ?_ | refine blk_alloc ?_ _)); exact BK249.out)) : gb249 ≠ gb268)); have n11_ := Aside0.mk ((by rw [hg]; exact Nat.ne_of_gt (blk_lt (g := gb249) (o := .cells #[.int .i64 a0_0, .slice A0_1 l0_1.length c0_1] 59 (0, 0)) (by (with_reducible repeat (first | refine blk_drewN ?_ _ | refine blk_drew ?_ | refine blk_alloc ?_ _)); exact BK249.out)) : gb268 ≠ gb249)); have n12_ := Aside0.mk ((by rw [hg]; exact Nat.ne_of_lt (blk_lt (g := gb263) (o := .cells #[.int .i64 t258, .slice Ao30 t259.length co30] 48 (0, 0)) (by (with_reducible repeat (first | refine blk_drewN ?_ _ | refine blk_drew ?_ | refine blk_alloc ?_ _)); exact BK263.out)) : gb263 ≠ gb268)); have n13_ := Aside0.mk ((by rw [hg]; exact Nat.ne_of_gt (blk_lt (g := gb263) (o := .cells #[.int .i64 t258, .slice Ao30 t259.length co30] 48 (0, 0)) (by (with_reducible repeat (first | refine blk_drewN ?_ _ | refine blk_drew ?_ | refine blk_alloc ?_ _)); exact BK263.out)) : gb268 ≠ gb263)); clear HO254; clear HO257; clear HO261; clear HO267; clear BK249; clear BK263; clear HB; have HO254 := n0_; have HO257 := n1_; have HO261 := n2_; have HO267 := n3_; have BK249 := n4_; have BK263 := n5_; have HB := n6_; have BK268 := n7_; have GW268 := n8_; have GE268 := n9_; have NB249_268 := n10_; have NB268_249 := n11_; have NB263_268 := n12_; have NB268_263 := n13_; clear n0_ n1_ n2_ n3_ n4_ n5_ n6_ n7_ n8_ n9_ n10_ n11_ n12_ n13_; clear hb hbox hg; have hnb34 := NB268_249.out; have hnc34 := NB249_268.out; have hnb35 := NB268_263.out; have hnc35 := NB263_268.out; have hcz36_0 : w33.cell? ⟨gb268, 0, none⟩ = some (.int .i64 0) := (blk_cell BK268.out 0).trans rfl; have hcz36_1 : w33.cell? ⟨gb268, 1, none⟩ = some (.slice none 0 0) := (blk_cell BK268.out 1).trans rfl; have hfz36_0 := blk_frozen BK268.out 0; have hfz36_1 := blk_frozen BK268.out 1; obtain ⟨Ao37, co37, eo37⟩ := Kd.R_slice HO267.out; subst eo37) | ((with_reducible refine gate_callee (f := 49) rfl ?_); refine goesL_ (some 39) rfl rfl Try.func49 (by kernel_rfl) rfl #[.slice A2 l2.length c2] rfl (by (try simp only [List.map_toArray, List.map_cons, List.map_nil]); first | done | rfl | (simp only [List.length_drop, List.length_take]; rfl)) ?_; (with_reducible refine (laws_toIntS.calls k _ _ l2 t269 _ ?side1 ?side2 A15.out).mono ?_); (case side1 => exact Kd.C_below HR2.out (by repeat (first | (with_reducible first | exact HB.out | apply bwA | apply bwN | apply bwD | refine below_set ?_ GE249.out | refine below_set ?_ GE263.out | refine below_set ?_ GE268.out) | exact HB.out))); (case side2 => exact HC2.out); rintro e w38 ⟨v270, rfl, ho0, hb⟩; refine ⟨_, rfl, ?_⟩; have n0_ := Aside0.mk (Kd.R_below (by (with_reducible repeat (first | apply Kd.R_alloc | apply Kd.R_drewN | apply Kd.R_drew)); exact (Kd.R_mono (Kd.R_far (p := ⟨gb268, 1, none⟩) (Kd.R_far (p := ⟨gb268, 0, none⟩) (Kd.R_types HO254.out BK268.out (by decide)) (fun _ hk => hk.2) (.int .i64 t264)) (fun _ hk => hk.2) (.slice Ao37 t265.length co37)) (fun _ h_ => h_.1))) hb); have n1_ := Aside0.mk (Kd.R_elder' (by (with_reducible repeat (first | apply Kd.R_alloc | apply Kd.R_drewN | apply Kd.R_drew)); exact (Kd.R_mono (Kd.R_far (p := ⟨gb268, 1, none⟩) (Kd.R_far (p := ⟨gb268, 0, none⟩) (Kd.R_types HO257.out BK268.out (by decide)) (fun _ hk => hk.2) (.int .i64 t264)) (fun _ hk => hk.2) (.slice Ao37 t265.length co37)) (fun _ h_ => h_.1))) (Kd.R_base ho0) hb); have n2_ := Aside0.mk (Kd.R_below (by (with_reducible repeat (first | apply Kd.R_alloc | apply Kd.R_drewN | apply Kd.R_drew)); exact (Kd.R_mono (Kd.R_far (p := ⟨gb268, 1, none⟩) (Kd.R_far (p := ⟨gb268, 0, none⟩) (Kd.R_types HO261.out BK268.out (by decide)) (fun _ hk => hk.2) (.int .i64 t264)) (fun _ hk => hk.2) (.slice Ao37 t265.length co37)) (fun _ h_ => h_.1))) hb); have n3_ := Aside0.mk (Kd.R_below (by (with_reducible repeat (first | apply Kd.R_alloc | apply Kd.R_drewN | apply Kd.R_drew)); exact (Kd.R_mono (Kd.R_far (p := ⟨gb268, 1, none⟩) (Kd.R_far (p := ⟨gb268, 0, none⟩) (Kd.R_types HO267.out BK268.out (by decide)) (fun _ hk => hk.2) (.int .i64 t264)) (fun _ hk => hk.2) (.slice Ao37 t265.length co37)) (fun _ h_ => h_.1))) hb); have n4_ := Aside0.mk (Kd.R_lower (Kd.R_new' ho0 (Kd.R_lt (by (with_reducible repeat (first | apply Kd.R_alloc | apply Kd.R_drewN | apply Kd.R_drew)); exact (Kd.R_mono (Kd.R_far (p := ⟨gb268, 1, none⟩) (Kd.R_far (p := ⟨gb268, 0, none⟩) (Kd.R_types HO257.out BK268.out (by decide)) (fun _ hk => hk.2) (.int .i64 t264)) (fun _ hk => hk.2) (.slice Ao37 t265.length co37)) (fun _ h_ => h_.1))))) (below_size (by repeat (first | (with_reducible first | exact HB.out | apply bwA | apply bwN | apply bwD | refine below_set ?_ GE249.out | refine below_set ?_ GE263.out | refine below_set ?_ GE268.out) | exact HB.out)))); have n5_ := Aside0.mk (blk_below (g := gb249) (o := .cells #[.int .i64 a0_0, .slice A0_1 l0_1.length c0_1] 59 (0, 0)) (by (with_reducible repeat (first | refine blk_drewN ?_ _ | refine blk_drew ?_ | refine blk_alloc ?_ _)); refine blk_far ?_ NB249_268.out _; (with_reducible repeat (first | refine blk_drewN ?_ _ | refine blk_drew ?_ | refine blk_alloc ?_ _)); refine blk_far ?_ NB249_268.out _; (with_reducible repeat (first | refine blk_drewN ?_ _ | refine blk_drew ?_ | refine blk_alloc ?_ _)); exact BK249.out) hb); have n6_ := Aside0.mk (blk_below (g := gb263) (o := .cells #[.int .i64 t258, .slice Ao30 t259.length co30] 48 (0, 0)) (by (with_reducible repeat (first | refine blk_drewN ?_ _ | refine blk_drew ?_ | refine blk_alloc ?_ _)); refine blk_far ?_ NB263_268.out _; (with_reducible repeat (first | refine blk_drewN ?_ _ | refine blk_drew ?_ | refine blk_alloc ?_ _)); refine blk_far ?_ NB263_268.out _; (with_reducible repeat (first | refine blk_drewN ?_ _ | refine blk_drew ?_ | refine blk_alloc ?_ _)); exact BK263.out) hb); have n7_ := Aside0.mk (blk_below (g := gb268) (o := .cells #[.int .i64 t264, .slice Ao37 t265.length co37] 48 (0, 0)) (by (with_reducible repeat (first | refine blk_drewN ?_ _ | refine blk_drew ?_ | refine blk_alloc ?_ _)); refine blk_put (cs := #[.int .i64 t264, .slice none 0 0]) ?_ 1 _ rfl; (with_reducible repeat (first | refine blk_drewN ?_ _ | refine blk_drew ?_ | refine blk_alloc ?_ _)); refine blk_put (cs := #[.int .i64 0, .slice none 0 0]) ?_ 0 _ rfl; (with_reducible repeat (first | refine blk_drewN ?_ _ | refine blk_drew ?_ | refine blk_alloc ?_ _)); exact BK268.out) hb); have n8_ := Aside0.mk (below_step (by repeat (first | (with_reducible first | exact HB.out | apply bwA | apply bwN | apply bwD | refine below_set ?_ GE249.out | refine below_set ?_ GE263.out | refine below_set ?_ GE268.out) | exact HB.out)) hb); clear HO254; clear HO257; clear HO261; clear HO267; clear BK249; clear BK263; clear BK268; clear HB; have HO254 := n0_; have HO257 := n1_; have HO261 := n2_; have HO267 := n3_; have HO271 := n4_; have BK249 := n5_; have BK263 := n6_; have BK268 := n7_; have HB := n8_; clear n0_ n1_ n2_ n3_ n4_ n5_ n6_ n7_ n8_; (try clear hb); (try clear hb2); (try clear hk); (try clear hi); (try clear ho0); have hcz39_0 : w38.cell? ⟨gb268, 0, none⟩ = some (.int .i64 t264) := (blk_cell BK268.out 0).trans rfl; have hcz39_1 : w38.cell? ⟨gb268, 1, none⟩ = some (.slice Ao37 t265.length co37) := (blk_cell BK268.out 1).trans rfl; have hfz39_0 := blk_frozen BK268.out 0; have hfz39_1 := blk_frozen BK268.out 1; obtain ⟨Ao40, co40, eo40⟩ := Kd.R_slice HO271.out; subst eo40) | ((with_reducible refine gate_callee (f := 30) rfl ?_); refine goesL_ (some 44) rfl rfl Try.func30 (by kernel_rfl) rfl #[.agg #[.int .i64 t264, .slice Ao37 t265.length co37], .int .i64 a1, .slice Ao40 t269.length co40] rfl (by (try simp only [List.map_toArray, List.map_cons, List.map_nil]); first | done | rfl | (simp only [List.length_drop, List.length_take]; rfl)) ?_; (with_reducible refine (impl_Reordered.calls k t264 _ _ t265 a1 _ _ t269 t272 t273 t276 _ ?side1 ?side2 ?side3 ?side4 A16.out).mono ?_); (case side1 => repeat (first | exact (Kd.R_reads' HO267.out).2.2 | (with_reducible refine Kd.C_alloc ?_ _) | (with_reducible refine Kd.C_drewN ?_ _) | (with_reducible refine Kd.C_drew ?_))); (case side2 => exact (Kd.R_reads' HO267.out).2.1); (case side3 => repeat (first | exact (Kd.R_reads' HO271.out).2.2 | (with_reducible refine Kd.C_alloc ?_ _) | (with_reducible refine Kd.C_drewN ?_ _) | (with_reducible refine Kd.C_drew ?_))); (case side4 => exact (Kd.R_reads' HO271.out).2.1); rintro e w41 ⟨v274, rfl, ho0, hb⟩; refine ⟨_, rfl, ?_⟩; have n0_ := Aside0.mk (Kd.R_elder' (by (with_reducible repeat (first | apply Kd.R_alloc | apply Kd.R_drewN | apply Kd.R_drew)); exact HO254.out) (Kd.R_base ho0) hb); have n1_ := Aside0.mk (Kd.R_below (by (with_reducible repeat (first | apply Kd.R_alloc | apply Kd.R_drewN | apply Kd.R_drew)); exact HO257.out) hb); have n2_ := Aside0.mk (Kd.R_elder' (by (with_reducible repeat (first | apply Kd.R_alloc | apply Kd.R_drewN | apply Kd.R_drew)); exact HO261.out) (Kd.R_base ho0) hb); have n3_ := Aside0.mk (Kd.R_elder' (by (with_reducible repeat (first | apply Kd.R_alloc | apply Kd.R_drewN | apply Kd.R_drew)); exact HO267.out) (Kd.R_base ho0) hb); have n4_ := Aside0.mk (Kd.R_below (by (with_reducible repeat (first | apply Kd.R_alloc | apply Kd.R_drewN | apply Kd.R_drew)); exact HO271.out) hb); have n5_ := Aside0.mk (Kd.R_lower (Kd.R_new' (Kd.R_new' (Kd.R_new' ho0 (Kd.R_lt (by (with_reducible repeat (first | apply Kd.R_alloc | apply Kd.R_drewN | apply Kd.R_drew)); exact HO254.out))) (Kd.R_lt (by (with_reducible repeat (first | apply Kd.R_alloc | apply Kd.R_drewN | apply Kd.R_drew)); exact HO261.out))) (Kd.R_lt (by (with_reducible repeat (first | apply Kd.R_alloc | apply Kd.R_drewN | apply Kd.R_drew)); exact HO267.out))) (below_size (by repeat (first | (with_reducible first | exact HB.out | apply bwA | apply bwN | apply bwD | refine below_set ?_ GE249.out | refine below_set ?_ GE263.out | refine below_set ?_ GE268.out) | exact HB.out)))); have n6_ := Aside0.mk (blk_below (g := gb249) (o := .cells #[.int .i64 a0_0, .slice A0_1 l0_1.length c0_1] 59 (0, 0)) (by (with_reducible repeat (first | refine blk_drewN ?_ _ | refine blk_drew ?_ | refine blk_alloc ?_ _)); exact BK249.out) hb); have n7_ := Aside0.mk (blk_below (g := gb263) (o := .cells #[.int .i64 t258, .slice Ao30 t259.length co30] 48 (0, 0)) (by (with_reducible repeat (first | refine blk_drewN ?_ _ | refine blk_drew ?_ | refine blk_alloc ?_ _)); exact BK263.out) hb); have n8_ := Aside0.mk (blk_below (g := gb268) (o := .cells #[.int .i64 t264, .slice Ao37 t265.length co37] 48 (0, 0)) (by (with_reducible repeat (first | refine blk_drewN ?_ _ | refine blk_drew ?_ | refine blk_alloc ?_ _)); exact BK268.out) hb); have n9_ := Aside0.mk (below_step (by repeat (first | (with_reducible first | exact HB.out | apply bwA | apply bwN | apply bwD | refine below_set ?_ GE249.out | refine below_set ?_ GE263.out | refine below_set ?_ GE268.out) | exact HB.out)) hb); clear HO254; clear HO257; clear HO261; clear HO267; clear HO271; clear BK249; clear BK263; clear BK268; clear HB; have HO254 := n0_; have HO257 := n1_; have HO261 := n2_; have HO267 := n3_; have HO271 := n4_; have HO275 := n5_; have BK249 := n6_; have BK263 := n7_; have BK268 := n8_; have HB := n9_; clear n0_ n1_ n2_ n3_ n4_ n5_ n6_ n7_ n8_ n9_; (try clear hb); (try clear hb2); (try clear hk); (try clear hi); (try clear ho0)) | ((with_reducible refine gate_dst (N := 12) rfl ?_); refine box_event ?hg (N := 12) ?hd (cs := #[.int .i64 0, .slice none 0 0]) (t := 48) ?hr ?_; (case hd => rfl); (case hg => rfl); (case hr => first | (go_simp; done) | (go_simp; rfl)); intro gb277 hg w42 hbox hb; have n0_ := Aside0.mk (Kd.R_below (by (with_reducible repeat (first | apply Kd.R_alloc | apply Kd.R_drewN | apply Kd.R_drew)); exact HO254.out) hb); have n1_ := Aside0.mk (Kd.R_below (by (with_reducible repeat (first | apply Kd.R_alloc | apply Kd.R_drewN | apply Kd.R_drew)); exact HO257.out) hb); have n2_ := Aside0.mk (Kd.R_below (by (with_reducible repeat (first | apply Kd.R_alloc | apply Kd.R_drewN | apply Kd.R_drew)); exact HO261.out) hb); have n3_ := Aside0.mk (Kd.R_below (by (with_reducible repeat (first | apply Kd.R_alloc | apply Kd.R_drewN | apply Kd.R_drew)); exact HO267.out) hb); have n4_ := Aside0.mk (Kd.R_below (by (with_reducible repeat (first | apply Kd.R_alloc | apply Kd.R_drewN | apply Kd.R_drew)); exact HO271.out) hb); have n5_ := Aside0.mk (Kd.R_below (by (with_reducible repeat (first | apply Kd.R_alloc | apply Kd.R_drewN | apply Kd.R_drew)); exact HO275.out) hb); have n6_ := Aside0.mk (blk_below (g := gb249) (o := .cells #[.int .i64 a0_0, .slice A0_1 l0_1.length c0_1] 59 (0, 0)) (by (with_reducible repeat (first | refine blk_drewN ?_ _ | refine blk_drew ?_ | refine blk_alloc ?_ _)); exact BK249.out) hb); have n7_ := Aside0.mk (blk_below (g := gb263) (o := .cells #[.int .i64 t258, .slice Ao30 t259.length co30] 48 (0, 0)) (by (with_reducible repeat (first | refine blk_drewN ?_ _ | refine blk_drew ?_ | refine blk_alloc ?_ _)); exact BK263.out) hb); have n8_ := Aside0.mk (blk_below (g := gb268) (o := .cells #[.int .i64 t264, .slice Ao37 t265.length co37] 48 (0, 0)) (by (with_reducible repeat (first | refine blk_drewN ?_ _ | refine blk_drew ?_ | refine blk_alloc ?_ _)); exact BK268.out) hb); have n9_ := Aside0.mk (below_step (by repeat (first | (with_reducible first | exact HB.out | apply bwA | apply bwN | apply bwD | refine below_set ?_ GE249.out | refine below_set ?_ GE263.out | refine below_set ?_ GE268.out) | exact HB.out)) hb); have n10_ := Aside0.mk (hbox); have n11_ := Aside0.mk ((by rw [hg]; exact (below_size (by repeat (first | (with_reducible first | exact HB.out | apply bwA | apply bwN | apply bwD | refine below_set ?_ GE249.out | refine below_set ?_ GE263.out | refine below_set ?_ GE268.out) | exact HB.out))) : w.heap.size ≤ gb277)); have n12_ := Aside0.mk ((by rw [hg]; exact (below_size (by repeat (first | (with_reducible first | exact HB.out | apply bwA | apply bwN | apply bwD | refine below_set ?_ GE249.out | refine below_set ?_ GE263.out | refine below_set ?_ GE268.out) | exact HB.out))) : w.heap.size ≤ gb277)); have n13_ := Aside0.mk ((by rw [hg]; exact Nat.ne_of_lt (blk_lt (g := gb249) (o := .cells #[.int .i64 a0_0, .slice A0_1 l0_1.length c0_1] 59 (0, 0)) (by (with_reducible repeat (first | refine blk_drewN ?_ _ | refine blk_drew ?_ | refine blk_alloc ?_ _)); exact BK249.out)) : gb249 ≠ gb277)); have n14_ := Aside0.mk ((by rw [hg]; exact Nat.ne_of_gt (blk_lt (g := gb249) (o := .cells #[.int .i64 a0_0, .slice A0_1 l0_1.length c0_1] 59 (0, 0)) (by (with_reducible repeat (first | refine blk_drewN ?_ _ | refine blk_drew ?_ | refine blk_alloc ?_ _)); exact BK249.out)) : gb277 ≠ gb249)); have n15_ := Aside0.mk ((by rw [hg]; exact Nat.ne_of_lt (blk_lt (g := gb263) (o := .cells #[.int .i64 t258, .slice Ao30 t259.length co30] 48 (0, 0)) (by (with_reducible repeat (first | refine blk_drewN ?_ _ | refine blk_drew ?_ | refine blk_alloc ?_ _)); exact BK263.out)) : gb263 ≠ gb277)); have n16_ := Aside0.mk ((by rw [hg]; exact Nat.ne_of_gt (blk_lt (g := gb263) (o := .cells #[.int .i64 t258, .slice Ao30 t259.length co30] 48 (0, 0)) (by (with_reducible repeat (first | refine blk_drewN ?_ _ | refine blk_drew ?_ | refine blk_alloc ?_ _)); exact BK263.out)) : gb277 ≠ gb263)); have n17_ := Aside0.mk ((by rw [hg]; exact Nat.ne_of_lt (blk_lt (g := gb268) (o := .cells #[.int .i64 t264, .slice Ao37 t265.length co37] 48 (0, 0)) (by (with_reducible repeat (first | refine blk_drewN ?_ _ | refine blk_drew ?_ | refine blk_alloc ?_ _)); exact BK268.out)) : gb268 ≠ gb277)); have n18_ := Aside0.mk ((by rw [hg]; exact Nat.ne_of_gt (blk_lt (g := gb268) (o := .cells #[.int .i64 t264, .slice Ao37 t265.length co37] 48 (0, 0)) (by (with_reducible repeat (first | refine blk_drewN ?_ _ | refine blk_drew ?_ | refine blk_alloc ?_ _)); exact BK268.out)) : gb277 ≠ gb268)); clear HO254; clear HO257; clear HO261; clear HO267; clear HO271; clear HO275; clear BK249; clear BK263; clear BK268; clear HB; have HO254 := n0_; have HO257 := n1_; have HO261 := n2_; have HO267 := n3_; have HO271 := n4_; have HO275 := n5_; have BK249 := n6_; have BK263 := n7_; have BK268 := n8_; have HB := n9_; have BK277 := n10_; have GW277 := n11_; have GE277 := n12_; have NB249_277 := n13_; have NB277_249 := n14_; have NB263_277 := n15_; have NB277_263 := n16_; have NB268_277 := n17_; have NB277_268 := n18_; clear n0_ n1_ n2_ n3_ n4_ n5_ n6_ n7_ n8_ n9_ n10_ n11_ n12_ n13_ n14_ n15_ n16_ n17_ n18_; clear hb hbox hg; have hnb43 := NB277_249.out; have hnc43 := NB249_277.out; have hnb44 := NB277_263.out; have hnc44 := NB263_277.out; have hnb45 := NB277_268.out; have hnc45 := NB268_277.out; have hcz46_0 : w42.cell? ⟨gb277, 0, none⟩ = some (.int .i64 0) := (blk_cell BK277.out 0).trans rfl; have hcz46_1 : w42.cell? ⟨gb277, 1, none⟩ = some (.slice none 0 0) := (blk_cell BK277.out 1).trans rfl; have hfz46_0 := blk_frozen BK277.out 0; have hfz46_1 := blk_frozen BK277.out 1; obtain ⟨Ao47, co47, eo47⟩ := Kd.R_slice HO275.out; subst eo47))
   (try simp only [Act.put, List.setIfInBounds_toArray, List.set_cons_zero, List.set_cons_succ])
   go_cut [55] (fun v55 wc => ∃ (kq : Nat) (x55_16 : Bool), v55 = .bool x55_16 ∧ Aside0 (laws_FnExactReordered.j0 kq a1 l2 t262 t269 t276 x55_16 a0_0 l0_1 t258 t259 t264 t265 t272 t273 = some r) ∧ Aside0 (kq ≤ k) ∧ Aside0 (Kd.R (Kd.int .i64) 3 wc w.heap.size (fun _ => True) (.slice Ao40 t269.length co40) t269) ∧ Aside0 (Kd.R k56 56 wc w.heap.size (fun k_ => some k_ ≠ ((.slice Ao37 t265.length co37) : Value).ownBlock ∧ some k_ ≠ ((.slice Ao47 t273.length co47) : Value).ownBlock) (.slice Ao30 t259.length co30) t259) ∧ Aside0 (Kd.R k56 56 wc w.heap.size (fun k_ => some k_ ≠ ((.slice Ao30 t259.length co30) : Value).ownBlock ∧ some k_ ≠ ((.slice Ao47 t273.length co47) : Value).ownBlock) (.slice Ao37 t265.length co37) t265) ∧ Aside0 (Kd.R k56 56 wc w.heap.size (fun k_ => some k_ ≠ ((.slice Ao30 t259.length co30) : Value).ownBlock ∧ some k_ ≠ ((.slice Ao37 t265.length co37) : Value).ownBlock) (.slice Ao47 t273.length co47) t273) ∧ Aside0 (wc.heap[gb249]? = some (.cells #[.int .i64 a0_0, (.slice A0_1 l0_1.length c0_1)] 59 (0, 0))) ∧ Aside0 (wc.heap[gb263]? = some (.cells #[.int .i64 t258, (.slice Ao30 t259.length co30)] 48 (0, 0))) ∧ Aside0 (wc.heap[gb268]? = some (.cells #[.int .i64 t264, (.slice Ao37 t265.length co37)] 48 (0, 0))) ∧ Aside0 (wc.heap[gb277]? = some (.cells #[.int .i64 t272, (.slice Ao47 t273.length co47)] 48 (0, 0))) ∧ Aside0 (Below w.heap.size w wc))
   case first =>
    have H := HC17.out
    clear HC17
    replace H := Option.bind_eq_some_iff.mp H
    obtain ⟨t278, A480, H⟩ := H
    replace H : (if t278 = true then (laws_FnExactReordered.j0 k a1 l2 t262 t269 t276 (t276 != t262) a0_0 l0_1 t258 t259 t264 t265 t272 t273) else (laws_FnExactReordered.j0 k a1 l2 t262 t269 t276 true a0_0 l0_1 t258 t259 t264 t265 t272 t273)) = some r := H
    have A48 := Aside0.mk A480
    clear A480
    by_cases c49 : t278 = true
    ·subst c49
     have H1 : (laws_FnExactReordered.j0 k a1 l2 t262 t269 t276 (t276 != t262) a0_0 l0_1 t258 t259 t264 t265 t272 t273) = some r := by rw [if_pos rfl] at H; exact H
     clear H
     have H := H1
     clear H1
     have H' := Aside0.mk H
     clear H
     have hnb50 := NB277_249.out
     have hnc50 := NB249_277.out
     have hnb51 := NB277_263.out
     have hnc51 := NB263_277.out
     have hnb52 := NB277_268.out
     have hnc52 := NB268_277.out
     have hcz53_0 : w42.cell? ⟨gb277, 0, none⟩ = some (.int .i64 0) := (blk_cell BK277.out 0).trans rfl
     have hcz53_1 : w42.cell? ⟨gb277, 1, none⟩ = some (.slice none 0 0) := (blk_cell BK277.out 1).trans rfl
     have hfz53_0 := blk_frozen BK277.out 0
     have hfz53_1 := blk_frozen BK277.out 1
     have hnb54 := NB263_249.out
     have hnc54 := NB249_263.out
     have hnb55 := NB263_268.out
     have hnc55 := NB268_263.out
     have hcz56_0 : w42.cell? ⟨gb263, 0, none⟩ = some (.int .i64 t258) := (blk_cell BK263.out 0).trans rfl
     have hcz56_1 : w42.cell? ⟨gb263, 1, none⟩ = some (.slice Ao30 t259.length co30) := (blk_cell BK263.out 1).trans rfl
     have hfz56_0 := blk_frozen BK263.out 0
     have hfz56_1 := blk_frozen BK263.out 1
     go_wp2_with (first | ((with_reducible refine gate_callee (f := 39) rfl ?_); refine goesL_ (some 49) rfl rfl Try.func39 (by kernel_rfl) rfl #[.agg #[.int .i64 t272, .slice Ao47 t273.length co47], .agg #[.int .i64 t258, .slice Ao30 t259.length co30]] rfl (by (try simp only [List.map_toArray, List.map_cons, List.map_nil]); first | done | rfl | (simp only [List.length_drop, List.length_take]; rfl)) ?_; (with_reducible refine (laws_eqDiagram.calls k t272 _ _ t273 t258 _ _ t259 true _ ?side1 ?side2 ?side3 ?side4 A48.out).mono ?_); (case side1 => refine (Kd.R_reads' (e := 56) (base := w.heap.size) (ok := fun k_ => (((True ∧ some k_ ≠ (.slice Ao24 t252.length co24 : Value).ownBlock) ∧ some k_ ≠ (.slice Ao30 t259.length co30 : Value).ownBlock) ∧ some k_ ≠ (.slice Ao37 t265.length co37 : Value).ownBlock)) (n := t273.length) (c := co47) ?_).2.2; exact (by (with_reducible repeat (first | apply Kd.R_alloc | apply Kd.R_drewN | apply Kd.R_drew)); exact (Kd.R_mono (Kd.R_far (p := ⟨gb277, 1, none⟩) (Kd.R_far (p := ⟨gb277, 0, none⟩) (Kd.R_types HO275.out BK277.out (by decide)) (fun _ hk => hk.2) (.int .i64 t272)) (fun _ hk => hk.2) (.slice Ao47 t273.length co47)) (fun _ h_ => h_.1)))); (case side2 => exact (Kd.R_reads' HO275.out).2.1); (case side3 => refine (Kd.R_reads' (e := 56) (base := w.heap.size) (ok := fun k_ => (((True ∧ some k_ ≠ (.slice Ao24 t252.length co24 : Value).ownBlock) ∧ some k_ ≠ (.slice Ao37 t265.length co37 : Value).ownBlock) ∧ some k_ ≠ (.slice Ao47 t273.length co47 : Value).ownBlock)) (n := t259.length) (c := co30) ?_).2.2; exact (by (with_reducible repeat (first | apply Kd.R_alloc | apply Kd.R_drewN | apply Kd.R_drew)); exact (Kd.R_mono (Kd.R_far (p := ⟨gb277, 1, none⟩) (Kd.R_far (p := ⟨gb277, 0, none⟩) (Kd.R_types HO261.out BK277.out (by decide)) (fun _ hk => hk.2) (.int .i64 t272)) (fun _ hk => hk.2) (.slice Ao47 t273.length co47)) (fun _ h_ => h_.1)))); (case side4 => exact (Kd.R_reads' HO261.out).2.1); rintro e w57 ⟨rfl, hb⟩; refine ⟨_, rfl, ?_⟩; have n0_ := Aside0.mk (Kd.R_below (by (with_reducible repeat (first | apply Kd.R_alloc | apply Kd.R_drewN | apply Kd.R_drew)); exact (Kd.R_mono (Kd.R_far (p := ⟨gb277, 1, none⟩) (Kd.R_far (p := ⟨gb277, 0, none⟩) (Kd.R_types HO254.out BK277.out (by decide)) (fun _ hk => hk.2) (.int .i64 t272)) (fun _ hk => hk.2) (.slice Ao47 t273.length co47)) (fun _ h_ => h_.1))) hb); have n1_ := Aside0.mk (Kd.R_below (by (with_reducible repeat (first | apply Kd.R_alloc | apply Kd.R_drewN | apply Kd.R_drew)); exact (Kd.R_mono (Kd.R_far (p := ⟨gb277, 1, none⟩) (Kd.R_far (p := ⟨gb277, 0, none⟩) (Kd.R_types HO257.out BK277.out (by decide)) (fun _ hk => hk.2) (.int .i64 t272)) (fun _ hk => hk.2) (.slice Ao47 t273.length co47)) (fun _ h_ => h_.1))) hb); have n2_ := Aside0.mk (Kd.R_below (by (with_reducible repeat (first | apply Kd.R_alloc | apply Kd.R_drewN | apply Kd.R_drew)); exact (Kd.R_mono (Kd.R_far (p := ⟨gb277, 1, none⟩) (Kd.R_far (p := ⟨gb277, 0, none⟩) (Kd.R_types HO261.out BK277.out (by decide)) (fun _ hk => hk.2) (.int .i64 t272)) (fun _ hk => hk.2) (.slice Ao47 t273.length co47)) (fun _ h_ => h_.1))) hb); have n3_ := Aside0.mk (Kd.R_below (by (with_reducible repeat (first | apply Kd.R_alloc | apply Kd.R_drewN | apply Kd.R_drew)); exact (Kd.R_mono (Kd.R_far (p := ⟨gb277, 1, none⟩) (Kd.R_far (p := ⟨gb277, 0, none⟩) (Kd.R_types HO267.out BK277.out (by decide)) (fun _ hk => hk.2) (.int .i64 t272)) (fun _ hk => hk.2) (.slice Ao47 t273.length co47)) (fun _ h_ => h_.1))) hb); have n4_ := Aside0.mk (Kd.R_below (by (with_reducible repeat (first | apply Kd.R_alloc | apply Kd.R_drewN | apply Kd.R_drew)); exact (Kd.R_mono (Kd.R_far (p := ⟨gb277, 1, none⟩) (Kd.R_far (p := ⟨gb277, 0, none⟩) (Kd.R_types HO271.out BK277.out (by decide)) (fun _ hk => hk.2) (.int .i64 t272)) (fun _ hk => hk.2) (.slice Ao47 t273.length co47)) (fun _ h_ => h_.1))) hb); have n5_ := Aside0.mk (Kd.R_below (by (with_reducible repeat (first | apply Kd.R_alloc | apply Kd.R_drewN | apply Kd.R_drew)); exact (Kd.R_mono (Kd.R_far (p := ⟨gb277, 1, none⟩) (Kd.R_far (p := ⟨gb277, 0, none⟩) (Kd.R_types HO275.out BK277.out (by decide)) (fun _ hk => hk.2) (.int .i64 t272)) (fun _ hk => hk.2) (.slice Ao47 t273.length co47)) (fun _ h_ => h_.1))) hb); have n6_ := Aside0.mk (blk_below (g := gb249) (o := .cells #[.int .i64 a0_0, .slice A0_1 l0_1.length c0_1] 59 (0, 0)) (by (with_reducible repeat (first | refine blk_drewN ?_ _ | refine blk_drew ?_ | refine blk_alloc ?_ _)); refine blk_far ?_ NB249_277.out _; (with_reducible repeat (first | refine blk_drewN ?_ _ | refine blk_drew ?_ | refine blk_alloc ?_ _)); refine blk_far ?_ NB249_277.out _; (with_reducible repeat (first | refine blk_drewN ?_ _ | refine blk_drew ?_ | refine blk_alloc ?_ _)); exact BK249.out) hb); have n7_ := Aside0.mk (blk_below (g := gb263) (o := .cells #[.int .i64 t258, .slice Ao30 t259.length co30] 48 (0, 0)) (by (with_reducible repeat (first | refine blk_drewN ?_ _ | refine blk_drew ?_ | refine blk_alloc ?_ _)); refine blk_far ?_ NB263_277.out _; (with_reducible repeat (first | refine blk_drewN ?_ _ | refine blk_drew ?_ | refine blk_alloc ?_ _)); refine blk_far ?_ NB263_277.out _; (with_reducible repeat (first | refine blk_drewN ?_ _ | refine blk_drew ?_ | refine blk_alloc ?_ _)); exact BK263.out) hb); have n8_ := Aside0.mk (blk_below (g := gb268) (o := .cells #[.int .i64 t264, .slice Ao37 t265.length co37] 48 (0, 0)) (by (with_reducible repeat (first | refine blk_drewN ?_ _ | refine blk_drew ?_ | refine blk_alloc ?_ _)); refine blk_far ?_ NB268_277.out _; (with_reducible repeat (first | refine blk_drewN ?_ _ | refine blk_drew ?_ | refine blk_alloc ?_ _)); refine blk_far ?_ NB268_277.out _; (with_reducible repeat (first | refine blk_drewN ?_ _ | refine blk_drew ?_ | refine blk_alloc ?_ _)); exact BK268.out) hb); have n9_ := Aside0.mk (blk_below (g := gb277) (o := .cells #[.int .i64 t272, .slice Ao47 t273.length co47] 48 (0, 0)) (by (with_reducible repeat (first | refine blk_drewN ?_ _ | refine blk_drew ?_ | refine blk_alloc ?_ _)); refine blk_put (cs := #[.int .i64 t272, .slice none 0 0]) ?_ 1 _ rfl; (with_reducible repeat (first | refine blk_drewN ?_ _ | refine blk_drew ?_ | refine blk_alloc ?_ _)); refine blk_put (cs := #[.int .i64 0, .slice none 0 0]) ?_ 0 _ rfl; (with_reducible repeat (first | refine blk_drewN ?_ _ | refine blk_drew ?_ | refine blk_alloc ?_ _)); exact BK277.out) hb); have n10_ := Aside0.mk (below_step (by repeat (first | (with_reducible first | exact HB.out | apply bwA | apply bwN | apply bwD | refine below_set ?_ GE249.out | refine below_set ?_ GE263.out | refine below_set ?_ GE268.out | refine below_set ?_ GE277.out) | exact HB.out)) hb); clear HO254; clear HO257; clear HO261; clear HO267; clear HO271; clear HO275; clear BK249; clear BK263; clear BK268; clear BK277; clear HB; have HO254 := n0_; have HO257 := n1_; have HO261 := n2_; have HO267 := n3_; have HO271 := n4_; have HO275 := n5_; have BK249 := n6_; have BK263 := n7_; have BK268 := n8_; have BK277 := n9_; have HB := n10_; clear n0_ n1_ n2_ n3_ n4_ n5_ n6_ n7_ n8_ n9_ n10_; (try clear hb); (try clear hb2); (try clear hk); (try clear hi)))
     go_meet
     case rel => exact ⟨_, ((t276 != t262)), (by first | rfl | (simp; done) | (simp [*]; done)), H', ⟨by first | omega | exact Nat.le_refl _⟩, ⟨by (with_reducible repeat (first | apply Kd.R_alloc | apply Kd.R_drewN | apply Kd.R_drew)); exact Kd.R_mono HO271.out (fun _ hk => trivial)⟩, ⟨by (with_reducible repeat (first | apply Kd.R_alloc | apply Kd.R_drewN | apply Kd.R_drew)); exact Kd.R_mono HO261.out (fun _ hk => ⟨hk.1.2, hk.2⟩)⟩, ⟨by (with_reducible repeat (first | apply Kd.R_alloc | apply Kd.R_drewN | apply Kd.R_drew)); exact Kd.R_mono HO267.out (fun _ hk => ⟨hk.1.2, hk.2⟩)⟩, ⟨by (with_reducible repeat (first | apply Kd.R_alloc | apply Kd.R_drewN | apply Kd.R_drew)); exact Kd.R_mono HO275.out (fun _ hk => ⟨hk.1.2, hk.2⟩)⟩, ⟨by (with_reducible repeat (first | refine blk_drewN ?_ _ | refine blk_drew ?_ | refine blk_alloc ?_ _)); exact BK249.out⟩, ⟨by (with_reducible repeat (first | refine blk_drewN ?_ _ | refine blk_drew ?_ | refine blk_alloc ?_ _)); exact BK263.out⟩, ⟨by (with_reducible repeat (first | refine blk_drewN ?_ _ | refine blk_drew ?_ | refine blk_alloc ?_ _)); exact BK268.out⟩, ⟨by (with_reducible repeat (first | refine blk_drewN ?_ _ | refine blk_drew ?_ | refine blk_alloc ?_ _)); exact BK277.out⟩, ⟨by repeat (first | (with_reducible first | exact HB.out | apply bwA | apply bwN | apply bwD | refine below_set ?_ GE249.out | refine below_set ?_ GE263.out | refine below_set ?_ GE268.out | refine below_set ?_ GE277.out) | exact HB.out)⟩⟩
    ·replace c49 := Bool.eq_false_iff.mpr c49
     subst c49
     have H1 : (laws_FnExactReordered.j0 k a1 l2 t262 t269 t276 true a0_0 l0_1 t258 t259 t264 t265 t272 t273) = some r := by rw [if_neg (show ¬ (false = true) by decide)] at H; exact H
     clear H
     have H := H1
     clear H1
     have H' := Aside0.mk H
     clear H
     have hnb58 := NB277_249.out
     have hnc58 := NB249_277.out
     have hnb59 := NB277_263.out
     have hnc59 := NB263_277.out
     have hnb60 := NB277_268.out
     have hnc60 := NB268_277.out
     have hcz61_0 : w42.cell? ⟨gb277, 0, none⟩ = some (.int .i64 0) := (blk_cell BK277.out 0).trans rfl
     have hcz61_1 : w42.cell? ⟨gb277, 1, none⟩ = some (.slice none 0 0) := (blk_cell BK277.out 1).trans rfl
     have hfz61_0 := blk_frozen BK277.out 0
     have hfz61_1 := blk_frozen BK277.out 1
     have hnb62 := NB263_249.out
     have hnc62 := NB249_263.out
     have hnb63 := NB263_268.out
     have hnc63 := NB268_263.out
     have hcz64_0 : w42.cell? ⟨gb263, 0, none⟩ = some (.int .i64 t258) := (blk_cell BK263.out 0).trans rfl
     have hcz64_1 : w42.cell? ⟨gb263, 1, none⟩ = some (.slice Ao30 t259.length co30) := (blk_cell BK263.out 1).trans rfl
     have hfz64_0 := blk_frozen BK263.out 0
     have hfz64_1 := blk_frozen BK263.out 1
     go_wp2_with (first | ((with_reducible refine gate_callee (f := 39) rfl ?_); refine goesL_ (some 49) rfl rfl Try.func39 (by kernel_rfl) rfl #[.agg #[.int .i64 t272, .slice Ao47 t273.length co47], .agg #[.int .i64 t258, .slice Ao30 t259.length co30]] rfl (by (try simp only [List.map_toArray, List.map_cons, List.map_nil]); first | done | rfl | (simp only [List.length_drop, List.length_take]; rfl)) ?_; (with_reducible refine (laws_eqDiagram.calls k t272 _ _ t273 t258 _ _ t259 false _ ?side1 ?side2 ?side3 ?side4 A48.out).mono ?_); (case side1 => refine (Kd.R_reads' (e := 56) (base := w.heap.size) (ok := fun k_ => (((True ∧ some k_ ≠ (.slice Ao24 t252.length co24 : Value).ownBlock) ∧ some k_ ≠ (.slice Ao30 t259.length co30 : Value).ownBlock) ∧ some k_ ≠ (.slice Ao37 t265.length co37 : Value).ownBlock)) (n := t273.length) (c := co47) ?_).2.2; exact (by (with_reducible repeat (first | apply Kd.R_alloc | apply Kd.R_drewN | apply Kd.R_drew)); exact (Kd.R_mono (Kd.R_far (p := ⟨gb277, 1, none⟩) (Kd.R_far (p := ⟨gb277, 0, none⟩) (Kd.R_types HO275.out BK277.out (by decide)) (fun _ hk => hk.2) (.int .i64 t272)) (fun _ hk => hk.2) (.slice Ao47 t273.length co47)) (fun _ h_ => h_.1)))); (case side2 => exact (Kd.R_reads' HO275.out).2.1); (case side3 => refine (Kd.R_reads' (e := 56) (base := w.heap.size) (ok := fun k_ => (((True ∧ some k_ ≠ (.slice Ao24 t252.length co24 : Value).ownBlock) ∧ some k_ ≠ (.slice Ao37 t265.length co37 : Value).ownBlock) ∧ some k_ ≠ (.slice Ao47 t273.length co47 : Value).ownBlock)) (n := t259.length) (c := co30) ?_).2.2; exact (by (with_reducible repeat (first | apply Kd.R_alloc | apply Kd.R_drewN | apply Kd.R_drew)); exact (Kd.R_mono (Kd.R_far (p := ⟨gb277, 1, none⟩) (Kd.R_far (p := ⟨gb277, 0, none⟩) (Kd.R_types HO261.out BK277.out (by decide)) (fun _ hk => hk.2) (.int .i64 t272)) (fun _ hk => hk.2) (.slice Ao47 t273.length co47)) (fun _ h_ => h_.1)))); (case side4 => exact (Kd.R_reads' HO261.out).2.1); rintro e w65 ⟨rfl, hb⟩; refine ⟨_, rfl, ?_⟩; have n0_ := Aside0.mk (Kd.R_below (by (with_reducible repeat (first | apply Kd.R_alloc | apply Kd.R_drewN | apply Kd.R_drew)); exact (Kd.R_mono (Kd.R_far (p := ⟨gb277, 1, none⟩) (Kd.R_far (p := ⟨gb277, 0, none⟩) (Kd.R_types HO254.out BK277.out (by decide)) (fun _ hk => hk.2) (.int .i64 t272)) (fun _ hk => hk.2) (.slice Ao47 t273.length co47)) (fun _ h_ => h_.1))) hb); have n1_ := Aside0.mk (Kd.R_below (by (with_reducible repeat (first | apply Kd.R_alloc | apply Kd.R_drewN | apply Kd.R_drew)); exact (Kd.R_mono (Kd.R_far (p := ⟨gb277, 1, none⟩) (Kd.R_far (p := ⟨gb277, 0, none⟩) (Kd.R_types HO257.out BK277.out (by decide)) (fun _ hk => hk.2) (.int .i64 t272)) (fun _ hk => hk.2) (.slice Ao47 t273.length co47)) (fun _ h_ => h_.1))) hb); have n2_ := Aside0.mk (Kd.R_below (by (with_reducible repeat (first | apply Kd.R_alloc | apply Kd.R_drewN | apply Kd.R_drew)); exact (Kd.R_mono (Kd.R_far (p := ⟨gb277, 1, none⟩) (Kd.R_far (p := ⟨gb277, 0, none⟩) (Kd.R_types HO261.out BK277.out (by decide)) (fun _ hk => hk.2) (.int .i64 t272)) (fun _ hk => hk.2) (.slice Ao47 t273.length co47)) (fun _ h_ => h_.1))) hb); have n3_ := Aside0.mk (Kd.R_below (by (with_reducible repeat (first | apply Kd.R_alloc | apply Kd.R_drewN | apply Kd.R_drew)); exact (Kd.R_mono (Kd.R_far (p := ⟨gb277, 1, none⟩) (Kd.R_far (p := ⟨gb277, 0, none⟩) (Kd.R_types HO267.out BK277.out (by decide)) (fun _ hk => hk.2) (.int .i64 t272)) (fun _ hk => hk.2) (.slice Ao47 t273.length co47)) (fun _ h_ => h_.1))) hb); have n4_ := Aside0.mk (Kd.R_below (by (with_reducible repeat (first | apply Kd.R_alloc | apply Kd.R_drewN | apply Kd.R_drew)); exact (Kd.R_mono (Kd.R_far (p := ⟨gb277, 1, none⟩) (Kd.R_far (p := ⟨gb277, 0, none⟩) (Kd.R_types HO271.out BK277.out (by decide)) (fun _ hk => hk.2) (.int .i64 t272)) (fun _ hk => hk.2) (.slice Ao47 t273.length co47)) (fun _ h_ => h_.1))) hb); have n5_ := Aside0.mk (Kd.R_below (by (with_reducible repeat (first | apply Kd.R_alloc | apply Kd.R_drewN | apply Kd.R_drew)); exact (Kd.R_mono (Kd.R_far (p := ⟨gb277, 1, none⟩) (Kd.R_far (p := ⟨gb277, 0, none⟩) (Kd.R_types HO275.out BK277.out (by decide)) (fun _ hk => hk.2) (.int .i64 t272)) (fun _ hk => hk.2) (.slice Ao47 t273.length co47)) (fun _ h_ => h_.1))) hb); have n6_ := Aside0.mk (blk_below (g := gb249) (o := .cells #[.int .i64 a0_0, .slice A0_1 l0_1.length c0_1] 59 (0, 0)) (by (with_reducible repeat (first | refine blk_drewN ?_ _ | refine blk_drew ?_ | refine blk_alloc ?_ _)); refine blk_far ?_ NB249_277.out _; (with_reducible repeat (first | refine blk_drewN ?_ _ | refine blk_drew ?_ | refine blk_alloc ?_ _)); refine blk_far ?_ NB249_277.out _; (with_reducible repeat (first | refine blk_drewN ?_ _ | refine blk_drew ?_ | refine blk_alloc ?_ _)); exact BK249.out) hb); have n7_ := Aside0.mk (blk_below (g := gb263) (o := .cells #[.int .i64 t258, .slice Ao30 t259.length co30] 48 (0, 0)) (by (with_reducible repeat (first | refine blk_drewN ?_ _ | refine blk_drew ?_ | refine blk_alloc ?_ _)); refine blk_far ?_ NB263_277.out _; (with_reducible repeat (first | refine blk_drewN ?_ _ | refine blk_drew ?_ | refine blk_alloc ?_ _)); refine blk_far ?_ NB263_277.out _; (with_reducible repeat (first | refine blk_drewN ?_ _ | refine blk_drew ?_ | refine blk_alloc ?_ _)); exact BK263.out) hb); have n8_ := Aside0.mk (blk_below (g := gb268) (o := .cells #[.int .i64 t264, .slice Ao37 t265.length co37] 48 (0, 0)) (by (with_reducible repeat (first | refine blk_drewN ?_ _ | refine blk_drew ?_ | refine blk_alloc ?_ _)); refine blk_far ?_ NB268_277.out _; (with_reducible repeat (first | refine blk_drewN ?_ _ | refine blk_drew ?_ | refine blk_alloc ?_ _)); refine blk_far ?_ NB268_277.out _; (with_reducible repeat (first | refine blk_drewN ?_ _ | refine blk_drew ?_ | refine blk_alloc ?_ _)); exact BK268.out) hb); have n9_ := Aside0.mk (blk_below (g := gb277) (o := .cells #[.int .i64 t272, .slice Ao47 t273.length co47] 48 (0, 0)) (by (with_reducible repeat (first | refine blk_drewN ?_ _ | refine blk_drew ?_ | refine blk_alloc ?_ _)); refine blk_put (cs := #[.int .i64 t272, .slice none 0 0]) ?_ 1 _ rfl; (with_reducible repeat (first | refine blk_drewN ?_ _ | refine blk_drew ?_ | refine blk_alloc ?_ _)); refine blk_put (cs := #[.int .i64 0, .slice none 0 0]) ?_ 0 _ rfl; (with_reducible repeat (first | refine blk_drewN ?_ _ | refine blk_drew ?_ | refine blk_alloc ?_ _)); exact BK277.out) hb); have n10_ := Aside0.mk (below_step (by repeat (first | (with_reducible first | exact HB.out | apply bwA | apply bwN | apply bwD | refine below_set ?_ GE249.out | refine below_set ?_ GE263.out | refine below_set ?_ GE268.out | refine below_set ?_ GE277.out) | exact HB.out)) hb); clear HO254; clear HO257; clear HO261; clear HO267; clear HO271; clear HO275; clear BK249; clear BK263; clear BK268; clear BK277; clear HB; have HO254 := n0_; have HO257 := n1_; have HO261 := n2_; have HO267 := n3_; have HO271 := n4_; have HO275 := n5_; have BK249 := n6_; have BK263 := n7_; have BK268 := n8_; have BK277 := n9_; have HB := n10_; clear n0_ n1_ n2_ n3_ n4_ n5_ n6_ n7_ n8_ n9_ n10_; (try clear hb); (try clear hb2); (try clear hk); (try clear hi)))
     go_meet
     case rel => exact ⟨_, (true), (by first | rfl | (simp; done) | (simp [*]; done)), H', ⟨by first | omega | exact Nat.le_refl _⟩, ⟨by (with_reducible repeat (first | apply Kd.R_alloc | apply Kd.R_drewN | apply Kd.R_drew)); exact Kd.R_mono HO271.out (fun _ hk => trivial)⟩, ⟨by (with_reducible repeat (first | apply Kd.R_alloc | apply Kd.R_drewN | apply Kd.R_drew)); exact Kd.R_mono HO261.out (fun _ hk => ⟨hk.1.2, hk.2⟩)⟩, ⟨by (with_reducible repeat (first | apply Kd.R_alloc | apply Kd.R_drewN | apply Kd.R_drew)); exact Kd.R_mono HO267.out (fun _ hk => ⟨hk.1.2, hk.2⟩)⟩, ⟨by (with_reducible repeat (first | apply Kd.R_alloc | apply Kd.R_drewN | apply Kd.R_drew)); exact Kd.R_mono HO275.out (fun _ hk => ⟨hk.1.2, hk.2⟩)⟩, ⟨by (with_reducible repeat (first | refine blk_drewN ?_ _ | refine blk_drew ?_ | refine blk_alloc ?_ _)); exact BK249.out⟩, ⟨by (with_reducible repeat (first | refine blk_drewN ?_ _ | refine blk_drew ?_ | refine blk_alloc ?_ _)); exact BK263.out⟩, ⟨by (with_reducible repeat (first | refine blk_drewN ?_ _ | refine blk_drew ?_ | refine blk_alloc ?_ _)); exact BK268.out⟩, ⟨by (with_reducible repeat (first | refine blk_drewN ?_ _ | refine blk_drew ?_ | refine blk_alloc ?_ _)); exact BK277.out⟩, ⟨by repeat (first | (with_reducible first | exact HB.out | apply bwA | apply bwN | apply bwD | refine below_set ?_ GE249.out | refine below_set ?_ GE263.out | refine below_set ?_ GE268.out | refine below_set ?_ GE277.out) | exact HB.out)⟩⟩
   case rest =>
    clear HC17
    try clear c1
    try clear c2
    try clear p2
    try clear c3
    try clear c4
    try clear c4b0
    try clear c4b1
    try clear c5
    try clear c6
    try clear c7
    try clear c7b0
    try clear c11
    try clear c28
    try clear c30
    try clear c33
    try clear c34
    try clear c35
    try clear c36
    try clear c38
    try clear c39
    try clear c43
    try clear c44
    try clear c45
    try clear c49
    try clear c50
    try clear c51
    try clear c52
    try clear c54
    try clear c55
    try clear c58
    try clear c59
    try clear c60
    try clear c62
    try clear c63
    try clear hcz19_0
    try clear hcz19_1
    try clear hcz21_0
    try clear hcz21_1
    try clear hcz29_0
    try clear hcz29_1
    try clear hcz31_0
    try clear hcz31_1
    try clear hcz36_0
    try clear hcz36_1
    try clear hcz39_0
    try clear hcz39_1
    try clear hcz46_0
    try clear hcz46_1
    try clear hcz53_0
    try clear hcz53_1
    try clear hcz56_0
    try clear hcz56_1
    try clear hcz61_0
    try clear hcz61_1
    try clear hcz64_0
    try clear hcz64_1
    try clear hcz9_0
    try clear hcz9_1
    try clear hfz19_0
    try clear hfz19_1
    try clear hfz21_0
    try clear hfz21_1
    try clear hfz29_0
    try clear hfz29_1
    try clear hfz31_0
    try clear hfz31_1
    try clear hfz36_0
    try clear hfz36_1
    try clear hfz39_0
    try clear hfz39_1
    try clear hfz46_0
    try clear hfz46_1
    try clear hfz53_0
    try clear hfz53_1
    try clear hfz56_0
    try clear hfz56_1
    try clear hfz61_0
    try clear hfz61_1
    try clear hfz64_0
    try clear hfz64_1
    try clear hfz9_0
    try clear hfz9_1
    obtain ⟨kq, x55_16, rfl, HA, HJ16, HO_11, HO_264001, HO_269001, HO_278001, BK249, BK263, BK268, BK277, HB⟩ := hcut
    cases kq with
    | zero => exact absurd HA.out (by simp [laws_FnExactReordered.j0])
    | succ kj16 =>
     have H := HA.out
     clear HA
     simp only [laws_FnExactReordered.j0] at H
     by_cases c66 : x55_16 = true
     ·subst c66
      have H1 : (some false) = some r := by rw [if_pos rfl] at H; exact H
      clear H
      have H := H1
      clear H1
      obtain rfl := Option.some.inj H
      go_wp2
      go_ret
      exact ⟨by first | rfl | (simp [errW_none, errW_some] <;> rfl) | (simp [*, errW_none, errW_some] <;> rfl), by repeat (first | (with_reducible first | exact HB.out | apply bwA | apply bwN | apply bwD | refine below_set ?_ GE249.out | refine below_set ?_ GE263.out | refine below_set ?_ GE268.out | refine below_set ?_ GE277.out) | exact HB.out)⟩
     ·replace c66 := Bool.eq_false_iff.mpr c66
      subst c66
      have H1 : ((laws_toDiagram.f kj16 a0_0 l0_1).bind fun bt279 => ((laws_eqDiagram.f kj16 t264 t265 bt279.1 bt279.2).bind fun t283 => (if t283 = true then ((laws_toIntS.f kj16 l2).bind fun t284 => ((laws_eqIntS.f kj16 t269 t284).bind fun t287 => (if t287 = true then ((laws_markDiagram.f kj16 t264 t265 1).bind fun bt288 => ((laws_markIntS.f kj16 t269 bt288.1).bind fun bt290 => (if bt290.1 < 0 then (laws_FnExactReordered.j1 kj16 a1 l2 t262 true a0_0 l0_1 t258 t259 t272 t273) else ((laws_eqDiagram.f kj16 t272 t273 t258 t259).bind fun t292 => (if t292 = true then (laws_FnExactReordered.j1 kj16 a1 l2 t262 (t276 != t262) a0_0 l0_1 t258 t259 t272 t273) else (laws_FnExactReordered.j1 kj16 a1 l2 t262 true a0_0 l0_1 t258 t259 t272 t273)))))) else (some false)))) else (some false)))) = some r := by rw [if_neg (show ¬ (false = true) by decide)] at H; exact H
      clear H
      have H := H1
      clear H1
      replace H := Option.bind_eq_some_iff.mp H
      obtain ⟨⟨t279, t280⟩, A670, H⟩ := H
      replace H : ((laws_eqDiagram.f kj16 t264 t265 t279 t280).bind fun t283 => (if t283 = true then ((laws_toIntS.f kj16 l2).bind fun t284 => ((laws_eqIntS.f kj16 t269 t284).bind fun t287 => (if t287 = true then ((laws_markDiagram.f kj16 t264 t265 1).bind fun bt288 => ((laws_markIntS.f kj16 t269 bt288.1).bind fun bt290 => (if bt290.1 < 0 then (laws_FnExactReordered.j1 kj16 a1 l2 t262 true a0_0 l0_1 t258 t259 t272 t273) else ((laws_eqDiagram.f kj16 t272 t273 t258 t259).bind fun t292 => (if t292 = true then (laws_FnExactReordered.j1 kj16 a1 l2 t262 (t276 != t262) a0_0 l0_1 t258 t259 t272 t273) else (laws_FnExactReordered.j1 kj16 a1 l2 t262 true a0_0 l0_1 t258 t259 t272 t273)))))) else (some false)))) else (some false))) = some r := H
      have A67 := Aside0.mk A670
      clear A670
      replace H := Option.bind_eq_some_iff.mp H
      obtain ⟨t283, A680, H⟩ := H
      replace H : (if t283 = true then ((laws_toIntS.f kj16 l2).bind fun t284 => ((laws_eqIntS.f kj16 t269 t284).bind fun t287 => (if t287 = true then ((laws_markDiagram.f kj16 t264 t265 1).bind fun bt288 => ((laws_markIntS.f kj16 t269 bt288.1).bind fun bt290 => (if bt290.1 < 0 then (laws_FnExactReordered.j1 kj16 a1 l2 t262 true a0_0 l0_1 t258 t259 t272 t273) else ((laws_eqDiagram.f kj16 t272 t273 t258 t259).bind fun t292 => (if t292 = true then (laws_FnExactReordered.j1 kj16 a1 l2 t262 (t276 != t262) a0_0 l0_1 t258 t259 t272 t273) else (laws_FnExactReordered.j1 kj16 a1 l2 t262 true a0_0 l0_1 t258 t259 t272 t273)))))) else (some false)))) else (some false)) = some r := H
      have A68 := Aside0.mk A680
      clear A680
      by_cases c69 : t283 = true
      ·subst c69
       have H1 : ((laws_toIntS.f kj16 l2).bind fun t284 => ((laws_eqIntS.f kj16 t269 t284).bind fun t287 => (if t287 = true then ((laws_markDiagram.f kj16 t264 t265 1).bind fun bt288 => ((laws_markIntS.f kj16 t269 bt288.1).bind fun bt290 => (if bt290.1 < 0 then (laws_FnExactReordered.j1 kj16 a1 l2 t262 true a0_0 l0_1 t258 t259 t272 t273) else ((laws_eqDiagram.f kj16 t272 t273 t258 t259).bind fun t292 => (if t292 = true then (laws_FnExactReordered.j1 kj16 a1 l2 t262 (t276 != t262) a0_0 l0_1 t258 t259 t272 t273) else (laws_FnExactReordered.j1 kj16 a1 l2 t262 true a0_0 l0_1 t258 t259 t272 t273)))))) else (some false)))) = some r := by rw [if_pos rfl] at H; exact H
       clear H
       have H := H1
       clear H1
       replace H := Option.bind_eq_some_iff.mp H
       obtain ⟨t284, A700, H⟩ := H
       replace H : ((laws_eqIntS.f kj16 t269 t284).bind fun t287 => (if t287 = true then ((laws_markDiagram.f kj16 t264 t265 1).bind fun bt288 => ((laws_markIntS.f kj16 t269 bt288.1).bind fun bt290 => (if bt290.1 < 0 then (laws_FnExactReordered.j1 kj16 a1 l2 t262 true a0_0 l0_1 t258 t259 t272 t273) else ((laws_eqDiagram.f kj16 t272 t273 t258 t259).bind fun t292 => (if t292 = true then (laws_FnExactReordered.j1 kj16 a1 l2 t262 (t276 != t262) a0_0 l0_1 t258 t259 t272 t273) else (laws_FnExactReordered.j1 kj16 a1 l2 t262 true a0_0 l0_1 t258 t259 t272 t273)))))) else (some false))) = some r := H
       have A70 := Aside0.mk A700
       clear A700
       replace H := Option.bind_eq_some_iff.mp H
       obtain ⟨t287, A710, H⟩ := H
       replace H : (if t287 = true then ((laws_markDiagram.f kj16 t264 t265 1).bind fun bt288 => ((laws_markIntS.f kj16 t269 bt288.1).bind fun bt290 => (if bt290.1 < 0 then (laws_FnExactReordered.j1 kj16 a1 l2 t262 true a0_0 l0_1 t258 t259 t272 t273) else ((laws_eqDiagram.f kj16 t272 t273 t258 t259).bind fun t292 => (if t292 = true then (laws_FnExactReordered.j1 kj16 a1 l2 t262 (t276 != t262) a0_0 l0_1 t258 t259 t272 t273) else (laws_FnExactReordered.j1 kj16 a1 l2 t262 true a0_0 l0_1 t258 t259 t272 t273)))))) else (some false)) = some r := H
       have A71 := Aside0.mk A710
       clear A710
       by_cases c72 : t287 = true
       ·subst c72
        have H1 : ((laws_markDiagram.f kj16 t264 t265 1).bind fun bt288 => ((laws_markIntS.f kj16 t269 bt288.1).bind fun bt290 => (if bt290.1 < 0 then (laws_FnExactReordered.j1 kj16 a1 l2 t262 true a0_0 l0_1 t258 t259 t272 t273) else ((laws_eqDiagram.f kj16 t272 t273 t258 t259).bind fun t292 => (if t292 = true then (laws_FnExactReordered.j1 kj16 a1 l2 t262 (t276 != t262) a0_0 l0_1 t258 t259 t272 t273) else (laws_FnExactReordered.j1 kj16 a1 l2 t262 true a0_0 l0_1 t258 t259 t272 t273)))))) = some r := by rw [if_pos rfl] at H; exact H
        clear H
        have H := H1
        clear H1
        replace H := Option.bind_eq_some_iff.mp H
        obtain ⟨⟨t288, t289⟩, A730, H⟩ := H
        replace H : ((laws_markIntS.f kj16 t269 t288).bind fun bt290 => (if bt290.1 < 0 then (laws_FnExactReordered.j1 kj16 a1 l2 t262 true a0_0 l0_1 t258 t259 t272 t273) else ((laws_eqDiagram.f kj16 t272 t273 t258 t259).bind fun t292 => (if t292 = true then (laws_FnExactReordered.j1 kj16 a1 l2 t262 (t276 != t262) a0_0 l0_1 t258 t259 t272 t273) else (laws_FnExactReordered.j1 kj16 a1 l2 t262 true a0_0 l0_1 t258 t259 t272 t273))))) = some r := H
        have A73 := Aside0.mk A730
        clear A730
        replace H := Option.bind_eq_some_iff.mp H
        obtain ⟨⟨t290, t291⟩, A740, H⟩ := H
        replace H : (if t290 < 0 then (laws_FnExactReordered.j1 kj16 a1 l2 t262 true a0_0 l0_1 t258 t259 t272 t273) else ((laws_eqDiagram.f kj16 t272 t273 t258 t259).bind fun t292 => (if t292 = true then (laws_FnExactReordered.j1 kj16 a1 l2 t262 (t276 != t262) a0_0 l0_1 t258 t259 t272 t273) else (laws_FnExactReordered.j1 kj16 a1 l2 t262 true a0_0 l0_1 t258 t259 t272 t273)))) = some r := H
        have A74 := Aside0.mk A740
        clear A740
        have HC75 := Aside0.mk H
        clear H
        try go_wp2
        have n0_ := Aside0.mk (Kd.R_drew HO_11.out)
        have n1_ := Aside0.mk (Kd.R_drew HO_264001.out)
        have n2_ := Aside0.mk (Kd.R_drew HO_269001.out)
        have n3_ := Aside0.mk (Kd.R_drew HO_278001.out)
        have n4_ := Aside0.mk (blk_drew BK249.out)
        have n5_ := Aside0.mk (blk_drew BK263.out)
        have n6_ := Aside0.mk (blk_drew BK268.out)
        have n7_ := Aside0.mk (blk_drew BK277.out)
        have n8_ := Aside0.mk (below_drew1 HB.out)
        clear HO_11
        clear HO_264001
        clear HO_269001
        clear HO_278001
        clear BK249
        clear BK263
        clear BK268
        clear BK277
        clear HB
        have HO_11 := n0_
        have HO_264001 := n1_
        have HO_269001 := n2_
        have HO_278001 := n3_
        have BK249 := n4_
        have BK263 := n5_
        have BK268 := n6_
        have BK277 := n7_
        have HB := n8_
        clear n0_ n1_ n2_ n3_ n4_ n5_ n6_ n7_ n8_
        refine start_ (n := 5) (S := fun w' => w'.cell? ⟨gb268, 0, none⟩ = some (.int .i64 t264) ∧ w'.cell? ⟨gb268, 1, none⟩ = some (.slice Ao37 t265.length co37) ∧ w'.cell? ⟨gb249, 0, none⟩ = some (.int .i64 a0_0) ∧ w'.cell? ⟨gb249, 1, none⟩ = some (.slice A0_1 l0_1.length c0_1)) (ds := []) #[false, false, false, false, false] (by kernel_rfl) rfl rfl ⟨(blk_cell BK268.out 0).trans rfl, (blk_cell BK268.out 1).trans rfl, (blk_cell BK249.out 0).trans rfl, (blk_cell BK249.out 1).trans rfl⟩ (fun hHeld => ?_)
        generalize wc.drew = w76 at HO_11 HO_264001 HO_269001 HO_278001 BK249 BK263 BK268 BK277 HB hHeld ⊢
        refine take_ (i := 0) (N := some 56) (v := ?_) (a' := ?_) #[true, false, false, false, false] rfl rfl (by kernel_rfl) (fun _ _ _ h => h) (Or.inl ⟨by rfl, ?_⟩) hHeld ?_ ?_
        rotate_left
        ·rintro w' ⟨s0, s1, s2, s3⟩
         go_simp
         with_reducible rfl
        rotate_left
        ·simp only [Act.put, List.setIfInBounds_toArray, List.set_cons_zero, List.set_cons_succ, i64_w, i32_w]
         rfl
        refine take_ (i := 1) (N := some 57) (v := ?_) (a' := ?_) #[true, true, false, false, false] rfl rfl (by kernel_rfl) (fun _ _ _ h => h) (Or.inl ⟨by rfl, ?_⟩) hHeld ?_ ?_
        rotate_left
        ·rintro w' ⟨s0, s1, s2, s3⟩
         go_simp
         with_reducible rfl
        rotate_left
        ·simp only [Act.put, List.setIfInBounds_toArray, List.set_cons_zero, List.set_cons_succ, i64_w, i32_w]
         rfl
        refine one_ (i := 2) (N := some 58) #[true, true, true, false, false] rfl rfl (by kernel_rfl) (by decide) (fun K hK => ?_)
        refine goes_ Try.func38 (by kernel_rfl) rfl #[.agg #[.int .i64 a0_0, .slice A0_1 l0_1.length c0_1]] (by rfl) rfl rfl (by (try simp only [List.map_toArray, List.map_cons, List.map_nil]); first | done | rfl | (simp only [List.length_drop, List.length_take]; rfl)) ?_
        with_reducible refine (laws_toDiagram.calls kj16 a0_0 _ _ l0_1 t279 t280 _ ?side1 ?side2 A67.out).mono ?_
        (case side1 => repeat (first | exact (Kd.C_below HR0_1.out HB.out) | (with_reducible refine Kd.C_alloc ?_ _) | (with_reducible refine Kd.C_drewN ?_ _) | (with_reducible refine Kd.C_drew ?_)))
        (case side2 => exact HC0_1.out)
        rintro e w77 ⟨v281, rfl, ho0, hb⟩
        refine ⟨_, rfl, ?_⟩
        have n0_ := Aside0.mk (Kd.R_below (by (with_reducible repeat (first | apply Kd.R_alloc | apply Kd.R_drewN | apply Kd.R_drew)); exact HO_11.out) hb)
        have n1_ := Aside0.mk (Kd.R_elder' (by (with_reducible repeat (first | apply Kd.R_alloc | apply Kd.R_drewN | apply Kd.R_drew)); exact HO_264001.out) (Kd.R_base ho0) hb)
        have n2_ := Aside0.mk (Kd.R_elder' (by (with_reducible repeat (first | apply Kd.R_alloc | apply Kd.R_drewN | apply Kd.R_drew)); exact HO_269001.out) (Kd.R_base ho0) hb)
        have n3_ := Aside0.mk (Kd.R_elder' (by (with_reducible repeat (first | apply Kd.R_alloc | apply Kd.R_drewN | apply Kd.R_drew)); exact HO_278001.out) (Kd.R_base ho0) hb)
        have n4_ := Aside0.mk (Kd.R_lower (Kd.R_new' (Kd.R_new' (Kd.R_new' ho0 (Kd.R_lt (by (with_reducible repeat (first | apply Kd.R_alloc | apply Kd.R_drewN | apply Kd.R_drew)); exact HO_264001.out))) (Kd.R_lt (by (with_reducible repeat (first | apply Kd.R_alloc | apply Kd.R_drewN | apply Kd.R_drew)); exact HO_269001.out))) (Kd.R_lt (by (with_reducible repeat (first | apply Kd.R_alloc | apply Kd.R_drewN | apply Kd.R_drew)); exact HO_278001.out))) (below_size (by repeat (first | (with_reducible first | exact HB.out | apply bwA | apply bwN | apply bwD | refine below_set ?_ GE249.out | refine below_set ?_ GE263.out | refine below_set ?_ GE268.out | refine below_set ?_ GE277.out) | exact HB.out))))
        have n5_ := Aside0.mk (blk_below (g := gb249) (o := .cells #[.int .i64 a0_0, .slice A0_1 l0_1.length c0_1] 59 (0, 0)) (by (with_reducible repeat (first | refine blk_drewN ?_ _ | refine blk_drew ?_ | refine blk_alloc ?_ _)); exact BK249.out) hb)
        have n6_ := Aside0.mk (blk_below (g := gb263) (o := .cells #[.int .i64 t258, .slice Ao30 t259.length co30] 48 (0, 0)) (by (with_reducible repeat (first | refine blk_drewN ?_ _ | refine blk_drew ?_ | refine blk_alloc ?_ _)); exact BK263.out) hb)
        have n7_ := Aside0.mk (blk_below (g := gb268) (o := .cells #[.int .i64 t264, .slice Ao37 t265.length co37] 48 (0, 0)) (by (with_reducible repeat (first | refine blk_drewN ?_ _ | refine blk_drew ?_ | refine blk_alloc ?_ _)); exact BK268.out) hb)
        have n8_ := Aside0.mk (blk_below (g := gb277) (o := .cells #[.int .i64 t272, .slice Ao47 t273.length co47] 48 (0, 0)) (by (with_reducible repeat (first | refine blk_drewN ?_ _ | refine blk_drew ?_ | refine blk_alloc ?_ _)); exact BK277.out) hb)
        have n9_ := Aside0.mk (below_step (by repeat (first | (with_reducible first | exact HB.out | apply bwA | apply bwN | apply bwD | refine below_set ?_ GE249.out | refine below_set ?_ GE263.out | refine below_set ?_ GE268.out | refine below_set ?_ GE277.out) | exact HB.out)) hb)
        clear HO_11
        clear HO_264001
        clear HO_269001
        clear HO_278001
        clear BK249
        clear BK263
        clear BK268
        clear BK277
        clear HB
        have HO_11 := n0_
        have HO_264001 := n1_
        have HO_269001 := n2_
        have HO_278001 := n3_
        have HO282 := n4_
        have BK249 := n5_
        have BK263 := n6_
        have BK268 := n7_
        have BK277 := n8_
        have HB := n9_
        clear n0_ n1_ n2_ n3_ n4_ n5_ n6_ n7_ n8_ n9_
        (try clear hb)
        (try clear hb2)
        (try clear hk)
        (try clear hi)
        (try clear ho0)
        obtain ⟨Ao78, co78, eo78⟩ := Kd.R_slice HO282.out
        (first | subst eo78 | (injection eo78 with f1_ f2_ f3_; have f4_ := f1_.symm; have f5_ := f3_.symm; clear f1_ f2_ f3_; subst f4_; subst f5_))
        refine hK.out _ _ ⟨(blk_cell BK268.out 0).trans rfl, (blk_cell BK268.out 1).trans rfl, (blk_cell BK249.out 0).trans rfl, (blk_cell BK249.out 1).trans rfl⟩ (fun hHeld => ?_)
        clear hK K
        refine norm_ (a' := ?_) ?_ ?_
        rotate_left
        ·show Act.put _ (some 58) _ = _
         simp only [Act.put, List.setIfInBounds_toArray, List.set_cons_zero, List.set_cons_succ, i64_w, i32_w]
         rfl
        refine one_ (i := 3) (N := some 59) #[true, true, true, true, false] rfl rfl (by kernel_rfl) (by decide) (fun K hK => ?_)
        refine goes_ Try.func39 (by kernel_rfl) rfl #[.agg #[.int .i64 t264, .slice Ao37 t265.length co37], .agg #[.int .i64 t279, .slice Ao78 t280.length co78]] (by rfl) rfl rfl (by (try simp only [List.map_toArray, List.map_cons, List.map_nil]); first | done | rfl | (simp only [List.length_drop, List.length_take]; rfl)) ?_
        with_reducible refine (laws_eqDiagram.calls kj16 t264 _ _ t265 t279 _ _ t280 true _ ?side1 ?side2 ?side3 ?side4 A68.out).mono ?_
        (case side1 => repeat (first | exact (Kd.R_reads' HO_269001.out).2.2 | (with_reducible refine Kd.C_alloc ?_ _) | (with_reducible refine Kd.C_drewN ?_ _) | (with_reducible refine Kd.C_drew ?_)))
        (case side2 => exact (Kd.R_reads' HO_269001.out).2.1)
        (case side3 => repeat (first | exact (Kd.R_reads' HO282.out).2.2 | (with_reducible refine Kd.C_alloc ?_ _) | (with_reducible refine Kd.C_drewN ?_ _) | (with_reducible refine Kd.C_drew ?_)))
        (case side4 => exact (Kd.R_reads' HO282.out).2.1)
        rintro e w79 ⟨rfl, hb⟩
        refine ⟨_, rfl, ?_⟩
        have n0_ := Aside0.mk (Kd.R_below (by (with_reducible repeat (first | apply Kd.R_alloc | apply Kd.R_drewN | apply Kd.R_drew)); exact HO_11.out) hb)
        have n1_ := Aside0.mk (Kd.R_below (by (with_reducible repeat (first | apply Kd.R_alloc | apply Kd.R_drewN | apply Kd.R_drew)); exact HO_264001.out) hb)
        have n2_ := Aside0.mk (Kd.R_below (by (with_reducible repeat (first | apply Kd.R_alloc | apply Kd.R_drewN | apply Kd.R_drew)); exact HO_269001.out) hb)
        have n3_ := Aside0.mk (Kd.R_below (by (with_reducible repeat (first | apply Kd.R_alloc | apply Kd.R_drewN | apply Kd.R_drew)); exact HO_278001.out) hb)
        have n4_ := Aside0.mk (Kd.R_below (by (with_reducible repeat (first | apply Kd.R_alloc | apply Kd.R_drewN | apply Kd.R_drew)); exact HO282.out) hb)
        have n5_ := Aside0.mk (blk_below (g := gb249) (o := .cells #[.int .i64 a0_0, .slice A0_1 l0_1.length c0_1] 59 (0, 0)) (by (with_reducible repeat (first | refine blk_drewN ?_ _ | refine blk_drew ?_ | refine blk_alloc ?_ _)); exact BK249.out) hb)
        have n6_ := Aside0.mk (blk_below (g := gb263) (o := .cells #[.int .i64 t258, .slice Ao30 t259.length co30] 48 (0, 0)) (by (with_reducible repeat (first | refine blk_drewN ?_ _ | refine blk_drew ?_ | refine blk_alloc ?_ _)); exact BK263.out) hb)
        have n7_ := Aside0.mk (blk_below (g := gb268) (o := .cells #[.int .i64 t264, .slice Ao37 t265.length co37] 48 (0, 0)) (by (with_reducible repeat (first | refine blk_drewN ?_ _ | refine blk_drew ?_ | refine blk_alloc ?_ _)); exact BK268.out) hb)
        have n8_ := Aside0.mk (blk_below (g := gb277) (o := .cells #[.int .i64 t272, .slice Ao47 t273.length co47] 48 (0, 0)) (by (with_reducible repeat (first | refine blk_drewN ?_ _ | refine blk_drew ?_ | refine blk_alloc ?_ _)); exact BK277.out) hb)
        have n9_ := Aside0.mk (below_step (by repeat (first | (with_reducible first | exact HB.out | apply bwA | apply bwN | apply bwD | refine below_set ?_ GE249.out | refine below_set ?_ GE263.out | refine below_set ?_ GE268.out | refine below_set ?_ GE277.out) | exact HB.out)) hb)
        clear HO_11
        clear HO_264001
        clear HO_269001
        clear HO_278001
        clear HO282
        clear BK249
        clear BK263
        clear BK268
        clear BK277
        clear HB
        have HO_11 := n0_
        have HO_264001 := n1_
        have HO_269001 := n2_
        have HO_278001 := n3_
        have HO282 := n4_
        have BK249 := n5_
        have BK263 := n6_
        have BK268 := n7_
        have BK277 := n8_
        have HB := n9_
        clear n0_ n1_ n2_ n3_ n4_ n5_ n6_ n7_ n8_ n9_
        (try clear hb)
        (try clear hb2)
        (try clear hk)
        (try clear hi)
        refine hK.out _ _ ⟨(blk_cell BK268.out 0).trans rfl, (blk_cell BK268.out 1).trans rfl, (blk_cell BK249.out 0).trans rfl, (blk_cell BK249.out 1).trans rfl⟩ (fun hHeld => ?_)
        clear hK K
        refine norm_ (a' := ?_) ?_ ?_
        rotate_left
        ·show Act.put _ (some 59) _ = _
         simp only [Act.put, List.setIfInBounds_toArray, List.set_cons_zero, List.set_cons_succ, i64_w, i32_w]
         rfl
        refine pure_ (i := 4) (N := some 60) (v := ?_) (a' := ?_) #[true, true, true, true, true] rfl rfl (by kernel_rfl) (fun _ _ _ h => h) (Or.inl ⟨by rfl, ?_⟩) ?_ ?_
        rotate_left
        ·intro w'
         go_simp
         with_reducible rfl
        rotate_left
        ·simp only [Act.put, List.setIfInBounds_toArray, List.set_cons_zero, List.set_cons_succ, i64_w, i32_w]
         rfl
        refine done_ (by kernel_rfl) ?_
        go_upto_region 20 with (first | ((with_reducible refine gate_callee (f := 49) rfl ?_); refine goesL_ (some 63) rfl rfl Try.func49 (by kernel_rfl) rfl #[.slice A2 l2.length c2] rfl (by (try simp only [List.map_toArray, List.map_cons, List.map_nil]); first | done | rfl | (simp only [List.length_drop, List.length_take]; rfl)) ?_; (with_reducible refine (laws_toIntS.calls kj16 _ _ l2 t284 _ ?side1 ?side2 A70.out).mono ?_); (case side1 => repeat (first | exact (Kd.C_below HR2.out HB.out) | (with_reducible refine Kd.C_alloc ?_ _) | (with_reducible refine Kd.C_drewN ?_ _) | (with_reducible refine Kd.C_drew ?_))); (case side2 => exact HC2.out); rintro e w80 ⟨v285, rfl, ho0, hb⟩; refine ⟨_, rfl, ?_⟩; have n0_ := Aside0.mk (Kd.R_elder' (by (with_reducible repeat (first | apply Kd.R_alloc | apply Kd.R_drewN | apply Kd.R_drew)); exact HO_11.out) (Kd.R_base ho0) hb); have n1_ := Aside0.mk (Kd.R_below (by (with_reducible repeat (first | apply Kd.R_alloc | apply Kd.R_drewN | apply Kd.R_drew)); exact HO_264001.out) hb); have n2_ := Aside0.mk (Kd.R_below (by (with_reducible repeat (first | apply Kd.R_alloc | apply Kd.R_drewN | apply Kd.R_drew)); exact HO_269001.out) hb); have n3_ := Aside0.mk (Kd.R_below (by (with_reducible repeat (first | apply Kd.R_alloc | apply Kd.R_drewN | apply Kd.R_drew)); exact HO_278001.out) hb); have n4_ := Aside0.mk (Kd.R_below (by (with_reducible repeat (first | apply Kd.R_alloc | apply Kd.R_drewN | apply Kd.R_drew)); exact HO282.out) hb); have n5_ := Aside0.mk (Kd.R_lower (Kd.R_new' ho0 (Kd.R_lt (by (with_reducible repeat (first | apply Kd.R_alloc | apply Kd.R_drewN | apply Kd.R_drew)); exact HO_11.out))) (below_size (by repeat (first | (with_reducible first | exact HB.out | apply bwA | apply bwN | apply bwD | refine below_set ?_ GE249.out | refine below_set ?_ GE263.out | refine below_set ?_ GE268.out | refine below_set ?_ GE277.out) | exact HB.out)))); have n6_ := Aside0.mk (blk_below (g := gb249) (o := .cells #[.int .i64 a0_0, .slice A0_1 l0_1.length c0_1] 59 (0, 0)) (by (with_reducible repeat (first | refine blk_drewN ?_ _ | refine blk_drew ?_ | refine blk_alloc ?_ _)); exact BK249.out) hb); have n7_ := Aside0.mk (blk_below (g := gb263) (o := .cells #[.int .i64 t258, .slice Ao30 t259.length co30] 48 (0, 0)) (by (with_reducible repeat (first | refine blk_drewN ?_ _ | refine blk_drew ?_ | refine blk_alloc ?_ _)); exact BK263.out) hb); have n8_ := Aside0.mk (blk_below (g := gb268) (o := .cells #[.int .i64 t264, .slice Ao37 t265.length co37] 48 (0, 0)) (by (with_reducible repeat (first | refine blk_drewN ?_ _ | refine blk_drew ?_ | refine blk_alloc ?_ _)); exact BK268.out) hb); have n9_ := Aside0.mk (blk_below (g := gb277) (o := .cells #[.int .i64 t272, .slice Ao47 t273.length co47] 48 (0, 0)) (by (with_reducible repeat (first | refine blk_drewN ?_ _ | refine blk_drew ?_ | refine blk_alloc ?_ _)); exact BK277.out) hb); have n10_ := Aside0.mk (below_step (by repeat (first | (with_reducible first | exact HB.out | apply bwA | apply bwN | apply bwD | refine below_set ?_ GE249.out | refine below_set ?_ GE263.out | refine below_set ?_ GE268.out | refine below_set ?_ GE277.out) | exact HB.out)) hb); clear HO_11; clear HO_264001; clear HO_269001; clear HO_278001; clear HO282; clear BK249; clear BK263; clear BK268; clear BK277; clear HB; have HO_11 := n0_; have HO_264001 := n1_; have HO_269001 := n2_; have HO_278001 := n3_; have HO282 := n4_; have HO286 := n5_; have BK249 := n6_; have BK263 := n7_; have BK268 := n8_; have BK277 := n9_; have HB := n10_; clear n0_ n1_ n2_ n3_ n4_ n5_ n6_ n7_ n8_ n9_ n10_; (try clear hb); (try clear hb2); (try clear hk); (try clear hi); (try clear ho0); obtain ⟨Ao81, co81, eo81⟩ := Kd.R_slice HO286.out; subst eo81) | ((with_reducible refine gate_callee (f := 50) rfl ?_); refine goesL_ (some 64) rfl rfl Try.func50 (by kernel_rfl) rfl #[.slice Ao40 t269.length co40, .slice Ao81 t284.length co81] rfl (by (try simp only [List.map_toArray, List.map_cons, List.map_nil]); first | done | rfl | (simp only [List.length_drop, List.length_take]; rfl)) ?_; (with_reducible refine (laws_eqIntS.calls kj16 _ _ t269 _ _ t284 true _ ?side1 ?side2 ?side3 ?side4 A71.out).mono ?_); (case side1 => repeat (first | exact (Kd.R_reads' HO_11.out).2.2 | (with_reducible refine Kd.C_alloc ?_ _) | (with_reducible refine Kd.C_drewN ?_ _) | (with_reducible refine Kd.C_drew ?_))); (case side2 => exact (Kd.R_reads' HO_11.out).2.1); (case side3 => repeat (first | exact (Kd.R_reads' HO286.out).2.2 | (with_reducible refine Kd.C_alloc ?_ _) | (with_reducible refine Kd.C_drewN ?_ _) | (with_reducible refine Kd.C_drew ?_))); (case side4 => exact (Kd.R_reads' HO286.out).2.1); rintro e w' ⟨rfl, ⟨nd, rfl⟩⟩; refine ⟨_, rfl, ?_⟩; have n0_ := Aside0.mk (Kd.R_drewN HO_11.out nd); have n1_ := Aside0.mk (Kd.R_drewN HO_264001.out nd); have n2_ := Aside0.mk (Kd.R_drewN HO_269001.out nd); have n3_ := Aside0.mk (Kd.R_drewN HO_278001.out nd); have n4_ := Aside0.mk (Kd.R_drewN HO282.out nd); have n5_ := Aside0.mk (Kd.R_drewN HO286.out nd); have n6_ := Aside0.mk (blk_drewN BK249.out nd); have n7_ := Aside0.mk (blk_drewN BK263.out nd); have n8_ := Aside0.mk (blk_drewN BK268.out nd); have n9_ := Aside0.mk (blk_drewN BK277.out nd); have n10_ := Aside0.mk (pw_below_drewN HB.out nd); generalize World.drewN w80 nd = w80 at n0_ n1_ n2_ n3_ n4_ n5_ n6_ n7_ n8_ n9_ n10_ ⊢; clear HO_11 HO_264001 HO_269001 HO_278001 HO282 HO286 BK249 BK263 BK268 BK277 HB; have HO_11 := n0_; have HO_264001 := n1_; have HO_269001 := n2_; have HO_278001 := n3_; have HO282 := n4_; have HO286 := n5_; have BK249 := n6_; have BK263 := n7_; have BK268 := n8_; have BK277 := n9_; have HB := n10_; clear n0_ n1_ n2_ n3_ n4_ n5_ n6_ n7_ n8_ n9_ n10_; have hnb82 := NB268_249.out; have hnc82 := NB249_268.out; have hnb83 := NB268_263.out; have hnc83 := NB263_268.out; have hnb84 := NB268_277.out; have hnc84 := NB277_268.out; have hcz85_0 : w80.cell? ⟨gb268, 0, none⟩ = some (.int .i64 t264) := (blk_cell BK268.out 0).trans rfl; have hcz85_1 : w80.cell? ⟨gb268, 1, none⟩ = some (.slice Ao37 t265.length co37) := (blk_cell BK268.out 1).trans rfl; have hfz85_0 := blk_frozen BK268.out 0; have hfz85_1 := blk_frozen BK268.out 1) | ((with_reducible refine gate_callee (f := 40) rfl ?_); refine goesL_ (some 68) rfl rfl Try.func40 (by kernel_rfl) rfl #[.agg #[.int .i64 t264, .slice Ao37 t265.length co37], .int .i64 1] rfl (by (try simp only [List.map_toArray, List.map_cons, List.map_nil]); first | done | rfl | (simp only [List.length_drop, List.length_take]; rfl)) ?_; (with_reducible refine (laws_markDiagram.calls kj16 t264 (fun k_ => some k_ = (.slice Ao37 t265.length co37 : Value).ownBlock) (.slice Ao37 t265.length co37) t265 1 t288 t289 w _ ?side1 ?side2 A73.out).mono ?_); (case side1 => repeat (first | (with_reducible first | exact HB.out | apply bwA | apply bwN | apply bwD | refine below_set ?_ GE249.out | refine below_set ?_ GE263.out | refine below_set ?_ GE268.out | refine below_set ?_ GE277.out) | exact HB.out)); (case side2 => exact Kd.R_tight rfl HO_269001.out); rintro e w86 ⟨rfl, hy0, hb, hkp⟩; refine ⟨_, rfl, ?_⟩; have n0_ := Aside0.mk (Kd.R_mono (ok' := fun k_ => some k_ ≠ (.slice Ao81 t284.length co81 : Value).ownBlock) (Kd.R_keptB ((Kd.R_apart' HO_11.out (Kd.R_typed HO_269001.out) (by decide))) hkp (fun k_ hk_ hs_ => (hk_.2) hs_)) (fun k_ hk_ => hk_.1.1.2)); have n1_ := Aside0.mk (Kd.R_mono (ok' := fun k_ => some k_ ≠ (.slice Ao37 t265.length co37 : Value).ownBlock ∧ some k_ ≠ (.slice Ao47 t273.length co47 : Value).ownBlock ∧ some k_ ≠ (.slice Ao78 t280.length co78 : Value).ownBlock) (Kd.R_keptB (HO_264001.out) hkp (fun k_ hk_ hs_ => (hk_.1.1) hs_)) (fun k_ hk_ => ⟨hk_.1.1.1, hk_.1.1.2, hk_.1.2⟩)); have n2_ := Aside0.mk (Kd.R_reok rfl hy0 (fun k_ e_ => HO_269001.out.1 k_ e_)); have n3_ := Aside0.mk (Kd.R_mono (ok' := fun k_ => some k_ ≠ (.slice Ao30 t259.length co30 : Value).ownBlock ∧ some k_ ≠ (.slice Ao37 t265.length co37 : Value).ownBlock ∧ some k_ ≠ (.slice Ao78 t280.length co78 : Value).ownBlock) (Kd.R_keptB (HO_278001.out) hkp (fun k_ hk_ hs_ => (hk_.1.2) hs_)) (fun k_ hk_ => ⟨hk_.1.1.1, hk_.1.1.2, hk_.1.2⟩)); have n4_ := Aside0.mk (blk_kept (by (with_reducible repeat (first | refine blk_drewN ?_ _ | refine blk_drew ?_ | refine blk_alloc ?_ _)); exact BK249.out) hkp (fun hs_ => (fun e_ => (Kd.R_ne HO_269001.out BK249.out (by decide)) e_) hs_)); have n5_ := Aside0.mk (blk_kept (by (with_reducible repeat (first | refine blk_drewN ?_ _ | refine blk_drew ?_ | refine blk_alloc ?_ _)); exact BK263.out) hkp (fun hs_ => (fun e_ => (Kd.R_ne HO_269001.out BK263.out (by decide)) e_) hs_)); have n6_ := Aside0.mk (blk_kept (by (with_reducible repeat (first | refine blk_drewN ?_ _ | refine blk_drew ?_ | refine blk_alloc ?_ _)); exact BK268.out) hkp (fun hs_ => (fun e_ => (Kd.R_ne HO_269001.out BK268.out (by decide)) e_) hs_)); have n7_ := Aside0.mk (blk_kept (by (with_reducible repeat (first | refine blk_drewN ?_ _ | refine blk_drew ?_ | refine blk_alloc ?_ _)); exact BK277.out) hkp (fun hs_ => (fun e_ => (Kd.R_ne HO_269001.out BK277.out (by decide)) e_) hs_)); have n8_ := Aside0.mk (Kd.R_mono (ok' := fun k_ => some k_ ≠ (.slice Ao30 t259.length co30 : Value).ownBlock ∧ some k_ ≠ (.slice Ao37 t265.length co37 : Value).ownBlock ∧ some k_ ≠ (.slice Ao47 t273.length co47 : Value).ownBlock) (Kd.R_keptB (HO282.out) hkp (fun k_ hk_ hs_ => (hk_.1.2) hs_)) (fun k_ hk_ => ⟨hk_.1.1.1.2, hk_.1.1.2, hk_.1.2⟩)); have n9_ := Aside0.mk (Kd.R_mono (ok' := fun k_ => some k_ ≠ (.slice Ao40 t269.length co40 : Value).ownBlock) (Kd.R_keptB ((Kd.R_apart' HO286.out (Kd.R_typed HO_269001.out) (by decide))) hkp (fun k_ hk_ hs_ => (hk_.2) hs_)) (fun k_ hk_ => hk_.1.1.2)); have n10_ := Aside0.mk (hb); clear HO_11; clear HO_264001; clear HO_269001; clear HO_278001; clear BK249; clear BK263; clear BK268; clear BK277; clear HO282; clear HO286; clear HB; have HO_11 := n0_; have HO_264001 := n1_; have HO_269001 := n2_; have HO_278001 := n3_; have BK249 := n4_; have BK263 := n5_; have BK268 := n6_; have BK277 := n7_; have HO282 := n8_; have HO286 := n9_; have HB := n10_; clear n0_ n1_ n2_ n3_ n4_ n5_ n6_ n7_ n8_ n9_ n10_; (try clear hb); (try clear hkp); (try clear hy0)) | ((with_reducible refine gate_callee (f := 51) rfl ?_); refine goesL_ (some 71) rfl rfl Try.func51 (by kernel_rfl) rfl #[.slice Ao40 t269.length co40, .int .i64 t288] rfl (by (try simp only [List.map_toArray, List.map_cons, List.map_nil]); first | done | rfl | (simp only [List.length_drop, List.length_take]; rfl)) ?_; (with_reducible refine (laws_markIntS.calls kj16 (fun k_ => some k_ = (.slice Ao40 t269.length co40 : Value).ownBlock) (.slice Ao40 t269.length co40) t269 t288 t290 t291 w _ ?side1 ?side2 A74.out).mono ?_); (case side1 => repeat (first | (with_reducible first | exact HB.out | apply bwA | apply bwN | apply bwD | refine below_set ?_ GE249.out | refine below_set ?_ GE263.out | refine below_set ?_ GE268.out | refine below_set ?_ GE277.out) | exact HB.out)); (case side2 => exact Kd.R_tight rfl HO_11.out); rintro e w87 ⟨rfl, hy0, hb, hkp⟩; refine ⟨_, rfl, ?_⟩; have n0_ := Aside0.mk (Kd.R_reok rfl hy0 (fun k_ e_ => HO_11.out.1 k_ e_)); have n1_ := Aside0.mk (Kd.R_mono (ok' := fun k_ => some k_ ≠ (.slice Ao37 t265.length co37 : Value).ownBlock ∧ some k_ ≠ (.slice Ao47 t273.length co47 : Value).ownBlock ∧ some k_ ≠ (.slice Ao78 t280.length co78 : Value).ownBlock) (Kd.R_keptB ((Kd.R_apart' HO_264001.out (Kd.R_typed HO_11.out) (by decide))) hkp (fun k_ hk_ hs_ => (hk_.2) hs_)) (fun k_ hk_ => ⟨hk_.1.1.1, hk_.1.1.2.1, hk_.1.1.2.2⟩)); have n2_ := Aside0.mk (Kd.R_mono (ok' := fun k_ => some k_ ≠ (.slice Ao30 t259.length co30 : Value).ownBlock ∧ some k_ ≠ (.slice Ao47 t273.length co47 : Value).ownBlock ∧ some k_ ≠ (.slice Ao78 t280.length co78 : Value).ownBlock) (Kd.R_keptB ((Kd.R_apart' HO_269001.out (Kd.R_typed HO_11.out) (by decide))) hkp (fun k_ hk_ hs_ => (hk_.2) hs_)) (fun k_ hk_ => ⟨hk_.1.1.1.1, hk_.1.1.1.2, hk_.1.1.2⟩)); have n3_ := Aside0.mk (Kd.R_mono (ok' := fun k_ => some k_ ≠ (.slice Ao30 t259.length co30 : Value).ownBlock ∧ some k_ ≠ (.slice Ao37 t265.length co37 : Value).ownBlock ∧ some k_ ≠ (.slice Ao78 t280.length co78 : Value).ownBlock) (Kd.R_keptB ((Kd.R_apart' HO_278001.out (Kd.R_typed HO_11.out) (by decide))) hkp (fun k_ hk_ hs_ => (hk_.2) hs_)) (fun k_ hk_ => ⟨hk_.1.1.1, hk_.1.1.2.1, hk_.1.1.2.2⟩)); have n4_ := Aside0.mk (blk_kept (by (with_reducible repeat (first | refine blk_drewN ?_ _ | refine blk_drew ?_ | refine blk_alloc ?_ _)); exact BK249.out) hkp (fun hs_ => (fun e_ => (Kd.R_ne HO_11.out BK249.out (by decide)) e_) hs_)); have n5_ := Aside0.mk (blk_kept (by (with_reducible repeat (first | refine blk_drewN ?_ _ | refine blk_drew ?_ | refine blk_alloc ?_ _)); exact BK263.out) hkp (fun hs_ => (fun e_ => (Kd.R_ne HO_11.out BK263.out (by decide)) e_) hs_)); have n6_ := Aside0.mk (blk_kept (by (with_reducible repeat (first | refine blk_drewN ?_ _ | refine blk_drew ?_ | refine blk_alloc ?_ _)); exact BK268.out) hkp (fun hs_ => (fun e_ => (Kd.R_ne HO_11.out BK268.out (by decide)) e_) hs_)); have n7_ := Aside0.mk (blk_kept (by (with_reducible repeat (first | refine blk_drewN ?_ _ | refine blk_drew ?_ | refine blk_alloc ?_ _)); exact BK277.out) hkp (fun hs_ => (fun e_ => (Kd.R_ne HO_11.out BK277.out (by decide)) e_) hs_)); have n8_ := Aside0.mk (Kd.R_mono (ok' := fun k_ => some k_ ≠ (.slice Ao30 t259.length co30 : Value).ownBlock ∧ some k_ ≠ (.slice Ao37 t265.length co37 : Value).ownBlock ∧ some k_ ≠ (.slice Ao47 t273.length co47 : Value).ownBlock) (Kd.R_keptB ((Kd.R_apart' HO282.out (Kd.R_typed HO_11.out) (by decide))) hkp (fun k_ hk_ hs_ => (hk_.2) hs_)) (fun k_ hk_ => ⟨hk_.1.1.1, hk_.1.1.2.1, hk_.1.1.2.2⟩)); have n9_ := Aside0.mk (Kd.R_mono (ok' := fun k_ => some k_ ≠ (.slice Ao40 t269.length co40 : Value).ownBlock) (Kd.R_keptB (HO286.out) hkp (fun k_ hk_ hs_ => (hk_) hs_)) (fun k_ hk_ => hk_.1)); have n10_ := Aside0.mk (hb); clear HO_11; clear HO_264001; clear HO_269001; clear HO_278001; clear BK249; clear BK263; clear BK268; clear BK277; clear HO282; clear HO286; clear HB; have HO_11 := n0_; have HO_264001 := n1_; have HO_269001 := n2_; have HO_278001 := n3_; have BK249 := n4_; have BK263 := n5_; have BK268 := n6_; have BK277 := n7_; have HO282 := n8_; have HO286 := n9_; have HB := n10_; clear n0_ n1_ n2_ n3_ n4_ n5_ n6_ n7_ n8_ n9_ n10_; (try clear hb); (try clear hkp); (try clear hy0)))
        (try simp only [Act.put, List.setIfInBounds_toArray, List.set_cons_zero, List.set_cons_succ])
        go_cut [84] (fun v84 wc => ∃ (kq : Nat) (x84_74 : Bool), v84 = .bool x84_74 ∧ Aside0 (laws_FnExactReordered.j1 kq a1 l2 t262 x84_74 a0_0 l0_1 t258 t259 t272 t273 = some r) ∧ Aside0 (kq ≤ kj16) ∧ Aside0 (Kd.R k56 56 wc w.heap.size (fun k_ => some k_ ≠ ((.slice Ao37 t265.length co37) : Value).ownBlock ∧ some k_ ≠ ((.slice Ao47 t273.length co47) : Value).ownBlock) (.slice Ao30 t259.length co30) t259) ∧ Aside0 (Kd.R k56 56 wc w.heap.size (fun k_ => some k_ ≠ ((.slice Ao30 t259.length co30) : Value).ownBlock ∧ some k_ ≠ ((.slice Ao47 t273.length co47) : Value).ownBlock) (.slice Ao37 t265.length co37) t289) ∧ Aside0 (Kd.R k56 56 wc w.heap.size (fun k_ => some k_ ≠ ((.slice Ao30 t259.length co30) : Value).ownBlock ∧ some k_ ≠ ((.slice Ao37 t265.length co37) : Value).ownBlock) (.slice Ao47 t273.length co47) t273) ∧ Aside0 (wc.heap[gb249]? = some (.cells #[.int .i64 a0_0, (.slice A0_1 l0_1.length c0_1)] 59 (0, 0))) ∧ Aside0 (wc.heap[gb263]? = some (.cells #[.int .i64 t258, (.slice Ao30 t259.length co30)] 48 (0, 0))) ∧ Aside0 (wc.heap[gb268]? = some (.cells #[.int .i64 t264, (.slice Ao37 t265.length co37)] 48 (0, 0))) ∧ Aside0 (wc.heap[gb277]? = some (.cells #[.int .i64 t272, (.slice Ao47 t273.length co47)] 48 (0, 0))) ∧ Aside0 (Below w.heap.size w wc))
        case first =>
         have H := HC75.out
         clear HC75
         by_cases c88 : t290 < 0
         ·rw [if_pos c88] at H
          have c88b0 : decide (t290 < 0) = true := decide_eq_true c88
          clear c88
          (first | rw [c88b0] | (simp only [i64_w, i32_w]; rw [c88b0]) | skip)
          have H' := Aside0.mk H
          clear H
          go_wp2
          go_meet
          case rel => exact ⟨_, (true), (by first | rfl | (simp; done) | (simp [*]; done)), H', ⟨by have := HJ16.out; first | omega | exact Nat.le_refl _⟩, ⟨by (with_reducible repeat (first | apply Kd.R_alloc | apply Kd.R_drewN | apply Kd.R_drew)); exact Kd.R_mono HO_264001.out (fun _ hk => ⟨hk.1, hk.2.1⟩)⟩, ⟨by (with_reducible repeat (first | apply Kd.R_alloc | apply Kd.R_drewN | apply Kd.R_drew)); exact Kd.R_mono HO_269001.out (fun _ hk => ⟨hk.1, hk.2.1⟩)⟩, ⟨by (with_reducible repeat (first | apply Kd.R_alloc | apply Kd.R_drewN | apply Kd.R_drew)); exact Kd.R_mono HO_278001.out (fun _ hk => ⟨hk.1, hk.2.1⟩)⟩, ⟨by (with_reducible repeat (first | refine blk_drewN ?_ _ | refine blk_drew ?_ | refine blk_alloc ?_ _)); exact BK249.out⟩, ⟨by (with_reducible repeat (first | refine blk_drewN ?_ _ | refine blk_drew ?_ | refine blk_alloc ?_ _)); exact BK263.out⟩, ⟨by (with_reducible repeat (first | refine blk_drewN ?_ _ | refine blk_drew ?_ | refine blk_alloc ?_ _)); exact BK268.out⟩, ⟨by (with_reducible repeat (first | refine blk_drewN ?_ _ | refine blk_drew ?_ | refine blk_alloc ?_ _)); exact BK277.out⟩, ⟨by repeat (first | (with_reducible first | exact HB.out | apply bwA | apply bwN | apply bwD | refine below_set ?_ GE249.out | refine below_set ?_ GE263.out | refine below_set ?_ GE268.out | refine below_set ?_ GE277.out) | exact HB.out)⟩⟩
         ·rw [if_neg c88] at H
          have c88b0 : decide (t290 < 0) = false := decide_eq_false c88
          clear c88
          (first | rw [c88b0] | (simp only [i64_w, i32_w]; rw [c88b0]) | skip)
          replace H := Option.bind_eq_some_iff.mp H
          obtain ⟨t292, A890, H⟩ := H
          replace H : (if t292 = true then (laws_FnExactReordered.j1 kj16 a1 l2 t262 (t276 != t262) a0_0 l0_1 t258 t259 t272 t273) else (laws_FnExactReordered.j1 kj16 a1 l2 t262 true a0_0 l0_1 t258 t259 t272 t273)) = some r := H
          have A89 := Aside0.mk A890
          clear A890
          by_cases c90 : t292 = true
          ·subst c90
           have H1 : (laws_FnExactReordered.j1 kj16 a1 l2 t262 (t276 != t262) a0_0 l0_1 t258 t259 t272 t273) = some r := by rw [if_pos rfl] at H; exact H
           clear H
           have H := H1
           clear H1
           have H' := Aside0.mk H
           clear H
           have hnb91 := NB277_249.out
           have hnc91 := NB249_277.out
           have hnb92 := NB277_263.out
           have hnc92 := NB263_277.out
           have hnb93 := NB277_268.out
           have hnc93 := NB268_277.out
           have hcz94_0 : w87.cell? ⟨gb277, 0, none⟩ = some (.int .i64 t272) := (blk_cell BK277.out 0).trans rfl
           have hcz94_1 : w87.cell? ⟨gb277, 1, none⟩ = some (.slice Ao47 t273.length co47) := (blk_cell BK277.out 1).trans rfl
           have hfz94_0 := blk_frozen BK277.out 0
           have hfz94_1 := blk_frozen BK277.out 1
           have hnb95 := NB263_249.out
           have hnc95 := NB249_263.out
           have hnb96 := NB263_268.out
           have hnc96 := NB268_263.out
           have hcz97_0 : w87.cell? ⟨gb263, 0, none⟩ = some (.int .i64 t258) := (blk_cell BK263.out 0).trans rfl
           have hcz97_1 : w87.cell? ⟨gb263, 1, none⟩ = some (.slice Ao30 t259.length co30) := (blk_cell BK263.out 1).trans rfl
           have hfz97_0 := blk_frozen BK263.out 0
           have hfz97_1 := blk_frozen BK263.out 1
           go_wp2_with (first | (go_at_call 39; (with_reducible refine (laws_eqDiagram.calls kj16 t272 _ _ t273 t258 _ _ t259 true _ ?side1 ?side2 ?side3 ?side4 A89.out).mono ?_); (case side1 => repeat (first | exact (Kd.R_reads' HO_278001.out).2.2 | (with_reducible refine Kd.C_alloc ?_ _) | (with_reducible refine Kd.C_drewN ?_ _) | (with_reducible refine Kd.C_drew ?_))); (case side2 => exact (Kd.R_reads' HO_278001.out).2.1); (case side3 => repeat (first | exact (Kd.R_reads' HO_264001.out).2.2 | (with_reducible refine Kd.C_alloc ?_ _) | (with_reducible refine Kd.C_drewN ?_ _) | (with_reducible refine Kd.C_drew ?_))); (case side4 => exact (Kd.R_reads' HO_264001.out).2.1); rintro e w98 ⟨rfl, hb⟩; have n0_ := Aside0.mk (Kd.R_below (by (with_reducible repeat (first | apply Kd.R_alloc | apply Kd.R_drewN | apply Kd.R_drew)); exact HO_11.out) hb); have n1_ := Aside0.mk (Kd.R_below (by (with_reducible repeat (first | apply Kd.R_alloc | apply Kd.R_drewN | apply Kd.R_drew)); exact HO_264001.out) hb); have n2_ := Aside0.mk (Kd.R_below (by (with_reducible repeat (first | apply Kd.R_alloc | apply Kd.R_drewN | apply Kd.R_drew)); exact HO_269001.out) hb); have n3_ := Aside0.mk (Kd.R_below (by (with_reducible repeat (first | apply Kd.R_alloc | apply Kd.R_drewN | apply Kd.R_drew)); exact HO_278001.out) hb); have n4_ := Aside0.mk (Kd.R_below (by (with_reducible repeat (first | apply Kd.R_alloc | apply Kd.R_drewN | apply Kd.R_drew)); exact HO282.out) hb); have n5_ := Aside0.mk (Kd.R_below (by (with_reducible repeat (first | apply Kd.R_alloc | apply Kd.R_drewN | apply Kd.R_drew)); exact HO286.out) hb); have n6_ := Aside0.mk (blk_below (g := gb249) (o := .cells #[.int .i64 a0_0, .slice A0_1 l0_1.length c0_1] 59 (0, 0)) (by (with_reducible repeat (first | refine blk_drewN ?_ _ | refine blk_drew ?_ | refine blk_alloc ?_ _)); exact BK249.out) hb); have n7_ := Aside0.mk (blk_below (g := gb263) (o := .cells #[.int .i64 t258, .slice Ao30 t259.length co30] 48 (0, 0)) (by (with_reducible repeat (first | refine blk_drewN ?_ _ | refine blk_drew ?_ | refine blk_alloc ?_ _)); exact BK263.out) hb); have n8_ := Aside0.mk (blk_below (g := gb268) (o := .cells #[.int .i64 t264, .slice Ao37 t265.length co37] 48 (0, 0)) (by (with_reducible repeat (first | refine blk_drewN ?_ _ | refine blk_drew ?_ | refine blk_alloc ?_ _)); exact BK268.out) hb); have n9_ := Aside0.mk (blk_below (g := gb277) (o := .cells #[.int .i64 t272, .slice Ao47 t273.length co47] 48 (0, 0)) (by (with_reducible repeat (first | refine blk_drewN ?_ _ | refine blk_drew ?_ | refine blk_alloc ?_ _)); exact BK277.out) hb); have n10_ := Aside0.mk (below_step (by repeat (first | (with_reducible first | exact HB.out | apply bwA | apply bwN | apply bwD | refine below_set ?_ GE249.out | refine below_set ?_ GE263.out | refine below_set ?_ GE268.out | refine below_set ?_ GE277.out) | exact HB.out)) hb); clear HO_11; clear HO_264001; clear HO_269001; clear HO_278001; clear HO282; clear HO286; clear BK249; clear BK263; clear BK268; clear BK277; clear HB; have HO_11 := n0_; have HO_264001 := n1_; have HO_269001 := n2_; have HO_278001 := n3_; have HO282 := n4_; have HO286 := n5_; have BK249 := n6_; have BK263 := n7_; have BK268 := n8_; have BK277 := n9_; have HB := n10_; clear n0_ n1_ n2_ n3_ n4_ n5_ n6_ n7_ n8_ n9_ n10_; (try clear hb); (try clear hb2); (try clear hk); (try clear hi)))
           go_meet
           case rel => exact ⟨_, ((t276 != t262)), (by first | rfl | (simp; done) | (simp [*]; done)), H', ⟨by have := HJ16.out; first | omega | exact Nat.le_refl _⟩, ⟨by (with_reducible repeat (first | apply Kd.R_alloc | apply Kd.R_drewN | apply Kd.R_drew)); exact Kd.R_mono HO_264001.out (fun _ hk => ⟨hk.1, hk.2.1⟩)⟩, ⟨by (with_reducible repeat (first | apply Kd.R_alloc | apply Kd.R_drewN | apply Kd.R_drew)); exact Kd.R_mono HO_269001.out (fun _ hk => ⟨hk.1, hk.2.1⟩)⟩, ⟨by (with_reducible repeat (first | apply Kd.R_alloc | apply Kd.R_drewN | apply Kd.R_drew)); exact Kd.R_mono HO_278001.out (fun _ hk => ⟨hk.1, hk.2.1⟩)⟩, ⟨by (with_reducible repeat (first | refine blk_drewN ?_ _ | refine blk_drew ?_ | refine blk_alloc ?_ _)); exact BK249.out⟩, ⟨by (with_reducible repeat (first | refine blk_drewN ?_ _ | refine blk_drew ?_ | refine blk_alloc ?_ _)); exact BK263.out⟩, ⟨by (with_reducible repeat (first | refine blk_drewN ?_ _ | refine blk_drew ?_ | refine blk_alloc ?_ _)); exact BK268.out⟩, ⟨by (with_reducible repeat (first | refine blk_drewN ?_ _ | refine blk_drew ?_ | refine blk_alloc ?_ _)); exact BK277.out⟩, ⟨by repeat (first | (with_reducible first | exact HB.out | apply bwA | apply bwN | apply bwD | refine below_set ?_ GE249.out | refine below_set ?_ GE263.out | refine below_set ?_ GE268.out | refine below_set ?_ GE277.out) | exact HB.out)⟩⟩
          ·replace c90 := Bool.eq_false_iff.mpr c90
           subst c90
           have H1 : (laws_FnExactReordered.j1 kj16 a1 l2 t262 true a0_0 l0_1 t258 t259 t272 t273) = some r := by rw [if_neg (show ¬ (false = true) by decide)] at H; exact H
           clear H
           have H := H1
           clear H1
           have H' := Aside0.mk H
           clear H
           have hnb99 := NB277_249.out
           have hnc99 := NB249_277.out
           have hnb100 := NB277_263.out
           have hnc100 := NB263_277.out
           have hnb101 := NB277_268.out
           have hnc101 := NB268_277.out
           have hcz102_0 : w87.cell? ⟨gb277, 0, none⟩ = some (.int .i64 t272) := (blk_cell BK277.out 0).trans rfl
           have hcz102_1 : w87.cell? ⟨gb277, 1, none⟩ = some (.slice Ao47 t273.length co47) := (blk_cell BK277.out 1).trans rfl
           have hfz102_0 := blk_frozen BK277.out 0
           have hfz102_1 := blk_frozen BK277.out 1
           have hnb103 := NB263_249.out
           have hnc103 := NB249_263.out
           have hnb104 := NB263_268.out
           have hnc104 := NB268_263.out
           have hcz105_0 : w87.cell? ⟨gb263, 0, none⟩ = some (.int .i64 t258) := (blk_cell BK263.out 0).trans rfl
           have hcz105_1 : w87.cell? ⟨gb263, 1, none⟩ = some (.slice Ao30 t259.length co30) := (blk_cell BK263.out 1).trans rfl
           have hfz105_0 := blk_frozen BK263.out 0
           have hfz105_1 := blk_frozen BK263.out 1
           go_wp2_with (first | (go_at_call 39; (with_reducible refine (laws_eqDiagram.calls kj16 t272 _ _ t273 t258 _ _ t259 false _ ?side1 ?side2 ?side3 ?side4 A89.out).mono ?_); (case side1 => repeat (first | exact (Kd.R_reads' HO_278001.out).2.2 | (with_reducible refine Kd.C_alloc ?_ _) | (with_reducible refine Kd.C_drewN ?_ _) | (with_reducible refine Kd.C_drew ?_))); (case side2 => exact (Kd.R_reads' HO_278001.out).2.1); (case side3 => repeat (first | exact (Kd.R_reads' HO_264001.out).2.2 | (with_reducible refine Kd.C_alloc ?_ _) | (with_reducible refine Kd.C_drewN ?_ _) | (with_reducible refine Kd.C_drew ?_))); (case side4 => exact (Kd.R_reads' HO_264001.out).2.1); rintro e w106 ⟨rfl, hb⟩; have n0_ := Aside0.mk (Kd.R_below (by (with_reducible repeat (first | apply Kd.R_alloc | apply Kd.R_drewN | apply Kd.R_drew)); exact HO_11.out) hb); have n1_ := Aside0.mk (Kd.R_below (by (with_reducible repeat (first | apply Kd.R_alloc | apply Kd.R_drewN | apply Kd.R_drew)); exact HO_264001.out) hb); have n2_ := Aside0.mk (Kd.R_below (by (with_reducible repeat (first | apply Kd.R_alloc | apply Kd.R_drewN | apply Kd.R_drew)); exact HO_269001.out) hb); have n3_ := Aside0.mk (Kd.R_below (by (with_reducible repeat (first | apply Kd.R_alloc | apply Kd.R_drewN | apply Kd.R_drew)); exact HO_278001.out) hb); have n4_ := Aside0.mk (Kd.R_below (by (with_reducible repeat (first | apply Kd.R_alloc | apply Kd.R_drewN | apply Kd.R_drew)); exact HO282.out) hb); have n5_ := Aside0.mk (Kd.R_below (by (with_reducible repeat (first | apply Kd.R_alloc | apply Kd.R_drewN | apply Kd.R_drew)); exact HO286.out) hb); have n6_ := Aside0.mk (blk_below (g := gb249) (o := .cells #[.int .i64 a0_0, .slice A0_1 l0_1.length c0_1] 59 (0, 0)) (by (with_reducible repeat (first | refine blk_drewN ?_ _ | refine blk_drew ?_ | refine blk_alloc ?_ _)); exact BK249.out) hb); have n7_ := Aside0.mk (blk_below (g := gb263) (o := .cells #[.int .i64 t258, .slice Ao30 t259.length co30] 48 (0, 0)) (by (with_reducible repeat (first | refine blk_drewN ?_ _ | refine blk_drew ?_ | refine blk_alloc ?_ _)); exact BK263.out) hb); have n8_ := Aside0.mk (blk_below (g := gb268) (o := .cells #[.int .i64 t264, .slice Ao37 t265.length co37] 48 (0, 0)) (by (with_reducible repeat (first | refine blk_drewN ?_ _ | refine blk_drew ?_ | refine blk_alloc ?_ _)); exact BK268.out) hb); have n9_ := Aside0.mk (blk_below (g := gb277) (o := .cells #[.int .i64 t272, .slice Ao47 t273.length co47] 48 (0, 0)) (by (with_reducible repeat (first | refine blk_drewN ?_ _ | refine blk_drew ?_ | refine blk_alloc ?_ _)); exact BK277.out) hb); have n10_ := Aside0.mk (below_step (by repeat (first | (with_reducible first | exact HB.out | apply bwA | apply bwN | apply bwD | refine below_set ?_ GE249.out | refine below_set ?_ GE263.out | refine below_set ?_ GE268.out | refine below_set ?_ GE277.out) | exact HB.out)) hb); clear HO_11; clear HO_264001; clear HO_269001; clear HO_278001; clear HO282; clear HO286; clear BK249; clear BK263; clear BK268; clear BK277; clear HB; have HO_11 := n0_; have HO_264001 := n1_; have HO_269001 := n2_; have HO_278001 := n3_; have HO282 := n4_; have HO286 := n5_; have BK249 := n6_; have BK263 := n7_; have BK268 := n8_; have BK277 := n9_; have HB := n10_; clear n0_ n1_ n2_ n3_ n4_ n5_ n6_ n7_ n8_ n9_ n10_; (try clear hb); (try clear hb2); (try clear hk); (try clear hi)))
           go_meet
           case rel => exact ⟨_, (true), (by first | rfl | (simp; done) | (simp [*]; done)), H', ⟨by have := HJ16.out; first | omega | exact Nat.le_refl _⟩, ⟨by (with_reducible repeat (first | apply Kd.R_alloc | apply Kd.R_drewN | apply Kd.R_drew)); exact Kd.R_mono HO_264001.out (fun _ hk => ⟨hk.1, hk.2.1⟩)⟩, ⟨by (with_reducible repeat (first | apply Kd.R_alloc | apply Kd.R_drewN | apply Kd.R_drew)); exact Kd.R_mono HO_269001.out (fun _ hk => ⟨hk.1, hk.2.1⟩)⟩, ⟨by (with_reducible repeat (first | apply Kd.R_alloc | apply Kd.R_drewN | apply Kd.R_drew)); exact Kd.R_mono HO_278001.out (fun _ hk => ⟨hk.1, hk.2.1⟩)⟩, ⟨by (with_reducible repeat (first | refine blk_drewN ?_ _ | refine blk_drew ?_ | refine blk_alloc ?_ _)); exact BK249.out⟩, ⟨by (with_reducible repeat (first | refine blk_drewN ?_ _ | refine blk_drew ?_ | refine blk_alloc ?_ _)); exact BK263.out⟩, ⟨by (with_reducible repeat (first | refine blk_drewN ?_ _ | refine blk_drew ?_ | refine blk_alloc ?_ _)); exact BK268.out⟩, ⟨by (with_reducible repeat (first | refine blk_drewN ?_ _ | refine blk_drew ?_ | refine blk_alloc ?_ _)); exact BK277.out⟩, ⟨by repeat (first | (with_reducible first | exact HB.out | apply bwA | apply bwN | apply bwD | refine below_set ?_ GE249.out | refine below_set ?_ GE263.out | refine below_set ?_ GE268.out | refine below_set ?_ GE277.out) | exact HB.out)⟩⟩
        case rest =>
         clear HC75
         try clear c1
         try clear c2
         try clear p2
         try clear c3
         try clear c4
         try clear c4b0
         try clear c4b1
         try clear c5
         try clear c6
         try clear c7
         try clear c7b0
         try clear c8
         try clear c9
         try clear c10
         try clear c11
         try clear c28
         try clear c30
         try clear c33
         try clear c34
         try clear c35
         try clear c36
         try clear c38
         try clear c39
         try clear c40
         try clear c43
         try clear c44
         try clear c45
         try clear c49
         try clear c50
         try clear c51
         try clear c52
         try clear c54
         try clear c55
         try clear c58
         try clear c59
         try clear c60
         try clear c62
         try clear c63
         try clear c66
         try clear c69
         try clear c72
         try clear c82
         try clear c83
         try clear c84
         try clear c88
         try clear c88b0
         try clear c90
         try clear c91
         try clear c92
         try clear c93
         try clear c95
         try clear c96
         try clear c99
         try clear c100
         try clear c101
         try clear c103
         try clear c104
         try clear hcz102_0
         try clear hcz102_1
         try clear hcz105_0
         try clear hcz105_1
         try clear hcz19_0
         try clear hcz19_1
         try clear hcz21_0
         try clear hcz21_1
         try clear hcz29_0
         try clear hcz29_1
         try clear hcz31_0
         try clear hcz31_1
         try clear hcz36_0
         try clear hcz36_1
         try clear hcz39_0
         try clear hcz39_1
         try clear hcz46_0
         try clear hcz46_1
         try clear hcz53_0
         try clear hcz53_1
         try clear hcz56_0
         try clear hcz56_1
         try clear hcz61_0
         try clear hcz61_1
         try clear hcz64_0
         try clear hcz64_1
         try clear hcz85_0
         try clear hcz85_1
         try clear hcz94_0
         try clear hcz94_1
         try clear hcz97_0
         try clear hcz97_1
         try clear hcz9_0
         try clear hcz9_1
         try clear hfz102_0
         try clear hfz102_1
         try clear hfz105_0
         try clear hfz105_1
         try clear hfz19_0
         try clear hfz19_1
         try clear hfz21_0
         try clear hfz21_1
         try clear hfz29_0
         try clear hfz29_1
         try clear hfz31_0
         try clear hfz31_1
         try clear hfz36_0
         try clear hfz36_1
         try clear hfz39_0
         try clear hfz39_1
         try clear hfz46_0
         try clear hfz46_1
         try clear hfz53_0
         try clear hfz53_1
         try clear hfz56_0
         try clear hfz56_1
         try clear hfz61_0
         try clear hfz61_1
         try clear hfz64_0
         try clear hfz64_1
         try clear hfz85_0
         try clear hfz85_1
         try clear hfz94_0
         try clear hfz94_1
         try clear hfz97_0
         try clear hfz97_1
         try clear hfz9_0
         try clear hfz9_1
         try clear p2
         obtain ⟨kq, x84_74, rfl, HA, HJ74, HO_264001, HO_269001, HO_278001, BK249, BK263, BK268, BK277, HB⟩ := hcut
         have hl269001_74 := (Kd.R_reads' HO_269001.out).1
         rw [hl269001_74] at HO_269001
         (try simp only [hl269001_74])
         (try simp only [hl269001_74] at BK249)
         (try simp only [hl269001_74] at BK263)
         (try simp only [hl269001_74] at BK268)
         (try simp only [hl269001_74] at BK277)
         (try simp only [hl269001_74] at HO_264001)
         (try simp only [hl269001_74] at HO_278001)
         cases kq with
         | zero => exact absurd HA.out (by simp [laws_FnExactReordered.j1])
         | succ kj74 =>
          have H := HA.out
          clear HA
          simp only [laws_FnExactReordered.j1] at H
          by_cases c107 : x84_74 = true
          ·subst c107
           have H1 : (some false) = some r := by rw [if_pos rfl] at H; exact H
           clear H
           have H := H1
           clear H1
           obtain rfl := Option.some.inj H
           go_wp2
           go_ret
           exact ⟨by first | rfl | (simp [errW_none, errW_some] <;> rfl) | (simp [*, errW_none, errW_some] <;> rfl), by repeat (first | (with_reducible first | exact HB.out | apply bwA | apply bwN | apply bwD | refine below_set ?_ GE249.out | refine below_set ?_ GE263.out | refine below_set ?_ GE268.out | refine below_set ?_ GE277.out) | exact HB.out)⟩
          ·replace c107 := Bool.eq_false_iff.mpr c107
           subst c107
           have H1 : ((laws_markDiagram.f kj74 t272 t273 1).bind fun bt293 => ((laws_heldDiagram.f kj74 t272 bt293.2 1).bind fun t295 => (if t295 < 0 then (some false) else (if t295 = bt293.1 then ((laws_toDiagram.f kj74 a0_0 l0_1).bind fun bt296 => ((laws_toIntS.f kj74 l2).bind fun t300 => ((impl_Reordered.f kj74 bt296.1 bt296.2 a1 t300).bind fun bt303 => ((laws_eqDiagram.f kj74 bt303.1 bt303.2.1 t258 t259).bind fun t309 => (if t309 = true then (laws_FnExactReordered.j2 kj74 bt293.1 (bt303.2.2 != t262) t272 bt293.2) else (laws_FnExactReordered.j2 kj74 bt293.1 true t272 bt293.2)))))) else (some false))))) = some r := by rw [if_neg (show ¬ (false = true) by decide)] at H; exact H
           clear H
           have H := H1
           clear H1
           replace H := Option.bind_eq_some_iff.mp H
           obtain ⟨⟨t293, t294⟩, A1080, H⟩ := H
           replace H : ((laws_heldDiagram.f kj74 t272 t294 1).bind fun t295 => (if t295 < 0 then (some false) else (if t295 = t293 then ((laws_toDiagram.f kj74 a0_0 l0_1).bind fun bt296 => ((laws_toIntS.f kj74 l2).bind fun t300 => ((impl_Reordered.f kj74 bt296.1 bt296.2 a1 t300).bind fun bt303 => ((laws_eqDiagram.f kj74 bt303.1 bt303.2.1 t258 t259).bind fun t309 => (if t309 = true then (laws_FnExactReordered.j2 kj74 t293 (bt303.2.2 != t262) t272 t294) else (laws_FnExactReordered.j2 kj74 t293 true t272 t294)))))) else (some false)))) = some r := H
           have A108 := Aside0.mk A1080
           clear A1080
           replace H := Option.bind_eq_some_iff.mp H
           obtain ⟨t295, A1090, H⟩ := H
           replace H : (if t295 < 0 then (some false) else (if t295 = t293 then ((laws_toDiagram.f kj74 a0_0 l0_1).bind fun bt296 => ((laws_toIntS.f kj74 l2).bind fun t300 => ((impl_Reordered.f kj74 bt296.1 bt296.2 a1 t300).bind fun bt303 => ((laws_eqDiagram.f kj74 bt303.1 bt303.2.1 t258 t259).bind fun t309 => (if t309 = true then (laws_FnExactReordered.j2 kj74 t293 (bt303.2.2 != t262) t272 t294) else (laws_FnExactReordered.j2 kj74 t293 true t272 t294)))))) else (some false))) = some r := H
           have A109 := Aside0.mk A1090
           clear A1090
           by_cases c110 : t295 < 0
           ·rw [if_pos c110] at H
            have c110b0 : decide (t295 < 0) = true := decide_eq_true c110
            clear c110
            obtain rfl := Option.some.inj H
            have hnb111 := NB277_249.out
            have hnc111 := NB249_277.out
            have hnb112 := NB277_263.out
            have hnc112 := NB263_277.out
            have hnb113 := NB277_268.out
            have hnc113 := NB268_277.out
            have hcz114_0 : wc.cell? ⟨gb277, 0, none⟩ = some (.int .i64 t272) := (blk_cell BK277.out 0).trans rfl
            have hcz114_1 : wc.cell? ⟨gb277, 1, none⟩ = some (.slice Ao47 t273.length co47) := (blk_cell BK277.out 1).trans rfl
            have hfz114_0 := blk_frozen BK277.out 0
            have hfz114_1 := blk_frozen BK277.out 1
            go_wp2_with (first | ((with_reducible refine gate_callee (f := 40) rfl ?_); refine goesL_ (some 87) rfl rfl Try.func40 (by kernel_rfl) rfl #[.agg #[.int .i64 t272, .slice Ao47 t273.length co47], .int .i64 1] rfl (by (try simp only [List.map_toArray, List.map_cons, List.map_nil]); first | done | rfl | (simp only [List.length_drop, List.length_take]; rfl)) ?_; (with_reducible refine (laws_markDiagram.calls kj74 t272 (fun k_ => some k_ = (.slice Ao47 t273.length co47 : Value).ownBlock) (.slice Ao47 t273.length co47) t273 1 t293 t294 w _ ?side1 ?side2 A108.out).mono ?_); (case side1 => repeat (first | (with_reducible first | exact HB.out | apply bwA | apply bwN | apply bwD | refine below_set ?_ GE249.out | refine below_set ?_ GE263.out | refine below_set ?_ GE268.out | refine below_set ?_ GE277.out) | exact HB.out)); (case side2 => exact Kd.R_tight rfl HO_278001.out); rintro e w115 ⟨rfl, hy0, hb, hkp⟩; refine ⟨_, rfl, ?_⟩; have n0_ := Aside0.mk (Kd.R_mono (ok' := fun k_ => some k_ ≠ (.slice Ao37 t289.length co37 : Value).ownBlock ∧ some k_ ≠ (.slice Ao47 t273.length co47 : Value).ownBlock) (Kd.R_keptB (HO_264001.out) hkp (fun k_ hk_ hs_ => (hk_.2) hs_)) (fun k_ hk_ => ⟨hk_.1.1, hk_.1.2⟩)); have n1_ := Aside0.mk (Kd.R_mono (ok' := fun k_ => some k_ ≠ (.slice Ao30 t259.length co30 : Value).ownBlock ∧ some k_ ≠ (.slice Ao47 t273.length co47 : Value).ownBlock) (Kd.R_keptB (HO_269001.out) hkp (fun k_ hk_ hs_ => (hk_.2) hs_)) (fun k_ hk_ => ⟨hk_.1.1, hk_.1.2⟩)); have n2_ := Aside0.mk (Kd.R_reok rfl hy0 (fun k_ e_ => HO_278001.out.1 k_ e_)); have n3_ := Aside0.mk (blk_kept (by (with_reducible repeat (first | refine blk_drewN ?_ _ | refine blk_drew ?_ | refine blk_alloc ?_ _)); exact BK249.out) hkp (fun hs_ => (fun e_ => (Kd.R_ne HO_278001.out BK249.out (by decide)) e_) hs_)); have n4_ := Aside0.mk (blk_kept (by (with_reducible repeat (first | refine blk_drewN ?_ _ | refine blk_drew ?_ | refine blk_alloc ?_ _)); exact BK263.out) hkp (fun hs_ => (fun e_ => (Kd.R_ne HO_278001.out BK263.out (by decide)) e_) hs_)); have n5_ := Aside0.mk (blk_kept (by (with_reducible repeat (first | refine blk_drewN ?_ _ | refine blk_drew ?_ | refine blk_alloc ?_ _)); exact BK268.out) hkp (fun hs_ => (fun e_ => (Kd.R_ne HO_278001.out BK268.out (by decide)) e_) hs_)); have n6_ := Aside0.mk (blk_kept (by (with_reducible repeat (first | refine blk_drewN ?_ _ | refine blk_drew ?_ | refine blk_alloc ?_ _)); exact BK277.out) hkp (fun hs_ => (fun e_ => (Kd.R_ne HO_278001.out BK277.out (by decide)) e_) hs_)); have n7_ := Aside0.mk (hb); clear HO_264001; clear HO_269001; clear HO_278001; clear BK249; clear BK263; clear BK268; clear BK277; clear HB; have HO_264001 := n0_; have HO_269001 := n1_; have HO_278001 := n2_; have BK249 := n3_; have BK263 := n4_; have BK268 := n5_; have BK277 := n6_; have HB := n7_; clear n0_ n1_ n2_ n3_ n4_ n5_ n6_ n7_; (try clear hb); (try clear hkp); (try clear hy0); have hcz116_0 : w115.cell? ⟨gb277, 0, none⟩ = some (.int .i64 t272) := (blk_cell BK277.out 0).trans rfl; have hcz116_1 : w115.cell? ⟨gb277, 1, none⟩ = some (.slice Ao47 t273.length co47) := (blk_cell BK277.out 1).trans rfl; have hfz116_0 := blk_frozen BK277.out 0; have hfz116_1 := blk_frozen BK277.out 1) | ((with_reducible refine gate_callee (f := 41) rfl ?_); refine goesL_ (some 90) rfl rfl Try.func41 (by kernel_rfl) rfl #[.agg #[.int .i64 t272, .slice Ao47 t294.length co47], .int .i64 1] rfl (by (try simp only [List.map_toArray, List.map_cons, List.map_nil]); first | done | (rw [show t294.length = t273.length from (Kd.R_reads' HO_278001.out).1.symm] <;> rfl) | rfl | (simp only [List.length_drop, List.length_take]; rfl)) ?_; (with_reducible refine (laws_heldDiagram.calls kj74 t272 _ _ t294 1 t295 _ ?side1 ?side2 A109.out).mono ?_); (case side1 => repeat (first | exact (Kd.R_reads' HO_278001.out).2.2 | (with_reducible refine Kd.C_alloc ?_ _) | (with_reducible refine Kd.C_drewN ?_ _) | (with_reducible refine Kd.C_drew ?_))); (case side2 => rw [show t294.length = t273.length from (Kd.R_reads' HO_278001.out).1.symm]; exact (Kd.R_reads' HO_278001.out).2.1); rintro e w117 ⟨rfl, hb⟩; refine ⟨_, rfl, ?_⟩; have n0_ := Aside0.mk (Kd.R_below (by (with_reducible repeat (first | apply Kd.R_alloc | apply Kd.R_drewN | apply Kd.R_drew)); exact HO_264001.out) hb); have n1_ := Aside0.mk (Kd.R_below (by (with_reducible repeat (first | apply Kd.R_alloc | apply Kd.R_drewN | apply Kd.R_drew)); exact HO_269001.out) hb); have n2_ := Aside0.mk (Kd.R_below (by (with_reducible repeat (first | apply Kd.R_alloc | apply Kd.R_drewN | apply Kd.R_drew)); exact HO_278001.out) hb); have n3_ := Aside0.mk (blk_below (g := gb249) (o := .cells #[.int .i64 a0_0, .slice A0_1 l0_1.length c0_1] 59 (0, 0)) (by (with_reducible repeat (first | refine blk_drewN ?_ _ | refine blk_drew ?_ | refine blk_alloc ?_ _)); exact BK249.out) hb); have n4_ := Aside0.mk (blk_below (g := gb263) (o := .cells #[.int .i64 t258, .slice Ao30 t259.length co30] 48 (0, 0)) (by (with_reducible repeat (first | refine blk_drewN ?_ _ | refine blk_drew ?_ | refine blk_alloc ?_ _)); exact BK263.out) hb); have n5_ := Aside0.mk (blk_below (g := gb268) (o := .cells #[.int .i64 t264, .slice Ao37 t289.length co37] 48 (0, 0)) (by (with_reducible repeat (first | refine blk_drewN ?_ _ | refine blk_drew ?_ | refine blk_alloc ?_ _)); exact BK268.out) hb); have n6_ := Aside0.mk (blk_below (g := gb277) (o := .cells #[.int .i64 t272, .slice Ao47 t273.length co47] 48 (0, 0)) (by (with_reducible repeat (first | refine blk_drewN ?_ _ | refine blk_drew ?_ | refine blk_alloc ?_ _)); exact BK277.out) hb); have n7_ := Aside0.mk (below_step (by repeat (first | (with_reducible first | exact HB.out | apply bwA | apply bwN | apply bwD | refine below_set ?_ GE249.out | refine below_set ?_ GE263.out | refine below_set ?_ GE268.out | refine below_set ?_ GE277.out) | exact HB.out)) hb); clear HO_264001; clear HO_269001; clear HO_278001; clear BK249; clear BK263; clear BK268; clear BK277; clear HB; have HO_264001 := n0_; have HO_269001 := n1_; have HO_278001 := n2_; have BK249 := n3_; have BK263 := n4_; have BK268 := n5_; have BK277 := n6_; have HB := n7_; clear n0_ n1_ n2_ n3_ n4_ n5_ n6_ n7_; (try clear hb); (try clear hb2); (try clear hk); (try clear hi)))
            go_ret
            exact ⟨by first | rfl | (simp [errW_none, errW_some] <;> rfl) | (simp [*, errW_none, errW_some] <;> rfl), by repeat (first | (with_reducible first | exact HB.out | apply bwA | apply bwN | apply bwD | refine below_set ?_ GE249.out | refine below_set ?_ GE263.out | refine below_set ?_ GE268.out | refine below_set ?_ GE277.out) | exact HB.out)⟩
           ·rw [if_neg c110] at H
            have c110b0 : decide (t295 < 0) = false := decide_eq_false c110
            clear c110
            by_cases c118 : t295 = t293
            ·rw [if_pos c118] at H
             have c118b0 : (t295 == t293) = true := beq_iff_eq.mpr c118
             have c118b1 : (t295 != t293) = false := bne_eq_false_iff_eq.mpr c118
             clear c118
             replace H := Option.bind_eq_some_iff.mp H
             obtain ⟨⟨t296, t297⟩, A1190, H⟩ := H
             replace H : ((laws_toIntS.f kj74 l2).bind fun t300 => ((impl_Reordered.f kj74 t296 t297 a1 t300).bind fun bt303 => ((laws_eqDiagram.f kj74 bt303.1 bt303.2.1 t258 t259).bind fun t309 => (if t309 = true then (laws_FnExactReordered.j2 kj74 t293 (bt303.2.2 != t262) t272 t294) else (laws_FnExactReordered.j2 kj74 t293 true t272 t294))))) = some r := H
             have A119 := Aside0.mk A1190
             clear A1190
             replace H := Option.bind_eq_some_iff.mp H
             obtain ⟨t300, A1200, H⟩ := H
             replace H : ((impl_Reordered.f kj74 t296 t297 a1 t300).bind fun bt303 => ((laws_eqDiagram.f kj74 bt303.1 bt303.2.1 t258 t259).bind fun t309 => (if t309 = true then (laws_FnExactReordered.j2 kj74 t293 (bt303.2.2 != t262) t272 t294) else (laws_FnExactReordered.j2 kj74 t293 true t272 t294)))) = some r := H
             have A120 := Aside0.mk A1200
             clear A1200
             replace H := Option.bind_eq_some_iff.mp H
             obtain ⟨⟨t303, t304, t307⟩, A1210, H⟩ := H
             replace H : ((laws_eqDiagram.f kj74 t303 t304 t258 t259).bind fun t309 => (if t309 = true then (laws_FnExactReordered.j2 kj74 t293 (t307 != t262) t272 t294) else (laws_FnExactReordered.j2 kj74 t293 true t272 t294))) = some r := H
             have A121 := Aside0.mk A1210
             clear A1210
             have HC122 := Aside0.mk H
             clear H
             have hnb123 := NB277_249.out
             have hnc123 := NB249_277.out
             have hnb124 := NB277_263.out
             have hnc124 := NB263_277.out
             have hnb125 := NB277_268.out
             have hnc125 := NB268_277.out
             have hcz126_0 : wc.cell? ⟨gb277, 0, none⟩ = some (.int .i64 t272) := (blk_cell BK277.out 0).trans rfl
             have hcz126_1 : wc.cell? ⟨gb277, 1, none⟩ = some (.slice Ao47 t273.length co47) := (blk_cell BK277.out 1).trans rfl
             have hfz126_0 := blk_frozen BK277.out 0
             have hfz126_1 := blk_frozen BK277.out 1
             go_upto_region 31 with (first | ((with_reducible refine gate_callee (f := 40) rfl ?_); refine goesL_ (some 87) rfl rfl Try.func40 (by kernel_rfl) rfl #[.agg #[.int .i64 t272, .slice Ao47 t273.length co47], .int .i64 1] rfl (by (try simp only [List.map_toArray, List.map_cons, List.map_nil]); first | done | rfl | (simp only [List.length_drop, List.length_take]; rfl)) ?_; (with_reducible refine (laws_markDiagram.calls kj74 t272 (fun k_ => some k_ = (.slice Ao47 t273.length co47 : Value).ownBlock) (.slice Ao47 t273.length co47) t273 1 t293 t294 w _ ?side1 ?side2 A108.out).mono ?_); (case side1 => repeat (first | (with_reducible first | exact HB.out | apply bwA | apply bwN | apply bwD | refine below_set ?_ GE249.out | refine below_set ?_ GE263.out | refine below_set ?_ GE268.out | refine below_set ?_ GE277.out) | exact HB.out)); (case side2 => exact Kd.R_tight rfl HO_278001.out); rintro e w127 ⟨rfl, hy0, hb, hkp⟩; refine ⟨_, rfl, ?_⟩; have n0_ := Aside0.mk (Kd.R_mono (ok' := fun k_ => some k_ ≠ (.slice Ao37 t289.length co37 : Value).ownBlock ∧ some k_ ≠ (.slice Ao47 t273.length co47 : Value).ownBlock) (Kd.R_keptB (HO_264001.out) hkp (fun k_ hk_ hs_ => (hk_.2) hs_)) (fun k_ hk_ => ⟨hk_.1.1, hk_.1.2⟩)); have n1_ := Aside0.mk (Kd.R_mono (ok' := fun k_ => some k_ ≠ (.slice Ao30 t259.length co30 : Value).ownBlock ∧ some k_ ≠ (.slice Ao47 t273.length co47 : Value).ownBlock) (Kd.R_keptB (HO_269001.out) hkp (fun k_ hk_ hs_ => (hk_.2) hs_)) (fun k_ hk_ => ⟨hk_.1.1, hk_.1.2⟩)); have n2_ := Aside0.mk (Kd.R_reok rfl hy0 (fun k_ e_ => HO_278001.out.1 k_ e_)); have n3_ := Aside0.mk (blk_kept (by (with_reducible repeat (first | refine blk_drewN ?_ _ | refine blk_drew ?_ | refine blk_alloc ?_ _)); exact BK249.out) hkp (fun hs_ => (fun e_ => (Kd.R_ne HO_278001.out BK249.out (by decide)) e_) hs_)); have n4_ := Aside0.mk (blk_kept (by (with_reducible repeat (first | refine blk_drewN ?_ _ | refine blk_drew ?_ | refine blk_alloc ?_ _)); exact BK263.out) hkp (fun hs_ => (fun e_ => (Kd.R_ne HO_278001.out BK263.out (by decide)) e_) hs_)); have n5_ := Aside0.mk (blk_kept (by (with_reducible repeat (first | refine blk_drewN ?_ _ | refine blk_drew ?_ | refine blk_alloc ?_ _)); exact BK268.out) hkp (fun hs_ => (fun e_ => (Kd.R_ne HO_278001.out BK268.out (by decide)) e_) hs_)); have n6_ := Aside0.mk (blk_kept (by (with_reducible repeat (first | refine blk_drewN ?_ _ | refine blk_drew ?_ | refine blk_alloc ?_ _)); exact BK277.out) hkp (fun hs_ => (fun e_ => (Kd.R_ne HO_278001.out BK277.out (by decide)) e_) hs_)); have n7_ := Aside0.mk (hb); clear HO_264001; clear HO_269001; clear HO_278001; clear BK249; clear BK263; clear BK268; clear BK277; clear HB; have HO_264001 := n0_; have HO_269001 := n1_; have HO_278001 := n2_; have BK249 := n3_; have BK263 := n4_; have BK268 := n5_; have BK277 := n6_; have HB := n7_; clear n0_ n1_ n2_ n3_ n4_ n5_ n6_ n7_; (try clear hb); (try clear hkp); (try clear hy0); have hcz128_0 : w127.cell? ⟨gb277, 0, none⟩ = some (.int .i64 t272) := (blk_cell BK277.out 0).trans rfl; have hcz128_1 : w127.cell? ⟨gb277, 1, none⟩ = some (.slice Ao47 t273.length co47) := (blk_cell BK277.out 1).trans rfl; have hfz128_0 := blk_frozen BK277.out 0; have hfz128_1 := blk_frozen BK277.out 1) | ((with_reducible refine gate_callee (f := 41) rfl ?_); refine goesL_ (some 90) rfl rfl Try.func41 (by kernel_rfl) rfl #[.agg #[.int .i64 t272, .slice Ao47 t294.length co47], .int .i64 1] rfl (by (try simp only [List.map_toArray, List.map_cons, List.map_nil]); first | done | (rw [show t294.length = t273.length from (Kd.R_reads' HO_278001.out).1.symm] <;> rfl) | rfl | (simp only [List.length_drop, List.length_take]; rfl)) ?_; (with_reducible refine (laws_heldDiagram.calls kj74 t272 _ _ t294 1 t295 _ ?side1 ?side2 A109.out).mono ?_); (case side1 => repeat (first | exact (Kd.R_reads' HO_278001.out).2.2 | (with_reducible refine Kd.C_alloc ?_ _) | (with_reducible refine Kd.C_drewN ?_ _) | (with_reducible refine Kd.C_drew ?_))); (case side2 => rw [show t294.length = t273.length from (Kd.R_reads' HO_278001.out).1.symm]; exact (Kd.R_reads' HO_278001.out).2.1); rintro e w129 ⟨rfl, hb⟩; refine ⟨_, rfl, ?_⟩; have n0_ := Aside0.mk (Kd.R_below (by (with_reducible repeat (first | apply Kd.R_alloc | apply Kd.R_drewN | apply Kd.R_drew)); exact HO_264001.out) hb); have n1_ := Aside0.mk (Kd.R_below (by (with_reducible repeat (first | apply Kd.R_alloc | apply Kd.R_drewN | apply Kd.R_drew)); exact HO_269001.out) hb); have n2_ := Aside0.mk (Kd.R_below (by (with_reducible repeat (first | apply Kd.R_alloc | apply Kd.R_drewN | apply Kd.R_drew)); exact HO_278001.out) hb); have n3_ := Aside0.mk (blk_below (g := gb249) (o := .cells #[.int .i64 a0_0, .slice A0_1 l0_1.length c0_1] 59 (0, 0)) (by (with_reducible repeat (first | refine blk_drewN ?_ _ | refine blk_drew ?_ | refine blk_alloc ?_ _)); exact BK249.out) hb); have n4_ := Aside0.mk (blk_below (g := gb263) (o := .cells #[.int .i64 t258, .slice Ao30 t259.length co30] 48 (0, 0)) (by (with_reducible repeat (first | refine blk_drewN ?_ _ | refine blk_drew ?_ | refine blk_alloc ?_ _)); exact BK263.out) hb); have n5_ := Aside0.mk (blk_below (g := gb268) (o := .cells #[.int .i64 t264, .slice Ao37 t289.length co37] 48 (0, 0)) (by (with_reducible repeat (first | refine blk_drewN ?_ _ | refine blk_drew ?_ | refine blk_alloc ?_ _)); exact BK268.out) hb); have n6_ := Aside0.mk (blk_below (g := gb277) (o := .cells #[.int .i64 t272, .slice Ao47 t273.length co47] 48 (0, 0)) (by (with_reducible repeat (first | refine blk_drewN ?_ _ | refine blk_drew ?_ | refine blk_alloc ?_ _)); exact BK277.out) hb); have n7_ := Aside0.mk (below_step (by repeat (first | (with_reducible first | exact HB.out | apply bwA | apply bwN | apply bwD | refine below_set ?_ GE249.out | refine below_set ?_ GE263.out | refine below_set ?_ GE268.out | refine below_set ?_ GE277.out) | exact HB.out)) hb); clear HO_264001; clear HO_269001; clear HO_278001; clear BK249; clear BK263; clear BK268; clear BK277; clear HB; have HO_264001 := n0_; have HO_269001 := n1_; have HO_278001 := n2_; have BK249 := n3_; have BK263 := n4_; have BK268 := n5_; have BK277 := n6_; have HB := n7_; clear n0_ n1_ n2_ n3_ n4_ n5_ n6_ n7_; (try clear hb); (try clear hb2); (try clear hk); (try clear hi); have hnb130 := NB249_263.out; have hnc130 := NB263_249.out; have hnb131 := NB249_268.out; have hnc131 := NB268_249.out; have hcz132_0 : w129.cell? ⟨gb249, 0, none⟩ = some (.int .i64 a0_0) := (blk_cell BK249.out 0).trans rfl; have hcz132_1 : w129.cell? ⟨gb249, 1, none⟩ = some (.slice A0_1 l0_1.length c0_1) := (blk_cell BK249.out 1).trans rfl; have hfz132_0 := blk_frozen BK249.out 0; have hfz132_1 := blk_frozen BK249.out 1) | ((with_reducible refine gate_callee (f := 38) rfl ?_); refine goesL_ (some 98) rfl rfl Try.func38 (by kernel_rfl) rfl #[.agg #[.int .i64 a0_0, .slice A0_1 l0_1.length c0_1]] rfl (by (try simp only [List.map_toArray, List.map_cons, List.map_nil]); first | done | rfl | (simp only [List.length_drop, List.length_take]; rfl)) ?_; (with_reducible refine (laws_toDiagram.calls kj74 a0_0 _ _ l0_1 t296 t297 _ ?side1 ?side2 A119.out).mono ?_); (case side1 => repeat (first | exact (Kd.C_below HR0_1.out HB.out) | (with_reducible refine Kd.C_alloc ?_ _) | (with_reducible refine Kd.C_drewN ?_ _) | (with_reducible refine Kd.C_drew ?_))); (case side2 => exact HC0_1.out); rintro e w133 ⟨v298, rfl, ho0, hb⟩; refine ⟨_, rfl, ?_⟩; have n0_ := Aside0.mk (Kd.R_elder' (by (with_reducible repeat (first | apply Kd.R_alloc | apply Kd.R_drewN | apply Kd.R_drew)); exact HO_264001.out) (Kd.R_base ho0) hb); have n1_ := Aside0.mk (Kd.R_elder' (by (with_reducible repeat (first | apply Kd.R_alloc | apply Kd.R_drewN | apply Kd.R_drew)); exact HO_269001.out) (Kd.R_base ho0) hb); have n2_ := Aside0.mk (Kd.R_elder' (by (with_reducible repeat (first | apply Kd.R_alloc | apply Kd.R_drewN | apply Kd.R_drew)); exact HO_278001.out) (Kd.R_base ho0) hb); have n3_ := Aside0.mk (Kd.R_lower (Kd.R_new' (Kd.R_new' (Kd.R_new' ho0 (Kd.R_lt (by (with_reducible repeat (first | apply Kd.R_alloc | apply Kd.R_drewN | apply Kd.R_drew)); exact HO_264001.out))) (Kd.R_lt (by (with_reducible repeat (first | apply Kd.R_alloc | apply Kd.R_drewN | apply Kd.R_drew)); exact HO_269001.out))) (Kd.R_lt (by (with_reducible repeat (first | apply Kd.R_alloc | apply Kd.R_drewN | apply Kd.R_drew)); exact HO_278001.out))) (below_size (by repeat (first | (with_reducible first | exact HB.out | apply bwA | apply bwN | apply bwD | refine below_set ?_ GE249.out | refine below_set ?_ GE263.out | refine below_set ?_ GE268.out | refine below_set ?_ GE277.out) | exact HB.out)))); have n4_ := Aside0.mk (blk_below (g := gb249) (o := .cells #[.int .i64 a0_0, .slice A0_1 l0_1.length c0_1] 59 (0, 0)) (by (with_reducible repeat (first | refine blk_drewN ?_ _ | refine blk_drew ?_ | refine blk_alloc ?_ _)); exact BK249.out) hb); have n5_ := Aside0.mk (blk_below (g := gb263) (o := .cells #[.int .i64 t258, .slice Ao30 t259.length co30] 48 (0, 0)) (by (with_reducible repeat (first | refine blk_drewN ?_ _ | refine blk_drew ?_ | refine blk_alloc ?_ _)); exact BK263.out) hb); have n6_ := Aside0.mk (blk_below (g := gb268) (o := .cells #[.int .i64 t264, .slice Ao37 t289.length co37] 48 (0, 0)) (by (with_reducible repeat (first | refine blk_drewN ?_ _ | refine blk_drew ?_ | refine blk_alloc ?_ _)); exact BK268.out) hb); have n7_ := Aside0.mk (blk_below (g := gb277) (o := .cells #[.int .i64 t272, .slice Ao47 t273.length co47] 48 (0, 0)) (by (with_reducible repeat (first | refine blk_drewN ?_ _ | refine blk_drew ?_ | refine blk_alloc ?_ _)); exact BK277.out) hb); have n8_ := Aside0.mk (below_step (by repeat (first | (with_reducible first | exact HB.out | apply bwA | apply bwN | apply bwD | refine below_set ?_ GE249.out | refine below_set ?_ GE263.out | refine below_set ?_ GE268.out | refine below_set ?_ GE277.out) | exact HB.out)) hb); clear HO_264001; clear HO_269001; clear HO_278001; clear BK249; clear BK263; clear BK268; clear BK277; clear HB; have HO_264001 := n0_; have HO_269001 := n1_; have HO_278001 := n2_; have HO299 := n3_; have BK249 := n4_; have BK263 := n5_; have BK268 := n6_; have BK277 := n7_; have HB := n8_; clear n0_ n1_ n2_ n3_ n4_ n5_ n6_ n7_ n8_; (try clear hb); (try clear hb2); (try clear hk); (try clear hi); (try clear ho0)) | ((with_reducible refine gate_callee (f := 49) rfl ?_); refine goesL_ (some 101) rfl rfl Try.func49 (by kernel_rfl) rfl #[.slice A2 l2.length c2] rfl (by (try simp only [List.map_toArray, List.map_cons, List.map_nil]); first | done | rfl | (simp only [List.length_drop, List.length_take]; rfl)) ?_; (with_reducible refine (laws_toIntS.calls kj74 _ _ l2 t300 _ ?side1 ?side2 A120.out).mono ?_); (case side1 => repeat (first | exact (Kd.C_below HR2.out HB.out) | (with_reducible refine Kd.C_alloc ?_ _) | (with_reducible refine Kd.C_drewN ?_ _) | (with_reducible refine Kd.C_drew ?_))); (case side2 => exact HC2.out); rintro e w134 ⟨v301, rfl, ho0, hb⟩; refine ⟨_, rfl, ?_⟩; have n0_ := Aside0.mk (Kd.R_below (by (with_reducible repeat (first | apply Kd.R_alloc | apply Kd.R_drewN | apply Kd.R_drew)); exact HO_264001.out) hb); have n1_ := Aside0.mk (Kd.R_below (by (with_reducible repeat (first | apply Kd.R_alloc | apply Kd.R_drewN | apply Kd.R_drew)); exact HO_269001.out) hb); have n2_ := Aside0.mk (Kd.R_below (by (with_reducible repeat (first | apply Kd.R_alloc | apply Kd.R_drewN | apply Kd.R_drew)); exact HO_278001.out) hb); have n3_ := Aside0.mk (Kd.R_below (by (with_reducible repeat (first | apply Kd.R_alloc | apply Kd.R_drewN | apply Kd.R_drew)); exact HO299.out) hb); have n4_ := Aside0.mk (Kd.R_lower ho0 (below_size (by repeat (first | (with_reducible first | exact HB.out | apply bwA | apply bwN | apply bwD | refine below_set ?_ GE249.out | refine below_set ?_ GE263.out | refine below_set ?_ GE268.out | refine below_set ?_ GE277.out) | exact HB.out)))); have n5_ := Aside0.mk (blk_below (g := gb249) (o := .cells #[.int .i64 a0_0, .slice A0_1 l0_1.length c0_1] 59 (0, 0)) (by (with_reducible repeat (first | refine blk_drewN ?_ _ | refine blk_drew ?_ | refine blk_alloc ?_ _)); exact BK249.out) hb); have n6_ := Aside0.mk (blk_below (g := gb263) (o := .cells #[.int .i64 t258, .slice Ao30 t259.length co30] 48 (0, 0)) (by (with_reducible repeat (first | refine blk_drewN ?_ _ | refine blk_drew ?_ | refine blk_alloc ?_ _)); exact BK263.out) hb); have n7_ := Aside0.mk (blk_below (g := gb268) (o := .cells #[.int .i64 t264, .slice Ao37 t289.length co37] 48 (0, 0)) (by (with_reducible repeat (first | refine blk_drewN ?_ _ | refine blk_drew ?_ | refine blk_alloc ?_ _)); exact BK268.out) hb); have n8_ := Aside0.mk (blk_below (g := gb277) (o := .cells #[.int .i64 t272, .slice Ao47 t273.length co47] 48 (0, 0)) (by (with_reducible repeat (first | refine blk_drewN ?_ _ | refine blk_drew ?_ | refine blk_alloc ?_ _)); exact BK277.out) hb); have n9_ := Aside0.mk (below_step (by repeat (first | (with_reducible first | exact HB.out | apply bwA | apply bwN | apply bwD | refine below_set ?_ GE249.out | refine below_set ?_ GE263.out | refine below_set ?_ GE268.out | refine below_set ?_ GE277.out) | exact HB.out)) hb); clear HO_264001; clear HO_269001; clear HO_278001; clear HO299; clear BK249; clear BK263; clear BK268; clear BK277; clear HB; have HO_264001 := n0_; have HO_269001 := n1_; have HO_278001 := n2_; have HO299 := n3_; have HO302 := n4_; have BK249 := n5_; have BK263 := n6_; have BK268 := n7_; have BK277 := n8_; have HB := n9_; clear n0_ n1_ n2_ n3_ n4_ n5_ n6_ n7_ n8_ n9_; (try clear hb); (try clear hb2); (try clear hk); (try clear hi); (try clear ho0); obtain ⟨Ao135, co135, eo135⟩ := Kd.R_slice HO299.out; subst eo135; obtain ⟨Ao136, co136, eo136⟩ := Kd.R_slice HO302.out; subst eo136) | ((with_reducible refine gate_callee (f := 30) rfl ?_); refine goesL_ (some 102) rfl rfl Try.func30 (by kernel_rfl) rfl #[.agg #[.int .i64 t296, .slice Ao135 t297.length co135], .int .i64 a1, .slice Ao136 t300.length co136] rfl (by (try simp only [List.map_toArray, List.map_cons, List.map_nil]); first | done | rfl | (simp only [List.length_drop, List.length_take]; rfl)) ?_; (with_reducible refine (impl_Reordered.calls kj74 t296 _ _ t297 a1 _ _ t300 t303 t304 t307 _ ?side1 ?side2 ?side3 ?side4 A121.out).mono ?_); (case side1 => repeat (first | exact (Kd.R_reads' HO299.out).2.2 | (with_reducible refine Kd.C_alloc ?_ _) | (with_reducible refine Kd.C_drewN ?_ _) | (with_reducible refine Kd.C_drew ?_))); (case side2 => exact (Kd.R_reads' HO299.out).2.1); (case side3 => repeat (first | exact (Kd.R_reads' HO302.out).2.2 | (with_reducible refine Kd.C_alloc ?_ _) | (with_reducible refine Kd.C_drewN ?_ _) | (with_reducible refine Kd.C_drew ?_))); (case side4 => exact (Kd.R_reads' HO302.out).2.1); rintro e w137 ⟨v305, rfl, ho0, hb⟩; refine ⟨_, rfl, ?_⟩; have n0_ := Aside0.mk (Kd.R_elder' (by (with_reducible repeat (first | apply Kd.R_alloc | apply Kd.R_drewN | apply Kd.R_drew)); exact HO_264001.out) (Kd.R_base ho0) hb); have n1_ := Aside0.mk (Kd.R_elder' (by (with_reducible repeat (first | apply Kd.R_alloc | apply Kd.R_drewN | apply Kd.R_drew)); exact HO_269001.out) (Kd.R_base ho0) hb); have n2_ := Aside0.mk (Kd.R_elder' (by (with_reducible repeat (first | apply Kd.R_alloc | apply Kd.R_drewN | apply Kd.R_drew)); exact HO_278001.out) (Kd.R_base ho0) hb); have n3_ := Aside0.mk (Kd.R_elder' (by (with_reducible repeat (first | apply Kd.R_alloc | apply Kd.R_drewN | apply Kd.R_drew)); exact HO299.out) (Kd.R_base ho0) hb); have n4_ := Aside0.mk (Kd.R_below (by (with_reducible repeat (first | apply Kd.R_alloc | apply Kd.R_drewN | apply Kd.R_drew)); exact HO302.out) hb); have n5_ := Aside0.mk (Kd.R_lower (Kd.R_new' (Kd.R_new' (Kd.R_new' (Kd.R_new' ho0 (Kd.R_lt (by (with_reducible repeat (first | apply Kd.R_alloc | apply Kd.R_drewN | apply Kd.R_drew)); exact HO_264001.out))) (Kd.R_lt (by (with_reducible repeat (first | apply Kd.R_alloc | apply Kd.R_drewN | apply Kd.R_drew)); exact HO_269001.out))) (Kd.R_lt (by (with_reducible repeat (first | apply Kd.R_alloc | apply Kd.R_drewN | apply Kd.R_drew)); exact HO_278001.out))) (Kd.R_lt (by (with_reducible repeat (first | apply Kd.R_alloc | apply Kd.R_drewN | apply Kd.R_drew)); exact HO299.out))) (below_size (by repeat (first | (with_reducible first | exact HB.out | apply bwA | apply bwN | apply bwD | refine below_set ?_ GE249.out | refine below_set ?_ GE263.out | refine below_set ?_ GE268.out | refine below_set ?_ GE277.out) | exact HB.out)))); have n6_ := Aside0.mk (blk_below (g := gb249) (o := .cells #[.int .i64 a0_0, .slice A0_1 l0_1.length c0_1] 59 (0, 0)) (by (with_reducible repeat (first | refine blk_drewN ?_ _ | refine blk_drew ?_ | refine blk_alloc ?_ _)); exact BK249.out) hb); have n7_ := Aside0.mk (blk_below (g := gb263) (o := .cells #[.int .i64 t258, .slice Ao30 t259.length co30] 48 (0, 0)) (by (with_reducible repeat (first | refine blk_drewN ?_ _ | refine blk_drew ?_ | refine blk_alloc ?_ _)); exact BK263.out) hb); have n8_ := Aside0.mk (blk_below (g := gb268) (o := .cells #[.int .i64 t264, .slice Ao37 t289.length co37] 48 (0, 0)) (by (with_reducible repeat (first | refine blk_drewN ?_ _ | refine blk_drew ?_ | refine blk_alloc ?_ _)); exact BK268.out) hb); have n9_ := Aside0.mk (blk_below (g := gb277) (o := .cells #[.int .i64 t272, .slice Ao47 t273.length co47] 48 (0, 0)) (by (with_reducible repeat (first | refine blk_drewN ?_ _ | refine blk_drew ?_ | refine blk_alloc ?_ _)); exact BK277.out) hb); have n10_ := Aside0.mk (below_step (by repeat (first | (with_reducible first | exact HB.out | apply bwA | apply bwN | apply bwD | refine below_set ?_ GE249.out | refine below_set ?_ GE263.out | refine below_set ?_ GE268.out | refine below_set ?_ GE277.out) | exact HB.out)) hb); clear HO_264001; clear HO_269001; clear HO_278001; clear HO299; clear HO302; clear BK249; clear BK263; clear BK268; clear BK277; clear HB; have HO_264001 := n0_; have HO_269001 := n1_; have HO_278001 := n2_; have HO299 := n3_; have HO302 := n4_; have HO306 := n5_; have BK249 := n6_; have BK263 := n7_; have BK268 := n8_; have BK277 := n9_; have HB := n10_; clear n0_ n1_ n2_ n3_ n4_ n5_ n6_ n7_ n8_ n9_ n10_; (try clear hb); (try clear hb2); (try clear hk); (try clear hi); (try clear ho0)) | ((with_reducible refine gate_dst (N := 17) rfl ?_); refine box_event ?hg (N := 17) ?hd (cs := #[.int .i64 0, .slice none 0 0]) (t := 48) ?hr ?_; (case hd => rfl); (case hg => rfl); (case hr => first | (go_simp; done) | (go_simp; rfl)); intro gb308 hg w138 hbox hb; have n0_ := Aside0.mk (Kd.R_below (by (with_reducible repeat (first | apply Kd.R_alloc | apply Kd.R_drewN | apply Kd.R_drew)); exact HO_264001.out) hb); have n1_ := Aside0.mk (Kd.R_below (by (with_reducible repeat (first | apply Kd.R_alloc | apply Kd.R_drewN | apply Kd.R_drew)); exact HO_269001.out) hb); have n2_ := Aside0.mk (Kd.R_below (by (with_reducible repeat (first | apply Kd.R_alloc | apply Kd.R_drewN | apply Kd.R_drew)); exact HO_278001.out) hb); have n3_ := Aside0.mk (Kd.R_below (by (with_reducible repeat (first | apply Kd.R_alloc | apply Kd.R_drewN | apply Kd.R_drew)); exact HO299.out) hb); have n4_ := Aside0.mk (Kd.R_below (by (with_reducible repeat (first | apply Kd.R_alloc | apply Kd.R_drewN | apply Kd.R_drew)); exact HO302.out) hb); have n5_ := Aside0.mk (Kd.R_below (by (with_reducible repeat (first | apply Kd.R_alloc | apply Kd.R_drewN | apply Kd.R_drew)); exact HO306.out) hb); have n6_ := Aside0.mk (blk_below (g := gb249) (o := .cells #[.int .i64 a0_0, .slice A0_1 l0_1.length c0_1] 59 (0, 0)) (by (with_reducible repeat (first | refine blk_drewN ?_ _ | refine blk_drew ?_ | refine blk_alloc ?_ _)); exact BK249.out) hb); have n7_ := Aside0.mk (blk_below (g := gb263) (o := .cells #[.int .i64 t258, .slice Ao30 t259.length co30] 48 (0, 0)) (by (with_reducible repeat (first | refine blk_drewN ?_ _ | refine blk_drew ?_ | refine blk_alloc ?_ _)); exact BK263.out) hb); have n8_ := Aside0.mk (blk_below (g := gb268) (o := .cells #[.int .i64 t264, .slice Ao37 t289.length co37] 48 (0, 0)) (by (with_reducible repeat (first | refine blk_drewN ?_ _ | refine blk_drew ?_ | refine blk_alloc ?_ _)); exact BK268.out) hb); have n9_ := Aside0.mk (blk_below (g := gb277) (o := .cells #[.int .i64 t272, .slice Ao47 t273.length co47] 48 (0, 0)) (by (with_reducible repeat (first | refine blk_drewN ?_ _ | refine blk_drew ?_ | refine blk_alloc ?_ _)); exact BK277.out) hb); have n10_ := Aside0.mk (below_step (by repeat (first | (with_reducible first | exact HB.out | apply bwA | apply bwN | apply bwD | refine below_set ?_ GE249.out | refine below_set ?_ GE263.out | refine below_set ?_ GE268.out | refine below_set ?_ GE277.out) | exact HB.out)) hb); have n11_ := Aside0.mk (hbox); have n12_ := Aside0.mk ((by rw [hg]; exact (below_size (by repeat (first | (with_reducible first | exact HB.out | apply bwA | apply bwN | apply bwD | refine below_set ?_ GE249.out | refine below_set ?_ GE263.out | refine below_set ?_ GE268.out | refine below_set ?_ GE277.out) | exact HB.out))) : w.heap.size ≤ gb308)); have n13_ := Aside0.mk ((by rw [hg]; exact (below_size (by repeat (first | (with_reducible first | exact HB.out | apply bwA | apply bwN | apply bwD | refine below_set ?_ GE249.out | refine below_set ?_ GE263.out | refine below_set ?_ GE268.out | refine below_set ?_ GE277.out) | exact HB.out))) : w.heap.size ≤ gb308)); have n14_ := Aside0.mk ((by rw [hg]; exact Nat.ne_of_lt (blk_lt (g := gb249) (o := .cells #[.int .i64 a0_0, .slice A0_1 l0_1.length c0_1] 59 (0, 0)) (by (with_reducible repeat (first | refine blk_drewN ?_ _ | refine blk_drew ?_ | refine blk_alloc ?_ _)); exact BK249.out)) : gb249 ≠ gb308)); have n15_ := Aside0.mk ((by rw [hg]; exact Nat.ne_of_gt (blk_lt (g := gb249) (o := .cells #[.int .i64 a0_0, .slice A0_1 l0_1.length c0_1] 59 (0, 0)) (by (with_reducible repeat (first | refine blk_drewN ?_ _ | refine blk_drew ?_ | refine blk_alloc ?_ _)); exact BK249.out)) : gb308 ≠ gb249)); have n16_ := Aside0.mk ((by rw [hg]; exact Nat.ne_of_lt (blk_lt (g := gb263) (o := .cells #[.int .i64 t258, .slice Ao30 t259.length co30] 48 (0, 0)) (by (with_reducible repeat (first | refine blk_drewN ?_ _ | refine blk_drew ?_ | refine blk_alloc ?_ _)); exact BK263.out)) : gb263 ≠ gb308)); have n17_ := Aside0.mk ((by rw [hg]; exact Nat.ne_of_gt (blk_lt (g := gb263) (o := .cells #[.int .i64 t258, .slice Ao30 t259.length co30] 48 (0, 0)) (by (with_reducible repeat (first | refine blk_drewN ?_ _ | refine blk_drew ?_ | refine blk_alloc ?_ _)); exact BK263.out)) : gb308 ≠ gb263)); have n18_ := Aside0.mk ((by rw [hg]; exact Nat.ne_of_lt (blk_lt (g := gb268) (o := .cells #[.int .i64 t264, .slice Ao37 t289.length co37] 48 (0, 0)) (by (with_reducible repeat (first | refine blk_drewN ?_ _ | refine blk_drew ?_ | refine blk_alloc ?_ _)); exact BK268.out)) : gb268 ≠ gb308)); have n19_ := Aside0.mk ((by rw [hg]; exact Nat.ne_of_gt (blk_lt (g := gb268) (o := .cells #[.int .i64 t264, .slice Ao37 t289.length co37] 48 (0, 0)) (by (with_reducible repeat (first | refine blk_drewN ?_ _ | refine blk_drew ?_ | refine blk_alloc ?_ _)); exact BK268.out)) : gb308 ≠ gb268)); have n20_ := Aside0.mk ((by rw [hg]; exact Nat.ne_of_lt (blk_lt (g := gb277) (o := .cells #[.int .i64 t272, .slice Ao47 t273.length co47] 48 (0, 0)) (by (with_reducible repeat (first | refine blk_drewN ?_ _ | refine blk_drew ?_ | refine blk_alloc ?_ _)); exact BK277.out)) : gb277 ≠ gb308)); have n21_ := Aside0.mk ((by rw [hg]; exact Nat.ne_of_gt (blk_lt (g := gb277) (o := .cells #[.int .i64 t272, .slice Ao47 t273.length co47] 48 (0, 0)) (by (with_reducible repeat (first | refine blk_drewN ?_ _ | refine blk_drew ?_ | refine blk_alloc ?_ _)); exact BK277.out)) : gb308 ≠ gb277)); clear HO_264001; clear HO_269001; clear HO_278001; clear HO299; clear HO302; clear HO306; clear BK249; clear BK263; clear BK268; clear BK277; clear HB; have HO_264001 := n0_; have HO_269001 := n1_; have HO_278001 := n2_; have HO299 := n3_; have HO302 := n4_; have HO306 := n5_; have BK249 := n6_; have BK263 := n7_; have BK268 := n8_; have BK277 := n9_; have HB := n10_; have BK308 := n11_; have GW308 := n12_; have GE308 := n13_; have NB249_308 := n14_; have NB308_249 := n15_; have NB263_308 := n16_; have NB308_263 := n17_; have NB268_308 := n18_; have NB308_268 := n19_; have NB277_308 := n20_; have NB308_277 := n21_; clear n0_ n1_ n2_ n3_ n4_ n5_ n6_ n7_ n8_ n9_ n10_ n11_ n12_ n13_ n14_ n15_ n16_ n17_ n18_ n19_ n20_ n21_; clear hb hbox hg; have hnb139 := NB308_249.out; have hnc139 := NB249_308.out; have hnb140 := NB308_263.out; have hnc140 := NB263_308.out; have hnb141 := NB308_268.out; have hnc141 := NB268_308.out; have hnb142 := NB308_277.out; have hnc142 := NB277_308.out; have hcz143_0 : w138.cell? ⟨gb308, 0, none⟩ = some (.int .i64 0) := (blk_cell BK308.out 0).trans rfl; have hcz143_1 : w138.cell? ⟨gb308, 1, none⟩ = some (.slice none 0 0) := (blk_cell BK308.out 1).trans rfl; have hfz143_0 := blk_frozen BK308.out 0; have hfz143_1 := blk_frozen BK308.out 1; obtain ⟨Ao144, co144, eo144⟩ := Kd.R_slice HO306.out; subst eo144))
             (try simp only [Act.put, List.setIfInBounds_toArray, List.set_cons_zero, List.set_cons_succ])
             go_cut [113] (fun v113 wc => ∃ (kq : Nat) (x113_121 : Bool), v113 = .bool x113_121 ∧ Aside0 (laws_FnExactReordered.j2 kq t293 x113_121 t272 t294 = some r) ∧ Aside0 (kq ≤ kj74) ∧ Aside0 (Kd.R k56 56 wc w.heap.size (fun k_ => some k_ ≠ ((.slice Ao37 t289.length co37) : Value).ownBlock ∧ some k_ ≠ ((.slice Ao47 t273.length co47) : Value).ownBlock ∧ some k_ ≠ ((.slice Ao144 t304.length co144) : Value).ownBlock) (.slice Ao30 t259.length co30) t259) ∧ Aside0 (Kd.R k56 56 wc w.heap.size (fun k_ => some k_ ≠ ((.slice Ao30 t259.length co30) : Value).ownBlock ∧ some k_ ≠ ((.slice Ao47 t273.length co47) : Value).ownBlock ∧ some k_ ≠ ((.slice Ao144 t304.length co144) : Value).ownBlock) (.slice Ao37 t289.length co37) t289) ∧ Aside0 (Kd.R k56 56 wc w.heap.size (fun k_ => some k_ ≠ ((.slice Ao30 t259.length co30) : Value).ownBlock ∧ some k_ ≠ ((.slice Ao37 t289.length co37) : Value).ownBlock ∧ some k_ ≠ ((.slice Ao144 t304.length co144) : Value).ownBlock) (.slice Ao47 t273.length co47) t294) ∧ Aside0 (Kd.R k56 56 wc w.heap.size (fun k_ => some k_ ≠ ((.slice Ao30 t259.length co30) : Value).ownBlock ∧ some k_ ≠ ((.slice Ao37 t289.length co37) : Value).ownBlock ∧ some k_ ≠ ((.slice Ao47 t273.length co47) : Value).ownBlock) (.slice Ao144 t304.length co144) t304) ∧ Aside0 (wc.heap[gb249]? = some (.cells #[.int .i64 a0_0, (.slice A0_1 l0_1.length c0_1)] 59 (0, 0))) ∧ Aside0 (wc.heap[gb263]? = some (.cells #[.int .i64 t258, (.slice Ao30 t259.length co30)] 48 (0, 0))) ∧ Aside0 (wc.heap[gb268]? = some (.cells #[.int .i64 t264, (.slice Ao37 t289.length co37)] 48 (0, 0))) ∧ Aside0 (wc.heap[gb277]? = some (.cells #[.int .i64 t272, (.slice Ao47 t273.length co47)] 48 (0, 0))) ∧ Aside0 (wc.heap[gb308]? = some (.cells #[.int .i64 t303, (.slice Ao144 t304.length co144)] 48 (0, 0))) ∧ Aside0 (Below w.heap.size w wc))
             case first =>
              have H := HC122.out
              clear HC122
              replace H := Option.bind_eq_some_iff.mp H
              obtain ⟨t309, A1450, H⟩ := H
              replace H : (if t309 = true then (laws_FnExactReordered.j2 kj74 t293 (t307 != t262) t272 t294) else (laws_FnExactReordered.j2 kj74 t293 true t272 t294)) = some r := H
              have A145 := Aside0.mk A1450
              clear A1450
              by_cases c146 : t309 = true
              ·subst c146
               have H1 : (laws_FnExactReordered.j2 kj74 t293 (t307 != t262) t272 t294) = some r := by rw [if_pos rfl] at H; exact H
               clear H
               have H := H1
               clear H1
               have H' := Aside0.mk H
               clear H
               have hnb147 := NB308_249.out
               have hnc147 := NB249_308.out
               have hnb148 := NB308_263.out
               have hnc148 := NB263_308.out
               have hnb149 := NB308_268.out
               have hnc149 := NB268_308.out
               have hnb150 := NB308_277.out
               have hnc150 := NB277_308.out
               have hcz151_0 : w138.cell? ⟨gb308, 0, none⟩ = some (.int .i64 0) := (blk_cell BK308.out 0).trans rfl
               have hcz151_1 : w138.cell? ⟨gb308, 1, none⟩ = some (.slice none 0 0) := (blk_cell BK308.out 1).trans rfl
               have hfz151_0 := blk_frozen BK308.out 0
               have hfz151_1 := blk_frozen BK308.out 1
               have hnb152 := NB263_249.out
               have hnc152 := NB249_263.out
               have hnb153 := NB263_268.out
               have hnc153 := NB268_263.out
               have hnb154 := NB263_277.out
               have hnc154 := NB277_263.out
               have hcz155_0 : w138.cell? ⟨gb263, 0, none⟩ = some (.int .i64 t258) := (blk_cell BK263.out 0).trans rfl
               have hcz155_1 : w138.cell? ⟨gb263, 1, none⟩ = some (.slice Ao30 t259.length co30) := (blk_cell BK263.out 1).trans rfl
               have hfz155_0 := blk_frozen BK263.out 0
               have hfz155_1 := blk_frozen BK263.out 1
               go_wp2_with (first | ((with_reducible refine gate_callee (f := 39) rfl ?_); refine goesL_ (some 107) rfl rfl Try.func39 (by kernel_rfl) rfl #[.agg #[.int .i64 t303, .slice Ao144 t304.length co144], .agg #[.int .i64 t258, .slice Ao30 t259.length co30]] rfl (by (try simp only [List.map_toArray, List.map_cons, List.map_nil]); first | done | rfl | (simp only [List.length_drop, List.length_take]; rfl)) ?_; (with_reducible refine (laws_eqDiagram.calls kj74 t303 _ _ t304 t258 _ _ t259 true _ ?side1 ?side2 ?side3 ?side4 A145.out).mono ?_); (case side1 => refine (Kd.R_reads' (e := 56) (base := w.heap.size) (ok := fun k_ => ((((True ∧ some k_ ≠ (.slice Ao30 t259.length co30 : Value).ownBlock) ∧ some k_ ≠ (.slice Ao37 t289.length co37 : Value).ownBlock) ∧ some k_ ≠ (.slice Ao47 t273.length co47 : Value).ownBlock) ∧ some k_ ≠ (.slice Ao135 t297.length co135 : Value).ownBlock)) (n := t304.length) (c := co144) ?_).2.2; exact (by (with_reducible repeat (first | apply Kd.R_alloc | apply Kd.R_drewN | apply Kd.R_drew)); exact (Kd.R_mono (Kd.R_far (p := ⟨gb308, 1, none⟩) (Kd.R_far (p := ⟨gb308, 0, none⟩) (Kd.R_types HO306.out BK308.out (by decide)) (fun _ hk => hk.2) (.int .i64 t303)) (fun _ hk => hk.2) (.slice Ao144 t304.length co144)) (fun _ h_ => h_.1)))); (case side2 => exact (Kd.R_reads' HO306.out).2.1); (case side3 => refine (Kd.R_reads' (e := 56) (base := w.heap.size) (ok := fun k_ => (((some k_ ≠ (.slice Ao37 t289.length co37 : Value).ownBlock ∧ some k_ ≠ (.slice Ao47 t273.length co47 : Value).ownBlock) ∧ some k_ ≠ (.slice Ao135 t297.length co135 : Value).ownBlock) ∧ some k_ ≠ (.slice Ao144 t304.length co144 : Value).ownBlock)) (n := t259.length) (c := co30) ?_).2.2; exact (by (with_reducible repeat (first | apply Kd.R_alloc | apply Kd.R_drewN | apply Kd.R_drew)); exact (Kd.R_mono (Kd.R_far (p := ⟨gb308, 1, none⟩) (Kd.R_far (p := ⟨gb308, 0, none⟩) (Kd.R_types HO_264001.out BK308.out (by decide)) (fun _ hk => hk.2) (.int .i64 t303)) (fun _ hk => hk.2) (.slice Ao144 t304.length co144)) (fun _ h_ => h_.1)))); (case side4 => exact (Kd.R_reads' HO_264001.out).2.1); rintro e w156 ⟨rfl, hb⟩; refine ⟨_, rfl, ?_⟩; have n0_ := Aside0.mk (Kd.R_below (by (with_reducible repeat (first | apply Kd.R_alloc | apply Kd.R_drewN | apply Kd.R_drew)); exact (Kd.R_mono (Kd.R_far (p := ⟨gb308, 1, none⟩) (Kd.R_far (p := ⟨gb308, 0, none⟩) (Kd.R_types HO_264001.out BK308.out (by decide)) (fun _ hk => hk.2) (.int .i64 t303)) (fun _ hk => hk.2) (.slice Ao144 t304.length co144)) (fun _ h_ => h_.1))) hb); have n1_ := Aside0.mk (Kd.R_below (by (with_reducible repeat (first | apply Kd.R_alloc | apply Kd.R_drewN | apply Kd.R_drew)); exact (Kd.R_mono (Kd.R_far (p := ⟨gb308, 1, none⟩) (Kd.R_far (p := ⟨gb308, 0, none⟩) (Kd.R_types HO_269001.out BK308.out (by decide)) (fun _ hk => hk.2) (.int .i64 t303)) (fun _ hk => hk.2) (.slice Ao144 t304.length co144)) (fun _ h_ => h_.1))) hb); have n2_ := Aside0.mk (Kd.R_below (by (with_reducible repeat (first | apply Kd.R_alloc | apply Kd.R_drewN | apply Kd.R_drew)); exact (Kd.R_mono (Kd.R_far (p := ⟨gb308, 1, none⟩) (Kd.R_far (p := ⟨gb308, 0, none⟩) (Kd.R_types HO_278001.out BK308.out (by decide)) (fun _ hk => hk.2) (.int .i64 t303)) (fun _ hk => hk.2) (.slice Ao144 t304.length co144)) (fun _ h_ => h_.1))) hb); have n3_ := Aside0.mk (Kd.R_below (by (with_reducible repeat (first | apply Kd.R_alloc | apply Kd.R_drewN | apply Kd.R_drew)); exact (Kd.R_mono (Kd.R_far (p := ⟨gb308, 1, none⟩) (Kd.R_far (p := ⟨gb308, 0, none⟩) (Kd.R_types HO299.out BK308.out (by decide)) (fun _ hk => hk.2) (.int .i64 t303)) (fun _ hk => hk.2) (.slice Ao144 t304.length co144)) (fun _ h_ => h_.1))) hb); have n4_ := Aside0.mk (Kd.R_below (by (with_reducible repeat (first | apply Kd.R_alloc | apply Kd.R_drewN | apply Kd.R_drew)); exact (Kd.R_mono (Kd.R_far (p := ⟨gb308, 1, none⟩) (Kd.R_far (p := ⟨gb308, 0, none⟩) (Kd.R_types HO302.out BK308.out (by decide)) (fun _ hk => hk.2) (.int .i64 t303)) (fun _ hk => hk.2) (.slice Ao144 t304.length co144)) (fun _ h_ => h_.1))) hb); have n5_ := Aside0.mk (Kd.R_below (by (with_reducible repeat (first | apply Kd.R_alloc | apply Kd.R_drewN | apply Kd.R_drew)); exact (Kd.R_mono (Kd.R_far (p := ⟨gb308, 1, none⟩) (Kd.R_far (p := ⟨gb308, 0, none⟩) (Kd.R_types HO306.out BK308.out (by decide)) (fun _ hk => hk.2) (.int .i64 t303)) (fun _ hk => hk.2) (.slice Ao144 t304.length co144)) (fun _ h_ => h_.1))) hb); have n6_ := Aside0.mk (blk_below (g := gb249) (o := .cells #[.int .i64 a0_0, .slice A0_1 l0_1.length c0_1] 59 (0, 0)) (by (with_reducible repeat (first | refine blk_drewN ?_ _ | refine blk_drew ?_ | refine blk_alloc ?_ _)); refine blk_far ?_ NB249_308.out _; (with_reducible repeat (first | refine blk_drewN ?_ _ | refine blk_drew ?_ | refine blk_alloc ?_ _)); refine blk_far ?_ NB249_308.out _; (with_reducible repeat (first | refine blk_drewN ?_ _ | refine blk_drew ?_ | refine blk_alloc ?_ _)); exact BK249.out) hb); have n7_ := Aside0.mk (blk_below (g := gb263) (o := .cells #[.int .i64 t258, .slice Ao30 t259.length co30] 48 (0, 0)) (by (with_reducible repeat (first | refine blk_drewN ?_ _ | refine blk_drew ?_ | refine blk_alloc ?_ _)); refine blk_far ?_ NB263_308.out _; (with_reducible repeat (first | refine blk_drewN ?_ _ | refine blk_drew ?_ | refine blk_alloc ?_ _)); refine blk_far ?_ NB263_308.out _; (with_reducible repeat (first | refine blk_drewN ?_ _ | refine blk_drew ?_ | refine blk_alloc ?_ _)); exact BK263.out) hb); have n8_ := Aside0.mk (blk_below (g := gb268) (o := .cells #[.int .i64 t264, .slice Ao37 t289.length co37] 48 (0, 0)) (by (with_reducible repeat (first | refine blk_drewN ?_ _ | refine blk_drew ?_ | refine blk_alloc ?_ _)); refine blk_far ?_ NB268_308.out _; (with_reducible repeat (first | refine blk_drewN ?_ _ | refine blk_drew ?_ | refine blk_alloc ?_ _)); refine blk_far ?_ NB268_308.out _; (with_reducible repeat (first | refine blk_drewN ?_ _ | refine blk_drew ?_ | refine blk_alloc ?_ _)); exact BK268.out) hb); have n9_ := Aside0.mk (blk_below (g := gb277) (o := .cells #[.int .i64 t272, .slice Ao47 t273.length co47] 48 (0, 0)) (by (with_reducible repeat (first | refine blk_drewN ?_ _ | refine blk_drew ?_ | refine blk_alloc ?_ _)); refine blk_far ?_ NB277_308.out _; (with_reducible repeat (first | refine blk_drewN ?_ _ | refine blk_drew ?_ | refine blk_alloc ?_ _)); refine blk_far ?_ NB277_308.out _; (with_reducible repeat (first | refine blk_drewN ?_ _ | refine blk_drew ?_ | refine blk_alloc ?_ _)); exact BK277.out) hb); have n10_ := Aside0.mk (blk_below (g := gb308) (o := .cells #[.int .i64 t303, .slice Ao144 t304.length co144] 48 (0, 0)) (by (with_reducible repeat (first | refine blk_drewN ?_ _ | refine blk_drew ?_ | refine blk_alloc ?_ _)); refine blk_put (cs := #[.int .i64 t303, .slice none 0 0]) ?_ 1 _ rfl; (with_reducible repeat (first | refine blk_drewN ?_ _ | refine blk_drew ?_ | refine blk_alloc ?_ _)); refine blk_put (cs := #[.int .i64 0, .slice none 0 0]) ?_ 0 _ rfl; (with_reducible repeat (first | refine blk_drewN ?_ _ | refine blk_drew ?_ | refine blk_alloc ?_ _)); exact BK308.out) hb); have n11_ := Aside0.mk (below_step (by repeat (first | (with_reducible first | exact HB.out | apply bwA | apply bwN | apply bwD | refine below_set ?_ GE249.out | refine below_set ?_ GE263.out | refine below_set ?_ GE268.out | refine below_set ?_ GE277.out | refine below_set ?_ GE308.out) | exact HB.out)) hb); clear HO_264001; clear HO_269001; clear HO_278001; clear HO299; clear HO302; clear HO306; clear BK249; clear BK263; clear BK268; clear BK277; clear BK308; clear HB; have HO_264001 := n0_; have HO_269001 := n1_; have HO_278001 := n2_; have HO299 := n3_; have HO302 := n4_; have HO306 := n5_; have BK249 := n6_; have BK263 := n7_; have BK268 := n8_; have BK277 := n9_; have BK308 := n10_; have HB := n11_; clear n0_ n1_ n2_ n3_ n4_ n5_ n6_ n7_ n8_ n9_ n10_ n11_; (try clear hb); (try clear hb2); (try clear hk); (try clear hi)))
               go_meet
               case rel => exact ⟨_, ((t307 != t262)), (by first | rfl | (simp; done) | (simp [*]; done)), H', ⟨by have := HJ16.out; have := HJ74.out; first | omega | exact Nat.le_refl _⟩, ⟨by (try simp only [hl269001_74]); (with_reducible repeat (first | apply Kd.R_alloc | apply Kd.R_drewN | apply Kd.R_drew)); exact Kd.R_mono HO_264001.out (fun _ hk => ⟨hk.1.1.1, ⟨hk.1.1.2, hk.2⟩⟩)⟩, ⟨by (try simp only [hl269001_74]); (with_reducible repeat (first | apply Kd.R_alloc | apply Kd.R_drewN | apply Kd.R_drew)); exact Kd.R_mono HO_269001.out (fun _ hk => ⟨hk.1.1.1, ⟨hk.1.1.2, hk.2⟩⟩)⟩, ⟨by (try simp only [hl269001_74]); (with_reducible repeat (first | apply Kd.R_alloc | apply Kd.R_drewN | apply Kd.R_drew)); exact Kd.R_mono HO_278001.out (fun _ hk => ⟨hk.1.1.1, ⟨hk.1.1.2, hk.2⟩⟩)⟩, ⟨by (try simp only [hl269001_74]); (with_reducible repeat (first | apply Kd.R_alloc | apply Kd.R_drewN | apply Kd.R_drew)); exact Kd.R_mono HO306.out (fun _ hk => ⟨hk.1.1.1.2, ⟨hk.1.1.2, hk.1.2⟩⟩)⟩, ⟨by (try simp only [hl269001_74]); (with_reducible repeat (first | refine blk_drewN ?_ _ | refine blk_drew ?_ | refine blk_alloc ?_ _)); exact BK249.out⟩, ⟨by (try simp only [hl269001_74]); (with_reducible repeat (first | refine blk_drewN ?_ _ | refine blk_drew ?_ | refine blk_alloc ?_ _)); exact BK263.out⟩, ⟨by (try simp only [hl269001_74]); (with_reducible repeat (first | refine blk_drewN ?_ _ | refine blk_drew ?_ | refine blk_alloc ?_ _)); exact BK268.out⟩, ⟨by (try simp only [hl269001_74]); (with_reducible repeat (first | refine blk_drewN ?_ _ | refine blk_drew ?_ | refine blk_alloc ?_ _)); exact BK277.out⟩, ⟨by (try simp only [hl269001_74]); (with_reducible repeat (first | refine blk_drewN ?_ _ | refine blk_drew ?_ | refine blk_alloc ?_ _)); exact BK308.out⟩, ⟨by repeat (first | (with_reducible first | exact HB.out | apply bwA | apply bwN | apply bwD | refine below_set ?_ GE249.out | refine below_set ?_ GE263.out | refine below_set ?_ GE268.out | refine below_set ?_ GE277.out | refine below_set ?_ GE308.out) | exact HB.out)⟩⟩
              ·replace c146 := Bool.eq_false_iff.mpr c146
               subst c146
               have H1 : (laws_FnExactReordered.j2 kj74 t293 true t272 t294) = some r := by rw [if_neg (show ¬ (false = true) by decide)] at H; exact H
               clear H
               have H := H1
               clear H1
               have H' := Aside0.mk H
               clear H
               have hnb157 := NB308_249.out
               have hnc157 := NB249_308.out
               have hnb158 := NB308_263.out
               have hnc158 := NB263_308.out
               have hnb159 := NB308_268.out
               have hnc159 := NB268_308.out
               have hnb160 := NB308_277.out
               have hnc160 := NB277_308.out
               have hcz161_0 : w138.cell? ⟨gb308, 0, none⟩ = some (.int .i64 0) := (blk_cell BK308.out 0).trans rfl
               have hcz161_1 : w138.cell? ⟨gb308, 1, none⟩ = some (.slice none 0 0) := (blk_cell BK308.out 1).trans rfl
               have hfz161_0 := blk_frozen BK308.out 0
               have hfz161_1 := blk_frozen BK308.out 1
               have hnb162 := NB263_249.out
               have hnc162 := NB249_263.out
               have hnb163 := NB263_268.out
               have hnc163 := NB268_263.out
               have hnb164 := NB263_277.out
               have hnc164 := NB277_263.out
               have hcz165_0 : w138.cell? ⟨gb263, 0, none⟩ = some (.int .i64 t258) := (blk_cell BK263.out 0).trans rfl
               have hcz165_1 : w138.cell? ⟨gb263, 1, none⟩ = some (.slice Ao30 t259.length co30) := (blk_cell BK263.out 1).trans rfl
               have hfz165_0 := blk_frozen BK263.out 0
               have hfz165_1 := blk_frozen BK263.out 1
               go_wp2_with (first | ((with_reducible refine gate_callee (f := 39) rfl ?_); refine goesL_ (some 107) rfl rfl Try.func39 (by kernel_rfl) rfl #[.agg #[.int .i64 t303, .slice Ao144 t304.length co144], .agg #[.int .i64 t258, .slice Ao30 t259.length co30]] rfl (by (try simp only [List.map_toArray, List.map_cons, List.map_nil]); first | done | rfl | (simp only [List.length_drop, List.length_take]; rfl)) ?_; (with_reducible refine (laws_eqDiagram.calls kj74 t303 _ _ t304 t258 _ _ t259 false _ ?side1 ?side2 ?side3 ?side4 A145.out).mono ?_); (case side1 => refine (Kd.R_reads' (e := 56) (base := w.heap.size) (ok := fun k_ => ((((True ∧ some k_ ≠ (.slice Ao30 t259.length co30 : Value).ownBlock) ∧ some k_ ≠ (.slice Ao37 t289.length co37 : Value).ownBlock) ∧ some k_ ≠ (.slice Ao47 t273.length co47 : Value).ownBlock) ∧ some k_ ≠ (.slice Ao135 t297.length co135 : Value).ownBlock)) (n := t304.length) (c := co144) ?_).2.2; exact (by (with_reducible repeat (first | apply Kd.R_alloc | apply Kd.R_drewN | apply Kd.R_drew)); exact (Kd.R_mono (Kd.R_far (p := ⟨gb308, 1, none⟩) (Kd.R_far (p := ⟨gb308, 0, none⟩) (Kd.R_types HO306.out BK308.out (by decide)) (fun _ hk => hk.2) (.int .i64 t303)) (fun _ hk => hk.2) (.slice Ao144 t304.length co144)) (fun _ h_ => h_.1)))); (case side2 => exact (Kd.R_reads' HO306.out).2.1); (case side3 => refine (Kd.R_reads' (e := 56) (base := w.heap.size) (ok := fun k_ => (((some k_ ≠ (.slice Ao37 t289.length co37 : Value).ownBlock ∧ some k_ ≠ (.slice Ao47 t273.length co47 : Value).ownBlock) ∧ some k_ ≠ (.slice Ao135 t297.length co135 : Value).ownBlock) ∧ some k_ ≠ (.slice Ao144 t304.length co144 : Value).ownBlock)) (n := t259.length) (c := co30) ?_).2.2; exact (by (with_reducible repeat (first | apply Kd.R_alloc | apply Kd.R_drewN | apply Kd.R_drew)); exact (Kd.R_mono (Kd.R_far (p := ⟨gb308, 1, none⟩) (Kd.R_far (p := ⟨gb308, 0, none⟩) (Kd.R_types HO_264001.out BK308.out (by decide)) (fun _ hk => hk.2) (.int .i64 t303)) (fun _ hk => hk.2) (.slice Ao144 t304.length co144)) (fun _ h_ => h_.1)))); (case side4 => exact (Kd.R_reads' HO_264001.out).2.1); rintro e w166 ⟨rfl, hb⟩; refine ⟨_, rfl, ?_⟩; have n0_ := Aside0.mk (Kd.R_below (by (with_reducible repeat (first | apply Kd.R_alloc | apply Kd.R_drewN | apply Kd.R_drew)); exact (Kd.R_mono (Kd.R_far (p := ⟨gb308, 1, none⟩) (Kd.R_far (p := ⟨gb308, 0, none⟩) (Kd.R_types HO_264001.out BK308.out (by decide)) (fun _ hk => hk.2) (.int .i64 t303)) (fun _ hk => hk.2) (.slice Ao144 t304.length co144)) (fun _ h_ => h_.1))) hb); have n1_ := Aside0.mk (Kd.R_below (by (with_reducible repeat (first | apply Kd.R_alloc | apply Kd.R_drewN | apply Kd.R_drew)); exact (Kd.R_mono (Kd.R_far (p := ⟨gb308, 1, none⟩) (Kd.R_far (p := ⟨gb308, 0, none⟩) (Kd.R_types HO_269001.out BK308.out (by decide)) (fun _ hk => hk.2) (.int .i64 t303)) (fun _ hk => hk.2) (.slice Ao144 t304.length co144)) (fun _ h_ => h_.1))) hb); have n2_ := Aside0.mk (Kd.R_below (by (with_reducible repeat (first | apply Kd.R_alloc | apply Kd.R_drewN | apply Kd.R_drew)); exact (Kd.R_mono (Kd.R_far (p := ⟨gb308, 1, none⟩) (Kd.R_far (p := ⟨gb308, 0, none⟩) (Kd.R_types HO_278001.out BK308.out (by decide)) (fun _ hk => hk.2) (.int .i64 t303)) (fun _ hk => hk.2) (.slice Ao144 t304.length co144)) (fun _ h_ => h_.1))) hb); have n3_ := Aside0.mk (Kd.R_below (by (with_reducible repeat (first | apply Kd.R_alloc | apply Kd.R_drewN | apply Kd.R_drew)); exact (Kd.R_mono (Kd.R_far (p := ⟨gb308, 1, none⟩) (Kd.R_far (p := ⟨gb308, 0, none⟩) (Kd.R_types HO299.out BK308.out (by decide)) (fun _ hk => hk.2) (.int .i64 t303)) (fun _ hk => hk.2) (.slice Ao144 t304.length co144)) (fun _ h_ => h_.1))) hb); have n4_ := Aside0.mk (Kd.R_below (by (with_reducible repeat (first | apply Kd.R_alloc | apply Kd.R_drewN | apply Kd.R_drew)); exact (Kd.R_mono (Kd.R_far (p := ⟨gb308, 1, none⟩) (Kd.R_far (p := ⟨gb308, 0, none⟩) (Kd.R_types HO302.out BK308.out (by decide)) (fun _ hk => hk.2) (.int .i64 t303)) (fun _ hk => hk.2) (.slice Ao144 t304.length co144)) (fun _ h_ => h_.1))) hb); have n5_ := Aside0.mk (Kd.R_below (by (with_reducible repeat (first | apply Kd.R_alloc | apply Kd.R_drewN | apply Kd.R_drew)); exact (Kd.R_mono (Kd.R_far (p := ⟨gb308, 1, none⟩) (Kd.R_far (p := ⟨gb308, 0, none⟩) (Kd.R_types HO306.out BK308.out (by decide)) (fun _ hk => hk.2) (.int .i64 t303)) (fun _ hk => hk.2) (.slice Ao144 t304.length co144)) (fun _ h_ => h_.1))) hb); have n6_ := Aside0.mk (blk_below (g := gb249) (o := .cells #[.int .i64 a0_0, .slice A0_1 l0_1.length c0_1] 59 (0, 0)) (by (with_reducible repeat (first | refine blk_drewN ?_ _ | refine blk_drew ?_ | refine blk_alloc ?_ _)); refine blk_far ?_ NB249_308.out _; (with_reducible repeat (first | refine blk_drewN ?_ _ | refine blk_drew ?_ | refine blk_alloc ?_ _)); refine blk_far ?_ NB249_308.out _; (with_reducible repeat (first | refine blk_drewN ?_ _ | refine blk_drew ?_ | refine blk_alloc ?_ _)); exact BK249.out) hb); have n7_ := Aside0.mk (blk_below (g := gb263) (o := .cells #[.int .i64 t258, .slice Ao30 t259.length co30] 48 (0, 0)) (by (with_reducible repeat (first | refine blk_drewN ?_ _ | refine blk_drew ?_ | refine blk_alloc ?_ _)); refine blk_far ?_ NB263_308.out _; (with_reducible repeat (first | refine blk_drewN ?_ _ | refine blk_drew ?_ | refine blk_alloc ?_ _)); refine blk_far ?_ NB263_308.out _; (with_reducible repeat (first | refine blk_drewN ?_ _ | refine blk_drew ?_ | refine blk_alloc ?_ _)); exact BK263.out) hb); have n8_ := Aside0.mk (blk_below (g := gb268) (o := .cells #[.int .i64 t264, .slice Ao37 t289.length co37] 48 (0, 0)) (by (with_reducible repeat (first | refine blk_drewN ?_ _ | refine blk_drew ?_ | refine blk_alloc ?_ _)); refine blk_far ?_ NB268_308.out _; (with_reducible repeat (first | refine blk_drewN ?_ _ | refine blk_drew ?_ | refine blk_alloc ?_ _)); refine blk_far ?_ NB268_308.out _; (with_reducible repeat (first | refine blk_drewN ?_ _ | refine blk_drew ?_ | refine blk_alloc ?_ _)); exact BK268.out) hb); have n9_ := Aside0.mk (blk_below (g := gb277) (o := .cells #[.int .i64 t272, .slice Ao47 t273.length co47] 48 (0, 0)) (by (with_reducible repeat (first | refine blk_drewN ?_ _ | refine blk_drew ?_ | refine blk_alloc ?_ _)); refine blk_far ?_ NB277_308.out _; (with_reducible repeat (first | refine blk_drewN ?_ _ | refine blk_drew ?_ | refine blk_alloc ?_ _)); refine blk_far ?_ NB277_308.out _; (with_reducible repeat (first | refine blk_drewN ?_ _ | refine blk_drew ?_ | refine blk_alloc ?_ _)); exact BK277.out) hb); have n10_ := Aside0.mk (blk_below (g := gb308) (o := .cells #[.int .i64 t303, .slice Ao144 t304.length co144] 48 (0, 0)) (by (with_reducible repeat (first | refine blk_drewN ?_ _ | refine blk_drew ?_ | refine blk_alloc ?_ _)); refine blk_put (cs := #[.int .i64 t303, .slice none 0 0]) ?_ 1 _ rfl; (with_reducible repeat (first | refine blk_drewN ?_ _ | refine blk_drew ?_ | refine blk_alloc ?_ _)); refine blk_put (cs := #[.int .i64 0, .slice none 0 0]) ?_ 0 _ rfl; (with_reducible repeat (first | refine blk_drewN ?_ _ | refine blk_drew ?_ | refine blk_alloc ?_ _)); exact BK308.out) hb); have n11_ := Aside0.mk (below_step (by repeat (first | (with_reducible first | exact HB.out | apply bwA | apply bwN | apply bwD | refine below_set ?_ GE249.out | refine below_set ?_ GE263.out | refine below_set ?_ GE268.out | refine below_set ?_ GE277.out | refine below_set ?_ GE308.out) | exact HB.out)) hb); clear HO_264001; clear HO_269001; clear HO_278001; clear HO299; clear HO302; clear HO306; clear BK249; clear BK263; clear BK268; clear BK277; clear BK308; clear HB; have HO_264001 := n0_; have HO_269001 := n1_; have HO_278001 := n2_; have HO299 := n3_; have HO302 := n4_; have HO306 := n5_; have BK249 := n6_; have BK263 := n7_; have BK268 := n8_; have BK277 := n9_; have BK308 := n10_; have HB := n11_; clear n0_ n1_ n2_ n3_ n4_ n5_ n6_ n7_ n8_ n9_ n10_ n11_; (try clear hb); (try clear hb2); (try clear hk); (try clear hi)))
               go_meet
               case rel => exact ⟨_, (true), (by first | rfl | (simp; done) | (simp [*]; done)), H', ⟨by have := HJ16.out; have := HJ74.out; first | omega | exact Nat.le_refl _⟩, ⟨by (try simp only [hl269001_74]); (with_reducible repeat (first | apply Kd.R_alloc | apply Kd.R_drewN | apply Kd.R_drew)); exact Kd.R_mono HO_264001.out (fun _ hk => ⟨hk.1.1.1, ⟨hk.1.1.2, hk.2⟩⟩)⟩, ⟨by (try simp only [hl269001_74]); (with_reducible repeat (first | apply Kd.R_alloc | apply Kd.R_drewN | apply Kd.R_drew)); exact Kd.R_mono HO_269001.out (fun _ hk => ⟨hk.1.1.1, ⟨hk.1.1.2, hk.2⟩⟩)⟩, ⟨by (try simp only [hl269001_74]); (with_reducible repeat (first | apply Kd.R_alloc | apply Kd.R_drewN | apply Kd.R_drew)); exact Kd.R_mono HO_278001.out (fun _ hk => ⟨hk.1.1.1, ⟨hk.1.1.2, hk.2⟩⟩)⟩, ⟨by (try simp only [hl269001_74]); (with_reducible repeat (first | apply Kd.R_alloc | apply Kd.R_drewN | apply Kd.R_drew)); exact Kd.R_mono HO306.out (fun _ hk => ⟨hk.1.1.1.2, ⟨hk.1.1.2, hk.1.2⟩⟩)⟩, ⟨by (try simp only [hl269001_74]); (with_reducible repeat (first | refine blk_drewN ?_ _ | refine blk_drew ?_ | refine blk_alloc ?_ _)); exact BK249.out⟩, ⟨by (try simp only [hl269001_74]); (with_reducible repeat (first | refine blk_drewN ?_ _ | refine blk_drew ?_ | refine blk_alloc ?_ _)); exact BK263.out⟩, ⟨by (try simp only [hl269001_74]); (with_reducible repeat (first | refine blk_drewN ?_ _ | refine blk_drew ?_ | refine blk_alloc ?_ _)); exact BK268.out⟩, ⟨by (try simp only [hl269001_74]); (with_reducible repeat (first | refine blk_drewN ?_ _ | refine blk_drew ?_ | refine blk_alloc ?_ _)); exact BK277.out⟩, ⟨by (try simp only [hl269001_74]); (with_reducible repeat (first | refine blk_drewN ?_ _ | refine blk_drew ?_ | refine blk_alloc ?_ _)); exact BK308.out⟩, ⟨by repeat (first | (with_reducible first | exact HB.out | apply bwA | apply bwN | apply bwD | refine below_set ?_ GE249.out | refine below_set ?_ GE263.out | refine below_set ?_ GE268.out | refine below_set ?_ GE277.out | refine below_set ?_ GE308.out) | exact HB.out)⟩⟩
             case rest =>
              clear HC122
              try clear c1
              try clear c2
              try clear p2
              try clear c3
              try clear c4
              try clear c4b0
              try clear c4b1
              try clear c5
              try clear c6
              try clear c7
              try clear c7b0
              try clear c8
              try clear c9
              try clear c10
              try clear c11
              try clear c12
              try clear c13
              try clear c14
              try clear c15
              try clear c16
              try clear c28
              try clear c30
              try clear c33
              try clear c34
              try clear c35
              try clear c36
              try clear c38
              try clear c39
              try clear c40
              try clear c41
              try clear c43
              try clear c44
              try clear c45
              try clear c49
              try clear c50
              try clear c51
              try clear c52
              try clear c54
              try clear c55
              try clear c58
              try clear c59
              try clear c60
              try clear c62
              try clear c63
              try clear c66
              try clear c69
              try clear c72
              try clear c82
              try clear c83
              try clear c84
              try clear c88
              try clear c88b0
              try clear c90
              try clear c91
              try clear c92
              try clear c93
              try clear c95
              try clear c96
              try clear c99
              try clear c100
              try clear c101
              try clear c103
              try clear c104
              try clear c107
              try clear c110
              try clear c110b0
              try clear c111
              try clear c112
              try clear c113
              try clear c118
              try clear c118b0
              try clear c118b1
              try clear c123
              try clear c124
              try clear c125
              try clear c130
              try clear c131
              try clear c139
              try clear c140
              try clear c141
              try clear c142
              try clear c146
              try clear c147
              try clear c148
              try clear c149
              try clear c150
              try clear c152
              try clear c153
              try clear c154
              try clear c157
              try clear c158
              try clear c159
              try clear c160
              try clear c162
              try clear c163
              try clear c164
              try clear hcz102_0
              try clear hcz102_1
              try clear hcz105_0
              try clear hcz105_1
              try clear hcz114_0
              try clear hcz114_1
              try clear hcz116_0
              try clear hcz116_1
              try clear hcz126_0
              try clear hcz126_1
              try clear hcz128_0
              try clear hcz128_1
              try clear hcz132_0
              try clear hcz132_1
              try clear hcz143_0
              try clear hcz143_1
              try clear hcz151_0
              try clear hcz151_1
              try clear hcz155_0
              try clear hcz155_1
              try clear hcz161_0
              try clear hcz161_1
              try clear hcz165_0
              try clear hcz165_1
              try clear hcz19_0
              try clear hcz19_1
              try clear hcz21_0
              try clear hcz21_1
              try clear hcz29_0
              try clear hcz29_1
              try clear hcz31_0
              try clear hcz31_1
              try clear hcz36_0
              try clear hcz36_1
              try clear hcz39_0
              try clear hcz39_1
              try clear hcz46_0
              try clear hcz46_1
              try clear hcz53_0
              try clear hcz53_1
              try clear hcz56_0
              try clear hcz56_1
              try clear hcz61_0
              try clear hcz61_1
              try clear hcz64_0
              try clear hcz64_1
              try clear hcz85_0
              try clear hcz85_1
              try clear hcz94_0
              try clear hcz94_1
              try clear hcz97_0
              try clear hcz97_1
              try clear hcz9_0
              try clear hcz9_1
              try clear hfz102_0
              try clear hfz102_1
              try clear hfz105_0
              try clear hfz105_1
              try clear hfz114_0
              try clear hfz114_1
              try clear hfz116_0
              try clear hfz116_1
              try clear hfz126_0
              try clear hfz126_1
              try clear hfz128_0
              try clear hfz128_1
              try clear hfz132_0
              try clear hfz132_1
              try clear hfz143_0
              try clear hfz143_1
              try clear hfz151_0
              try clear hfz151_1
              try clear hfz155_0
              try clear hfz155_1
              try clear hfz161_0
              try clear hfz161_1
              try clear hfz165_0
              try clear hfz165_1
              try clear hfz19_0
              try clear hfz19_1
              try clear hfz21_0
              try clear hfz21_1
              try clear hfz29_0
              try clear hfz29_1
              try clear hfz31_0
              try clear hfz31_1
              try clear hfz36_0
              try clear hfz36_1
              try clear hfz39_0
              try clear hfz39_1
              try clear hfz46_0
              try clear hfz46_1
              try clear hfz53_0
              try clear hfz53_1
              try clear hfz56_0
              try clear hfz56_1
              try clear hfz61_0
              try clear hfz61_1
              try clear hfz64_0
              try clear hfz64_1
              try clear hfz85_0
              try clear hfz85_1
              try clear hfz94_0
              try clear hfz94_1
              try clear hfz97_0
              try clear hfz97_1
              try clear hfz9_0
              try clear hfz9_1
              try clear p2
              obtain ⟨kq, x113_121, rfl, HA, HJ121, HO_264001, HO_269001, HO_278001, HO_309001, BK249, BK263, BK268, BK277, BK308, HB⟩ := hcut
              have hl278001_121 := (Kd.R_reads' HO_278001.out).1
              rw [hl278001_121] at HO_278001
              (try simp only [hl278001_121])
              (try simp only [hl278001_121] at BK249)
              (try simp only [hl278001_121] at BK263)
              (try simp only [hl278001_121] at BK268)
              (try simp only [hl278001_121] at BK277)
              (try simp only [hl278001_121] at BK308)
              (try simp only [hl278001_121] at HO_264001)
              (try simp only [hl278001_121] at HO_269001)
              (try simp only [hl278001_121] at HO_309001)
              cases kq with
              | zero => exact absurd HA.out (by simp [laws_FnExactReordered.j2])
              | succ kj121 =>
               have H := HA.out
               clear HA
               simp only [laws_FnExactReordered.j2] at H
               by_cases c167 : x113_121 = true
               ·subst c167
                have H1 : (some false) = some r := by rw [if_pos rfl] at H; exact H
                clear H
                have H := H1
                clear H1
                obtain rfl := Option.some.inj H
                go_wp2
                go_ret
                exact ⟨by first | rfl | (simp [errW_none, errW_some] <;> rfl) | (simp [*, errW_none, errW_some] <;> rfl), by repeat (first | (with_reducible first | exact HB.out | apply bwA | apply bwN | apply bwD | refine below_set ?_ GE249.out | refine below_set ?_ GE263.out | refine below_set ?_ GE268.out | refine below_set ?_ GE277.out | refine below_set ?_ GE308.out) | exact HB.out)⟩
               ·replace c167 := Bool.eq_false_iff.mpr c167
                subst c167
                have H1 : ((laws_heldDiagram.f kj121 t272 t294 1).bind fun t310 => (if t310 < 0 then (some false) else (if t310 = t293 then (some true) else (some false)))) = some r := by rw [if_neg (show ¬ (false = true) by decide)] at H; exact H
                clear H
                have H := H1
                clear H1
                replace H := Option.bind_eq_some_iff.mp H
                obtain ⟨t310, A1680, H⟩ := H
                replace H : (if t310 < 0 then (some false) else (if t310 = t293 then (some true) else (some false))) = some r := H
                have A168 := Aside0.mk A1680
                clear A1680
                by_cases c169 : t310 < 0
                ·rw [if_pos c169] at H
                 have c169b0 : decide (t310 < 0) = true := decide_eq_true c169
                 clear c169
                 obtain rfl := Option.some.inj H
                 have hnb170 := NB277_249.out
                 have hnc170 := NB249_277.out
                 have hnb171 := NB277_263.out
                 have hnc171 := NB263_277.out
                 have hnb172 := NB277_268.out
                 have hnc172 := NB268_277.out
                 have hnb173 := NB277_308.out
                 have hnc173 := NB308_277.out
                 have hcz174_0 : wc.cell? ⟨gb277, 0, none⟩ = some (.int .i64 t272) := (blk_cell BK277.out 0).trans rfl
                 have hcz174_1 : wc.cell? ⟨gb277, 1, none⟩ = some (.slice Ao47 t294.length co47) := (blk_cell BK277.out 1).trans rfl
                 have hfz174_0 := blk_frozen BK277.out 0
                 have hfz174_1 := blk_frozen BK277.out 1
                 go_wp2_with (first | ((with_reducible refine gate_callee (f := 41) rfl ?_); refine goesL_ (some 116) rfl rfl Try.func41 (by kernel_rfl) rfl #[.agg #[.int .i64 t272, .slice Ao47 t294.length co47], .int .i64 1] rfl (by (try simp only [List.map_toArray, List.map_cons, List.map_nil]); first | done | rfl | (simp only [List.length_drop, List.length_take]; rfl)) ?_; (with_reducible refine (laws_heldDiagram.calls kj121 t272 _ _ t294 1 t310 _ ?side1 ?side2 A168.out).mono ?_); (case side1 => repeat (first | exact (Kd.R_reads' HO_278001.out).2.2 | (with_reducible refine Kd.C_alloc ?_ _) | (with_reducible refine Kd.C_drewN ?_ _) | (with_reducible refine Kd.C_drew ?_))); (case side2 => exact (Kd.R_reads' HO_278001.out).2.1); rintro e w175 ⟨rfl, hb⟩; refine ⟨_, rfl, ?_⟩; have n0_ := Aside0.mk (Kd.R_below (by (with_reducible repeat (first | apply Kd.R_alloc | apply Kd.R_drewN | apply Kd.R_drew)); exact HO_264001.out) hb); have n1_ := Aside0.mk (Kd.R_below (by (with_reducible repeat (first | apply Kd.R_alloc | apply Kd.R_drewN | apply Kd.R_drew)); exact HO_269001.out) hb); have n2_ := Aside0.mk (Kd.R_below (by (with_reducible repeat (first | apply Kd.R_alloc | apply Kd.R_drewN | apply Kd.R_drew)); exact HO_278001.out) hb); have n3_ := Aside0.mk (Kd.R_below (by (with_reducible repeat (first | apply Kd.R_alloc | apply Kd.R_drewN | apply Kd.R_drew)); exact HO_309001.out) hb); have n4_ := Aside0.mk (blk_below (g := gb249) (o := .cells #[.int .i64 a0_0, .slice A0_1 l0_1.length c0_1] 59 (0, 0)) (by (with_reducible repeat (first | refine blk_drewN ?_ _ | refine blk_drew ?_ | refine blk_alloc ?_ _)); exact BK249.out) hb); have n5_ := Aside0.mk (blk_below (g := gb263) (o := .cells #[.int .i64 t258, .slice Ao30 t259.length co30] 48 (0, 0)) (by (with_reducible repeat (first | refine blk_drewN ?_ _ | refine blk_drew ?_ | refine blk_alloc ?_ _)); exact BK263.out) hb); have n6_ := Aside0.mk (blk_below (g := gb268) (o := .cells #[.int .i64 t264, .slice Ao37 t289.length co37] 48 (0, 0)) (by (with_reducible repeat (first | refine blk_drewN ?_ _ | refine blk_drew ?_ | refine blk_alloc ?_ _)); exact BK268.out) hb); have n7_ := Aside0.mk (blk_below (g := gb277) (o := .cells #[.int .i64 t272, .slice Ao47 t294.length co47] 48 (0, 0)) (by (with_reducible repeat (first | refine blk_drewN ?_ _ | refine blk_drew ?_ | refine blk_alloc ?_ _)); exact BK277.out) hb); have n8_ := Aside0.mk (blk_below (g := gb308) (o := .cells #[.int .i64 t303, .slice Ao144 t304.length co144] 48 (0, 0)) (by (with_reducible repeat (first | refine blk_drewN ?_ _ | refine blk_drew ?_ | refine blk_alloc ?_ _)); exact BK308.out) hb); have n9_ := Aside0.mk (below_step (by repeat (first | (with_reducible first | exact HB.out | apply bwA | apply bwN | apply bwD | refine below_set ?_ GE249.out | refine below_set ?_ GE263.out | refine below_set ?_ GE268.out | refine below_set ?_ GE277.out | refine below_set ?_ GE308.out) | exact HB.out)) hb); clear HO_264001; clear HO_269001; clear HO_278001; clear HO_309001; clear BK249; clear BK263; clear BK268; clear BK277; clear BK308; clear HB; have HO_264001 := n0_; have HO_269001 := n1_; have HO_278001 := n2_; have HO_309001 := n3_; have BK249 := n4_; have BK263 := n5_; have BK268 := n6_; have BK277 := n7_; have BK308 := n8_; have HB := n9_; clear n0_ n1_ n2_ n3_ n4_ n5_ n6_ n7_ n8_ n9_; (try clear hb); (try clear hb2); (try clear hk); (try clear hi)))
                 go_ret
                 exact ⟨by first | rfl | (simp [errW_none, errW_some] <;> rfl) | (simp [*, errW_none, errW_some] <;> rfl), by repeat (first | (with_reducible first | exact HB.out | apply bwA | apply bwN | apply bwD | refine below_set ?_ GE249.out | refine below_set ?_ GE263.out | refine below_set ?_ GE268.out | refine below_set ?_ GE277.out | refine below_set ?_ GE308.out) | exact HB.out)⟩
                ·rw [if_neg c169] at H
                 have c169b0 : decide (t310 < 0) = false := decide_eq_false c169
                 clear c169
                 by_cases c176 : t310 = t293
                 ·rw [if_pos c176] at H
                  have c176b0 : (t310 == t293) = true := beq_iff_eq.mpr c176
                  have c176b1 : (t310 != t293) = false := bne_eq_false_iff_eq.mpr c176
                  clear c176
                  obtain rfl := Option.some.inj H
                  have hnb177 := NB277_249.out
                  have hnc177 := NB249_277.out
                  have hnb178 := NB277_263.out
                  have hnc178 := NB263_277.out
                  have hnb179 := NB277_268.out
                  have hnc179 := NB268_277.out
                  have hnb180 := NB277_308.out
                  have hnc180 := NB308_277.out
                  have hcz181_0 : wc.cell? ⟨gb277, 0, none⟩ = some (.int .i64 t272) := (blk_cell BK277.out 0).trans rfl
                  have hcz181_1 : wc.cell? ⟨gb277, 1, none⟩ = some (.slice Ao47 t294.length co47) := (blk_cell BK277.out 1).trans rfl
                  have hfz181_0 := blk_frozen BK277.out 0
                  have hfz181_1 := blk_frozen BK277.out 1
                  go_wp2_with (first | ((with_reducible refine gate_callee (f := 41) rfl ?_); refine goesL_ (some 116) rfl rfl Try.func41 (by kernel_rfl) rfl #[.agg #[.int .i64 t272, .slice Ao47 t294.length co47], .int .i64 1] rfl (by (try simp only [List.map_toArray, List.map_cons, List.map_nil]); first | done | rfl | (simp only [List.length_drop, List.length_take]; rfl)) ?_; (with_reducible refine (laws_heldDiagram.calls kj121 t272 _ _ t294 1 t310 _ ?side1 ?side2 A168.out).mono ?_); (case side1 => repeat (first | exact (Kd.R_reads' HO_278001.out).2.2 | (with_reducible refine Kd.C_alloc ?_ _) | (with_reducible refine Kd.C_drewN ?_ _) | (with_reducible refine Kd.C_drew ?_))); (case side2 => exact (Kd.R_reads' HO_278001.out).2.1); rintro e w182 ⟨rfl, hb⟩; refine ⟨_, rfl, ?_⟩; have n0_ := Aside0.mk (Kd.R_below (by (with_reducible repeat (first | apply Kd.R_alloc | apply Kd.R_drewN | apply Kd.R_drew)); exact HO_264001.out) hb); have n1_ := Aside0.mk (Kd.R_below (by (with_reducible repeat (first | apply Kd.R_alloc | apply Kd.R_drewN | apply Kd.R_drew)); exact HO_269001.out) hb); have n2_ := Aside0.mk (Kd.R_below (by (with_reducible repeat (first | apply Kd.R_alloc | apply Kd.R_drewN | apply Kd.R_drew)); exact HO_278001.out) hb); have n3_ := Aside0.mk (Kd.R_below (by (with_reducible repeat (first | apply Kd.R_alloc | apply Kd.R_drewN | apply Kd.R_drew)); exact HO_309001.out) hb); have n4_ := Aside0.mk (blk_below (g := gb249) (o := .cells #[.int .i64 a0_0, .slice A0_1 l0_1.length c0_1] 59 (0, 0)) (by (with_reducible repeat (first | refine blk_drewN ?_ _ | refine blk_drew ?_ | refine blk_alloc ?_ _)); exact BK249.out) hb); have n5_ := Aside0.mk (blk_below (g := gb263) (o := .cells #[.int .i64 t258, .slice Ao30 t259.length co30] 48 (0, 0)) (by (with_reducible repeat (first | refine blk_drewN ?_ _ | refine blk_drew ?_ | refine blk_alloc ?_ _)); exact BK263.out) hb); have n6_ := Aside0.mk (blk_below (g := gb268) (o := .cells #[.int .i64 t264, .slice Ao37 t289.length co37] 48 (0, 0)) (by (with_reducible repeat (first | refine blk_drewN ?_ _ | refine blk_drew ?_ | refine blk_alloc ?_ _)); exact BK268.out) hb); have n7_ := Aside0.mk (blk_below (g := gb277) (o := .cells #[.int .i64 t272, .slice Ao47 t294.length co47] 48 (0, 0)) (by (with_reducible repeat (first | refine blk_drewN ?_ _ | refine blk_drew ?_ | refine blk_alloc ?_ _)); exact BK277.out) hb); have n8_ := Aside0.mk (blk_below (g := gb308) (o := .cells #[.int .i64 t303, .slice Ao144 t304.length co144] 48 (0, 0)) (by (with_reducible repeat (first | refine blk_drewN ?_ _ | refine blk_drew ?_ | refine blk_alloc ?_ _)); exact BK308.out) hb); have n9_ := Aside0.mk (below_step (by repeat (first | (with_reducible first | exact HB.out | apply bwA | apply bwN | apply bwD | refine below_set ?_ GE249.out | refine below_set ?_ GE263.out | refine below_set ?_ GE268.out | refine below_set ?_ GE277.out | refine below_set ?_ GE308.out) | exact HB.out)) hb); clear HO_264001; clear HO_269001; clear HO_278001; clear HO_309001; clear BK249; clear BK263; clear BK268; clear BK277; clear BK308; clear HB; have HO_264001 := n0_; have HO_269001 := n1_; have HO_278001 := n2_; have HO_309001 := n3_; have BK249 := n4_; have BK263 := n5_; have BK268 := n6_; have BK277 := n7_; have BK308 := n8_; have HB := n9_; clear n0_ n1_ n2_ n3_ n4_ n5_ n6_ n7_ n8_ n9_; (try clear hb); (try clear hb2); (try clear hk); (try clear hi)))
                  go_ret
                  exact ⟨by first | rfl | (simp [errW_none, errW_some] <;> rfl) | (simp [*, errW_none, errW_some] <;> rfl), by repeat (first | (with_reducible first | exact HB.out | apply bwA | apply bwN | apply bwD | refine below_set ?_ GE249.out | refine below_set ?_ GE263.out | refine below_set ?_ GE268.out | refine below_set ?_ GE277.out | refine below_set ?_ GE308.out) | exact HB.out)⟩
                 ·rw [if_neg c176] at H
                  have c176b0 : (t310 == t293) = false := beq_eq_false_iff_ne.mpr c176
                  have c176b1 : (t310 != t293) = true := bne_iff_ne.mpr c176
                  obtain rfl := Option.some.inj H
                  have hnb183 := NB277_249.out
                  have hnc183 := NB249_277.out
                  have hnb184 := NB277_263.out
                  have hnc184 := NB263_277.out
                  have hnb185 := NB277_268.out
                  have hnc185 := NB268_277.out
                  have hnb186 := NB277_308.out
                  have hnc186 := NB308_277.out
                  have hcz187_0 : wc.cell? ⟨gb277, 0, none⟩ = some (.int .i64 t272) := (blk_cell BK277.out 0).trans rfl
                  have hcz187_1 : wc.cell? ⟨gb277, 1, none⟩ = some (.slice Ao47 t294.length co47) := (blk_cell BK277.out 1).trans rfl
                  have hfz187_0 := blk_frozen BK277.out 0
                  have hfz187_1 := blk_frozen BK277.out 1
                  go_wp2_with (first | ((with_reducible refine gate_callee (f := 41) rfl ?_); refine goesL_ (some 116) rfl rfl Try.func41 (by kernel_rfl) rfl #[.agg #[.int .i64 t272, .slice Ao47 t294.length co47], .int .i64 1] rfl (by (try simp only [List.map_toArray, List.map_cons, List.map_nil]); first | done | rfl | (simp only [List.length_drop, List.length_take]; rfl)) ?_; (with_reducible refine (laws_heldDiagram.calls kj121 t272 _ _ t294 1 t310 _ ?side1 ?side2 A168.out).mono ?_); (case side1 => repeat (first | exact (Kd.R_reads' HO_278001.out).2.2 | (with_reducible refine Kd.C_alloc ?_ _) | (with_reducible refine Kd.C_drewN ?_ _) | (with_reducible refine Kd.C_drew ?_))); (case side2 => exact (Kd.R_reads' HO_278001.out).2.1); rintro e w188 ⟨rfl, hb⟩; refine ⟨_, rfl, ?_⟩; have n0_ := Aside0.mk (Kd.R_below (by (with_reducible repeat (first | apply Kd.R_alloc | apply Kd.R_drewN | apply Kd.R_drew)); exact HO_264001.out) hb); have n1_ := Aside0.mk (Kd.R_below (by (with_reducible repeat (first | apply Kd.R_alloc | apply Kd.R_drewN | apply Kd.R_drew)); exact HO_269001.out) hb); have n2_ := Aside0.mk (Kd.R_below (by (with_reducible repeat (first | apply Kd.R_alloc | apply Kd.R_drewN | apply Kd.R_drew)); exact HO_278001.out) hb); have n3_ := Aside0.mk (Kd.R_below (by (with_reducible repeat (first | apply Kd.R_alloc | apply Kd.R_drewN | apply Kd.R_drew)); exact HO_309001.out) hb); have n4_ := Aside0.mk (blk_below (g := gb249) (o := .cells #[.int .i64 a0_0, .slice A0_1 l0_1.length c0_1] 59 (0, 0)) (by (with_reducible repeat (first | refine blk_drewN ?_ _ | refine blk_drew ?_ | refine blk_alloc ?_ _)); exact BK249.out) hb); have n5_ := Aside0.mk (blk_below (g := gb263) (o := .cells #[.int .i64 t258, .slice Ao30 t259.length co30] 48 (0, 0)) (by (with_reducible repeat (first | refine blk_drewN ?_ _ | refine blk_drew ?_ | refine blk_alloc ?_ _)); exact BK263.out) hb); have n6_ := Aside0.mk (blk_below (g := gb268) (o := .cells #[.int .i64 t264, .slice Ao37 t289.length co37] 48 (0, 0)) (by (with_reducible repeat (first | refine blk_drewN ?_ _ | refine blk_drew ?_ | refine blk_alloc ?_ _)); exact BK268.out) hb); have n7_ := Aside0.mk (blk_below (g := gb277) (o := .cells #[.int .i64 t272, .slice Ao47 t294.length co47] 48 (0, 0)) (by (with_reducible repeat (first | refine blk_drewN ?_ _ | refine blk_drew ?_ | refine blk_alloc ?_ _)); exact BK277.out) hb); have n8_ := Aside0.mk (blk_below (g := gb308) (o := .cells #[.int .i64 t303, .slice Ao144 t304.length co144] 48 (0, 0)) (by (with_reducible repeat (first | refine blk_drewN ?_ _ | refine blk_drew ?_ | refine blk_alloc ?_ _)); exact BK308.out) hb); have n9_ := Aside0.mk (below_step (by repeat (first | (with_reducible first | exact HB.out | apply bwA | apply bwN | apply bwD | refine below_set ?_ GE249.out | refine below_set ?_ GE263.out | refine below_set ?_ GE268.out | refine below_set ?_ GE277.out | refine below_set ?_ GE308.out) | exact HB.out)) hb); clear HO_264001; clear HO_269001; clear HO_278001; clear HO_309001; clear BK249; clear BK263; clear BK268; clear BK277; clear BK308; clear HB; have HO_264001 := n0_; have HO_269001 := n1_; have HO_278001 := n2_; have HO_309001 := n3_; have BK249 := n4_; have BK263 := n5_; have BK268 := n6_; have BK277 := n7_; have BK308 := n8_; have HB := n9_; clear n0_ n1_ n2_ n3_ n4_ n5_ n6_ n7_ n8_ n9_; (try clear hb); (try clear hb2); (try clear hk); (try clear hi)))
                  go_ret
                  exact ⟨by first | rfl | (simp [errW_none, errW_some] <;> rfl) | (simp [*, errW_none, errW_some] <;> rfl), by repeat (first | (with_reducible first | exact HB.out | apply bwA | apply bwN | apply bwD | refine below_set ?_ GE249.out | refine below_set ?_ GE263.out | refine below_set ?_ GE268.out | refine below_set ?_ GE277.out | refine below_set ?_ GE308.out) | exact HB.out)⟩
            ·rw [if_neg c118] at H
             have c118b0 : (t295 == t293) = false := beq_eq_false_iff_ne.mpr c118
             have c118b1 : (t295 != t293) = true := bne_iff_ne.mpr c118
             obtain rfl := Option.some.inj H
             have hnb189 := NB277_249.out
             have hnc189 := NB249_277.out
             have hnb190 := NB277_263.out
             have hnc190 := NB263_277.out
             have hnb191 := NB277_268.out
             have hnc191 := NB268_277.out
             have hcz192_0 : wc.cell? ⟨gb277, 0, none⟩ = some (.int .i64 t272) := (blk_cell BK277.out 0).trans rfl
             have hcz192_1 : wc.cell? ⟨gb277, 1, none⟩ = some (.slice Ao47 t273.length co47) := (blk_cell BK277.out 1).trans rfl
             have hfz192_0 := blk_frozen BK277.out 0
             have hfz192_1 := blk_frozen BK277.out 1
             go_wp2_with (first | ((with_reducible refine gate_callee (f := 40) rfl ?_); refine goesL_ (some 87) rfl rfl Try.func40 (by kernel_rfl) rfl #[.agg #[.int .i64 t272, .slice Ao47 t273.length co47], .int .i64 1] rfl (by (try simp only [List.map_toArray, List.map_cons, List.map_nil]); first | done | rfl | (simp only [List.length_drop, List.length_take]; rfl)) ?_; (with_reducible refine (laws_markDiagram.calls kj74 t272 (fun k_ => some k_ = (.slice Ao47 t273.length co47 : Value).ownBlock) (.slice Ao47 t273.length co47) t273 1 t293 t294 w _ ?side1 ?side2 A108.out).mono ?_); (case side1 => repeat (first | (with_reducible first | exact HB.out | apply bwA | apply bwN | apply bwD | refine below_set ?_ GE249.out | refine below_set ?_ GE263.out | refine below_set ?_ GE268.out | refine below_set ?_ GE277.out) | exact HB.out)); (case side2 => exact Kd.R_tight rfl HO_278001.out); rintro e w193 ⟨rfl, hy0, hb, hkp⟩; refine ⟨_, rfl, ?_⟩; have n0_ := Aside0.mk (Kd.R_mono (ok' := fun k_ => some k_ ≠ (.slice Ao37 t289.length co37 : Value).ownBlock ∧ some k_ ≠ (.slice Ao47 t273.length co47 : Value).ownBlock) (Kd.R_keptB (HO_264001.out) hkp (fun k_ hk_ hs_ => (hk_.2) hs_)) (fun k_ hk_ => ⟨hk_.1.1, hk_.1.2⟩)); have n1_ := Aside0.mk (Kd.R_mono (ok' := fun k_ => some k_ ≠ (.slice Ao30 t259.length co30 : Value).ownBlock ∧ some k_ ≠ (.slice Ao47 t273.length co47 : Value).ownBlock) (Kd.R_keptB (HO_269001.out) hkp (fun k_ hk_ hs_ => (hk_.2) hs_)) (fun k_ hk_ => ⟨hk_.1.1, hk_.1.2⟩)); have n2_ := Aside0.mk (Kd.R_reok rfl hy0 (fun k_ e_ => HO_278001.out.1 k_ e_)); have n3_ := Aside0.mk (blk_kept (by (with_reducible repeat (first | refine blk_drewN ?_ _ | refine blk_drew ?_ | refine blk_alloc ?_ _)); exact BK249.out) hkp (fun hs_ => (fun e_ => (Kd.R_ne HO_278001.out BK249.out (by decide)) e_) hs_)); have n4_ := Aside0.mk (blk_kept (by (with_reducible repeat (first | refine blk_drewN ?_ _ | refine blk_drew ?_ | refine blk_alloc ?_ _)); exact BK263.out) hkp (fun hs_ => (fun e_ => (Kd.R_ne HO_278001.out BK263.out (by decide)) e_) hs_)); have n5_ := Aside0.mk (blk_kept (by (with_reducible repeat (first | refine blk_drewN ?_ _ | refine blk_drew ?_ | refine blk_alloc ?_ _)); exact BK268.out) hkp (fun hs_ => (fun e_ => (Kd.R_ne HO_278001.out BK268.out (by decide)) e_) hs_)); have n6_ := Aside0.mk (blk_kept (by (with_reducible repeat (first | refine blk_drewN ?_ _ | refine blk_drew ?_ | refine blk_alloc ?_ _)); exact BK277.out) hkp (fun hs_ => (fun e_ => (Kd.R_ne HO_278001.out BK277.out (by decide)) e_) hs_)); have n7_ := Aside0.mk (hb); clear HO_264001; clear HO_269001; clear HO_278001; clear BK249; clear BK263; clear BK268; clear BK277; clear HB; have HO_264001 := n0_; have HO_269001 := n1_; have HO_278001 := n2_; have BK249 := n3_; have BK263 := n4_; have BK268 := n5_; have BK277 := n6_; have HB := n7_; clear n0_ n1_ n2_ n3_ n4_ n5_ n6_ n7_; (try clear hb); (try clear hkp); (try clear hy0); have hcz194_0 : w193.cell? ⟨gb277, 0, none⟩ = some (.int .i64 t272) := (blk_cell BK277.out 0).trans rfl; have hcz194_1 : w193.cell? ⟨gb277, 1, none⟩ = some (.slice Ao47 t273.length co47) := (blk_cell BK277.out 1).trans rfl; have hfz194_0 := blk_frozen BK277.out 0; have hfz194_1 := blk_frozen BK277.out 1) | ((with_reducible refine gate_callee (f := 41) rfl ?_); refine goesL_ (some 90) rfl rfl Try.func41 (by kernel_rfl) rfl #[.agg #[.int .i64 t272, .slice Ao47 t294.length co47], .int .i64 1] rfl (by (try simp only [List.map_toArray, List.map_cons, List.map_nil]); first | done | (rw [show t294.length = t273.length from (Kd.R_reads' HO_278001.out).1.symm] <;> rfl) | rfl | (simp only [List.length_drop, List.length_take]; rfl)) ?_; (with_reducible refine (laws_heldDiagram.calls kj74 t272 _ _ t294 1 t295 _ ?side1 ?side2 A109.out).mono ?_); (case side1 => repeat (first | exact (Kd.R_reads' HO_278001.out).2.2 | (with_reducible refine Kd.C_alloc ?_ _) | (with_reducible refine Kd.C_drewN ?_ _) | (with_reducible refine Kd.C_drew ?_))); (case side2 => rw [show t294.length = t273.length from (Kd.R_reads' HO_278001.out).1.symm]; exact (Kd.R_reads' HO_278001.out).2.1); rintro e w195 ⟨rfl, hb⟩; refine ⟨_, rfl, ?_⟩; have n0_ := Aside0.mk (Kd.R_below (by (with_reducible repeat (first | apply Kd.R_alloc | apply Kd.R_drewN | apply Kd.R_drew)); exact HO_264001.out) hb); have n1_ := Aside0.mk (Kd.R_below (by (with_reducible repeat (first | apply Kd.R_alloc | apply Kd.R_drewN | apply Kd.R_drew)); exact HO_269001.out) hb); have n2_ := Aside0.mk (Kd.R_below (by (with_reducible repeat (first | apply Kd.R_alloc | apply Kd.R_drewN | apply Kd.R_drew)); exact HO_278001.out) hb); have n3_ := Aside0.mk (blk_below (g := gb249) (o := .cells #[.int .i64 a0_0, .slice A0_1 l0_1.length c0_1] 59 (0, 0)) (by (with_reducible repeat (first | refine blk_drewN ?_ _ | refine blk_drew ?_ | refine blk_alloc ?_ _)); exact BK249.out) hb); have n4_ := Aside0.mk (blk_below (g := gb263) (o := .cells #[.int .i64 t258, .slice Ao30 t259.length co30] 48 (0, 0)) (by (with_reducible repeat (first | refine blk_drewN ?_ _ | refine blk_drew ?_ | refine blk_alloc ?_ _)); exact BK263.out) hb); have n5_ := Aside0.mk (blk_below (g := gb268) (o := .cells #[.int .i64 t264, .slice Ao37 t289.length co37] 48 (0, 0)) (by (with_reducible repeat (first | refine blk_drewN ?_ _ | refine blk_drew ?_ | refine blk_alloc ?_ _)); exact BK268.out) hb); have n6_ := Aside0.mk (blk_below (g := gb277) (o := .cells #[.int .i64 t272, .slice Ao47 t273.length co47] 48 (0, 0)) (by (with_reducible repeat (first | refine blk_drewN ?_ _ | refine blk_drew ?_ | refine blk_alloc ?_ _)); exact BK277.out) hb); have n7_ := Aside0.mk (below_step (by repeat (first | (with_reducible first | exact HB.out | apply bwA | apply bwN | apply bwD | refine below_set ?_ GE249.out | refine below_set ?_ GE263.out | refine below_set ?_ GE268.out | refine below_set ?_ GE277.out) | exact HB.out)) hb); clear HO_264001; clear HO_269001; clear HO_278001; clear BK249; clear BK263; clear BK268; clear BK277; clear HB; have HO_264001 := n0_; have HO_269001 := n1_; have HO_278001 := n2_; have BK249 := n3_; have BK263 := n4_; have BK268 := n5_; have BK277 := n6_; have HB := n7_; clear n0_ n1_ n2_ n3_ n4_ n5_ n6_ n7_; (try clear hb); (try clear hb2); (try clear hk); (try clear hi)))
             go_ret
             exact ⟨by first | rfl | (simp [errW_none, errW_some] <;> rfl) | (simp [*, errW_none, errW_some] <;> rfl), by repeat (first | (with_reducible first | exact HB.out | apply bwA | apply bwN | apply bwD | refine below_set ?_ GE249.out | refine below_set ?_ GE263.out | refine below_set ?_ GE268.out | refine below_set ?_ GE277.out) | exact HB.out)⟩
       ·replace c72 := Bool.eq_false_iff.mpr c72
        subst c72
        have H1 : (some false) = some r := by rw [if_neg (show ¬ (false = true) by decide)] at H; exact H
        clear H
        have H := H1
        clear H1
        obtain rfl := Option.some.inj H
        try go_wp2
        have n0_ := Aside0.mk (Kd.R_drew HO_11.out)
        have n1_ := Aside0.mk (Kd.R_drew HO_264001.out)
        have n2_ := Aside0.mk (Kd.R_drew HO_269001.out)
        have n3_ := Aside0.mk (Kd.R_drew HO_278001.out)
        have n4_ := Aside0.mk (blk_drew BK249.out)
        have n5_ := Aside0.mk (blk_drew BK263.out)
        have n6_ := Aside0.mk (blk_drew BK268.out)
        have n7_ := Aside0.mk (blk_drew BK277.out)
        have n8_ := Aside0.mk (below_drew1 HB.out)
        clear HO_11
        clear HO_264001
        clear HO_269001
        clear HO_278001
        clear BK249
        clear BK263
        clear BK268
        clear BK277
        clear HB
        have HO_11 := n0_
        have HO_264001 := n1_
        have HO_269001 := n2_
        have HO_278001 := n3_
        have BK249 := n4_
        have BK263 := n5_
        have BK268 := n6_
        have BK277 := n7_
        have HB := n8_
        clear n0_ n1_ n2_ n3_ n4_ n5_ n6_ n7_ n8_
        refine start_ (n := 5) (S := fun w' => w'.cell? ⟨gb268, 0, none⟩ = some (.int .i64 t264) ∧ w'.cell? ⟨gb268, 1, none⟩ = some (.slice Ao37 t265.length co37) ∧ w'.cell? ⟨gb249, 0, none⟩ = some (.int .i64 a0_0) ∧ w'.cell? ⟨gb249, 1, none⟩ = some (.slice A0_1 l0_1.length c0_1)) (ds := []) #[false, false, false, false, false] (by kernel_rfl) rfl rfl ⟨(blk_cell BK268.out 0).trans rfl, (blk_cell BK268.out 1).trans rfl, (blk_cell BK249.out 0).trans rfl, (blk_cell BK249.out 1).trans rfl⟩ (fun hHeld => ?_)
        generalize wc.drew = w196 at HO_11 HO_264001 HO_269001 HO_278001 BK249 BK263 BK268 BK277 HB hHeld ⊢
        refine take_ (i := 0) (N := some 56) (v := ?_) (a' := ?_) #[true, false, false, false, false] rfl rfl (by kernel_rfl) (fun _ _ _ h => h) (Or.inl ⟨by rfl, ?_⟩) hHeld ?_ ?_
        rotate_left
        ·rintro w' ⟨s0, s1, s2, s3⟩
         go_simp
         with_reducible rfl
        rotate_left
        ·simp only [Act.put, List.setIfInBounds_toArray, List.set_cons_zero, List.set_cons_succ, i64_w, i32_w]
         rfl
        refine take_ (i := 1) (N := some 57) (v := ?_) (a' := ?_) #[true, true, false, false, false] rfl rfl (by kernel_rfl) (fun _ _ _ h => h) (Or.inl ⟨by rfl, ?_⟩) hHeld ?_ ?_
        rotate_left
        ·rintro w' ⟨s0, s1, s2, s3⟩
         go_simp
         with_reducible rfl
        rotate_left
        ·simp only [Act.put, List.setIfInBounds_toArray, List.set_cons_zero, List.set_cons_succ, i64_w, i32_w]
         rfl
        refine one_ (i := 2) (N := some 58) #[true, true, true, false, false] rfl rfl (by kernel_rfl) (by decide) (fun K hK => ?_)
        refine goes_ Try.func38 (by kernel_rfl) rfl #[.agg #[.int .i64 a0_0, .slice A0_1 l0_1.length c0_1]] (by rfl) rfl rfl (by (try simp only [List.map_toArray, List.map_cons, List.map_nil]); first | done | rfl | (simp only [List.length_drop, List.length_take]; rfl)) ?_
        with_reducible refine (laws_toDiagram.calls kj16 a0_0 _ _ l0_1 t279 t280 _ ?side1 ?side2 A67.out).mono ?_
        (case side1 => repeat (first | exact (Kd.C_below HR0_1.out HB.out) | (with_reducible refine Kd.C_alloc ?_ _) | (with_reducible refine Kd.C_drewN ?_ _) | (with_reducible refine Kd.C_drew ?_)))
        (case side2 => exact HC0_1.out)
        rintro e w197 ⟨v281, rfl, ho0, hb⟩
        refine ⟨_, rfl, ?_⟩
        have n0_ := Aside0.mk (Kd.R_below (by (with_reducible repeat (first | apply Kd.R_alloc | apply Kd.R_drewN | apply Kd.R_drew)); exact HO_11.out) hb)
        have n1_ := Aside0.mk (Kd.R_elder' (by (with_reducible repeat (first | apply Kd.R_alloc | apply Kd.R_drewN | apply Kd.R_drew)); exact HO_264001.out) (Kd.R_base ho0) hb)
        have n2_ := Aside0.mk (Kd.R_elder' (by (with_reducible repeat (first | apply Kd.R_alloc | apply Kd.R_drewN | apply Kd.R_drew)); exact HO_269001.out) (Kd.R_base ho0) hb)
        have n3_ := Aside0.mk (Kd.R_elder' (by (with_reducible repeat (first | apply Kd.R_alloc | apply Kd.R_drewN | apply Kd.R_drew)); exact HO_278001.out) (Kd.R_base ho0) hb)
        have n4_ := Aside0.mk (Kd.R_lower (Kd.R_new' (Kd.R_new' (Kd.R_new' ho0 (Kd.R_lt (by (with_reducible repeat (first | apply Kd.R_alloc | apply Kd.R_drewN | apply Kd.R_drew)); exact HO_264001.out))) (Kd.R_lt (by (with_reducible repeat (first | apply Kd.R_alloc | apply Kd.R_drewN | apply Kd.R_drew)); exact HO_269001.out))) (Kd.R_lt (by (with_reducible repeat (first | apply Kd.R_alloc | apply Kd.R_drewN | apply Kd.R_drew)); exact HO_278001.out))) (below_size (by repeat (first | (with_reducible first | exact HB.out | apply bwA | apply bwN | apply bwD | refine below_set ?_ GE249.out | refine below_set ?_ GE263.out | refine below_set ?_ GE268.out | refine below_set ?_ GE277.out) | exact HB.out))))
        have n5_ := Aside0.mk (blk_below (g := gb249) (o := .cells #[.int .i64 a0_0, .slice A0_1 l0_1.length c0_1] 59 (0, 0)) (by (with_reducible repeat (first | refine blk_drewN ?_ _ | refine blk_drew ?_ | refine blk_alloc ?_ _)); exact BK249.out) hb)
        have n6_ := Aside0.mk (blk_below (g := gb263) (o := .cells #[.int .i64 t258, .slice Ao30 t259.length co30] 48 (0, 0)) (by (with_reducible repeat (first | refine blk_drewN ?_ _ | refine blk_drew ?_ | refine blk_alloc ?_ _)); exact BK263.out) hb)
        have n7_ := Aside0.mk (blk_below (g := gb268) (o := .cells #[.int .i64 t264, .slice Ao37 t265.length co37] 48 (0, 0)) (by (with_reducible repeat (first | refine blk_drewN ?_ _ | refine blk_drew ?_ | refine blk_alloc ?_ _)); exact BK268.out) hb)
        have n8_ := Aside0.mk (blk_below (g := gb277) (o := .cells #[.int .i64 t272, .slice Ao47 t273.length co47] 48 (0, 0)) (by (with_reducible repeat (first | refine blk_drewN ?_ _ | refine blk_drew ?_ | refine blk_alloc ?_ _)); exact BK277.out) hb)
        have n9_ := Aside0.mk (below_step (by repeat (first | (with_reducible first | exact HB.out | apply bwA | apply bwN | apply bwD | refine below_set ?_ GE249.out | refine below_set ?_ GE263.out | refine below_set ?_ GE268.out | refine below_set ?_ GE277.out) | exact HB.out)) hb)
        clear HO_11
        clear HO_264001
        clear HO_269001
        clear HO_278001
        clear BK249
        clear BK263
        clear BK268
        clear BK277
        clear HB
        have HO_11 := n0_
        have HO_264001 := n1_
        have HO_269001 := n2_
        have HO_278001 := n3_
        have HO282 := n4_
        have BK249 := n5_
        have BK263 := n6_
        have BK268 := n7_
        have BK277 := n8_
        have HB := n9_
        clear n0_ n1_ n2_ n3_ n4_ n5_ n6_ n7_ n8_ n9_
        (try clear hb)
        (try clear hb2)
        (try clear hk)
        (try clear hi)
        (try clear ho0)
        obtain ⟨Ao198, co198, eo198⟩ := Kd.R_slice HO282.out
        (first | subst eo198 | (injection eo198 with f1_ f2_ f3_; have f4_ := f1_.symm; have f5_ := f3_.symm; clear f1_ f2_ f3_; subst f4_; subst f5_))
        refine hK.out _ _ ⟨(blk_cell BK268.out 0).trans rfl, (blk_cell BK268.out 1).trans rfl, (blk_cell BK249.out 0).trans rfl, (blk_cell BK249.out 1).trans rfl⟩ (fun hHeld => ?_)
        clear hK K
        refine norm_ (a' := ?_) ?_ ?_
        rotate_left
        ·show Act.put _ (some 58) _ = _
         simp only [Act.put, List.setIfInBounds_toArray, List.set_cons_zero, List.set_cons_succ, i64_w, i32_w]
         rfl
        refine one_ (i := 3) (N := some 59) #[true, true, true, true, false] rfl rfl (by kernel_rfl) (by decide) (fun K hK => ?_)
        refine goes_ Try.func39 (by kernel_rfl) rfl #[.agg #[.int .i64 t264, .slice Ao37 t265.length co37], .agg #[.int .i64 t279, .slice Ao198 t280.length co198]] (by rfl) rfl rfl (by (try simp only [List.map_toArray, List.map_cons, List.map_nil]); first | done | rfl | (simp only [List.length_drop, List.length_take]; rfl)) ?_
        with_reducible refine (laws_eqDiagram.calls kj16 t264 _ _ t265 t279 _ _ t280 true _ ?side1 ?side2 ?side3 ?side4 A68.out).mono ?_
        (case side1 => repeat (first | exact (Kd.R_reads' HO_269001.out).2.2 | (with_reducible refine Kd.C_alloc ?_ _) | (with_reducible refine Kd.C_drewN ?_ _) | (with_reducible refine Kd.C_drew ?_)))
        (case side2 => exact (Kd.R_reads' HO_269001.out).2.1)
        (case side3 => repeat (first | exact (Kd.R_reads' HO282.out).2.2 | (with_reducible refine Kd.C_alloc ?_ _) | (with_reducible refine Kd.C_drewN ?_ _) | (with_reducible refine Kd.C_drew ?_)))
        (case side4 => exact (Kd.R_reads' HO282.out).2.1)
        rintro e w199 ⟨rfl, hb⟩
        refine ⟨_, rfl, ?_⟩
        have n0_ := Aside0.mk (Kd.R_below (by (with_reducible repeat (first | apply Kd.R_alloc | apply Kd.R_drewN | apply Kd.R_drew)); exact HO_11.out) hb)
        have n1_ := Aside0.mk (Kd.R_below (by (with_reducible repeat (first | apply Kd.R_alloc | apply Kd.R_drewN | apply Kd.R_drew)); exact HO_264001.out) hb)
        have n2_ := Aside0.mk (Kd.R_below (by (with_reducible repeat (first | apply Kd.R_alloc | apply Kd.R_drewN | apply Kd.R_drew)); exact HO_269001.out) hb)
        have n3_ := Aside0.mk (Kd.R_below (by (with_reducible repeat (first | apply Kd.R_alloc | apply Kd.R_drewN | apply Kd.R_drew)); exact HO_278001.out) hb)
        have n4_ := Aside0.mk (Kd.R_below (by (with_reducible repeat (first | apply Kd.R_alloc | apply Kd.R_drewN | apply Kd.R_drew)); exact HO282.out) hb)
        have n5_ := Aside0.mk (blk_below (g := gb249) (o := .cells #[.int .i64 a0_0, .slice A0_1 l0_1.length c0_1] 59 (0, 0)) (by (with_reducible repeat (first | refine blk_drewN ?_ _ | refine blk_drew ?_ | refine blk_alloc ?_ _)); exact BK249.out) hb)
        have n6_ := Aside0.mk (blk_below (g := gb263) (o := .cells #[.int .i64 t258, .slice Ao30 t259.length co30] 48 (0, 0)) (by (with_reducible repeat (first | refine blk_drewN ?_ _ | refine blk_drew ?_ | refine blk_alloc ?_ _)); exact BK263.out) hb)
        have n7_ := Aside0.mk (blk_below (g := gb268) (o := .cells #[.int .i64 t264, .slice Ao37 t265.length co37] 48 (0, 0)) (by (with_reducible repeat (first | refine blk_drewN ?_ _ | refine blk_drew ?_ | refine blk_alloc ?_ _)); exact BK268.out) hb)
        have n8_ := Aside0.mk (blk_below (g := gb277) (o := .cells #[.int .i64 t272, .slice Ao47 t273.length co47] 48 (0, 0)) (by (with_reducible repeat (first | refine blk_drewN ?_ _ | refine blk_drew ?_ | refine blk_alloc ?_ _)); exact BK277.out) hb)
        have n9_ := Aside0.mk (below_step (by repeat (first | (with_reducible first | exact HB.out | apply bwA | apply bwN | apply bwD | refine below_set ?_ GE249.out | refine below_set ?_ GE263.out | refine below_set ?_ GE268.out | refine below_set ?_ GE277.out) | exact HB.out)) hb)
        clear HO_11
        clear HO_264001
        clear HO_269001
        clear HO_278001
        clear HO282
        clear BK249
        clear BK263
        clear BK268
        clear BK277
        clear HB
        have HO_11 := n0_
        have HO_264001 := n1_
        have HO_269001 := n2_
        have HO_278001 := n3_
        have HO282 := n4_
        have BK249 := n5_
        have BK263 := n6_
        have BK268 := n7_
        have BK277 := n8_
        have HB := n9_
        clear n0_ n1_ n2_ n3_ n4_ n5_ n6_ n7_ n8_ n9_
        (try clear hb)
        (try clear hb2)
        (try clear hk)
        (try clear hi)
        refine hK.out _ _ ⟨(blk_cell BK268.out 0).trans rfl, (blk_cell BK268.out 1).trans rfl, (blk_cell BK249.out 0).trans rfl, (blk_cell BK249.out 1).trans rfl⟩ (fun hHeld => ?_)
        clear hK K
        refine norm_ (a' := ?_) ?_ ?_
        rotate_left
        ·show Act.put _ (some 59) _ = _
         simp only [Act.put, List.setIfInBounds_toArray, List.set_cons_zero, List.set_cons_succ, i64_w, i32_w]
         rfl
        refine pure_ (i := 4) (N := some 60) (v := ?_) (a' := ?_) #[true, true, true, true, true] rfl rfl (by kernel_rfl) (fun _ _ _ h => h) (Or.inl ⟨by rfl, ?_⟩) ?_ ?_
        rotate_left
        ·intro w'
         go_simp
         with_reducible rfl
        rotate_left
        ·simp only [Act.put, List.setIfInBounds_toArray, List.set_cons_zero, List.set_cons_succ, i64_w, i32_w]
         rfl
        refine done_ (by kernel_rfl) ?_
        try go_wp2_with (first | ((with_reducible refine gate_callee (f := 49) rfl ?_); refine goesL_ (some 63) rfl rfl Try.func49 (by kernel_rfl) rfl #[.slice A2 l2.length c2] rfl (by (try simp only [List.map_toArray, List.map_cons, List.map_nil]); first | done | rfl | (simp only [List.length_drop, List.length_take]; rfl)) ?_; (with_reducible refine (laws_toIntS.calls kj16 _ _ l2 t284 _ ?side1 ?side2 A70.out).mono ?_); (case side1 => repeat (first | exact (Kd.C_below HR2.out HB.out) | (with_reducible refine Kd.C_alloc ?_ _) | (with_reducible refine Kd.C_drewN ?_ _) | (with_reducible refine Kd.C_drew ?_))); (case side2 => exact HC2.out); rintro e w200 ⟨v285, rfl, ho0, hb⟩; refine ⟨_, rfl, ?_⟩; have n0_ := Aside0.mk (Kd.R_elder' (by (with_reducible repeat (first | apply Kd.R_alloc | apply Kd.R_drewN | apply Kd.R_drew)); exact HO_11.out) (Kd.R_base ho0) hb); have n1_ := Aside0.mk (Kd.R_below (by (with_reducible repeat (first | apply Kd.R_alloc | apply Kd.R_drewN | apply Kd.R_drew)); exact HO_264001.out) hb); have n2_ := Aside0.mk (Kd.R_below (by (with_reducible repeat (first | apply Kd.R_alloc | apply Kd.R_drewN | apply Kd.R_drew)); exact HO_269001.out) hb); have n3_ := Aside0.mk (Kd.R_below (by (with_reducible repeat (first | apply Kd.R_alloc | apply Kd.R_drewN | apply Kd.R_drew)); exact HO_278001.out) hb); have n4_ := Aside0.mk (Kd.R_below (by (with_reducible repeat (first | apply Kd.R_alloc | apply Kd.R_drewN | apply Kd.R_drew)); exact HO282.out) hb); have n5_ := Aside0.mk (Kd.R_lower (Kd.R_new' ho0 (Kd.R_lt (by (with_reducible repeat (first | apply Kd.R_alloc | apply Kd.R_drewN | apply Kd.R_drew)); exact HO_11.out))) (below_size (by repeat (first | (with_reducible first | exact HB.out | apply bwA | apply bwN | apply bwD | refine below_set ?_ GE249.out | refine below_set ?_ GE263.out | refine below_set ?_ GE268.out | refine below_set ?_ GE277.out) | exact HB.out)))); have n6_ := Aside0.mk (blk_below (g := gb249) (o := .cells #[.int .i64 a0_0, .slice A0_1 l0_1.length c0_1] 59 (0, 0)) (by (with_reducible repeat (first | refine blk_drewN ?_ _ | refine blk_drew ?_ | refine blk_alloc ?_ _)); exact BK249.out) hb); have n7_ := Aside0.mk (blk_below (g := gb263) (o := .cells #[.int .i64 t258, .slice Ao30 t259.length co30] 48 (0, 0)) (by (with_reducible repeat (first | refine blk_drewN ?_ _ | refine blk_drew ?_ | refine blk_alloc ?_ _)); exact BK263.out) hb); have n8_ := Aside0.mk (blk_below (g := gb268) (o := .cells #[.int .i64 t264, .slice Ao37 t265.length co37] 48 (0, 0)) (by (with_reducible repeat (first | refine blk_drewN ?_ _ | refine blk_drew ?_ | refine blk_alloc ?_ _)); exact BK268.out) hb); have n9_ := Aside0.mk (blk_below (g := gb277) (o := .cells #[.int .i64 t272, .slice Ao47 t273.length co47] 48 (0, 0)) (by (with_reducible repeat (first | refine blk_drewN ?_ _ | refine blk_drew ?_ | refine blk_alloc ?_ _)); exact BK277.out) hb); have n10_ := Aside0.mk (below_step (by repeat (first | (with_reducible first | exact HB.out | apply bwA | apply bwN | apply bwD | refine below_set ?_ GE249.out | refine below_set ?_ GE263.out | refine below_set ?_ GE268.out | refine below_set ?_ GE277.out) | exact HB.out)) hb); clear HO_11; clear HO_264001; clear HO_269001; clear HO_278001; clear HO282; clear BK249; clear BK263; clear BK268; clear BK277; clear HB; have HO_11 := n0_; have HO_264001 := n1_; have HO_269001 := n2_; have HO_278001 := n3_; have HO282 := n4_; have HO286 := n5_; have BK249 := n6_; have BK263 := n7_; have BK268 := n8_; have BK277 := n9_; have HB := n10_; clear n0_ n1_ n2_ n3_ n4_ n5_ n6_ n7_ n8_ n9_ n10_; (try clear hb); (try clear hb2); (try clear hk); (try clear hi); (try clear ho0); obtain ⟨Ao201, co201, eo201⟩ := Kd.R_slice HO286.out; subst eo201) | ((with_reducible refine gate_callee (f := 50) rfl ?_); refine goesL_ (some 64) rfl rfl Try.func50 (by kernel_rfl) rfl #[.slice Ao40 t269.length co40, .slice Ao201 t284.length co201] rfl (by (try simp only [List.map_toArray, List.map_cons, List.map_nil]); first | done | rfl | (simp only [List.length_drop, List.length_take]; rfl)) ?_; (with_reducible refine (laws_eqIntS.calls kj16 _ _ t269 _ _ t284 false _ ?side1 ?side2 ?side3 ?side4 A71.out).mono ?_); (case side1 => repeat (first | exact (Kd.R_reads' HO_11.out).2.2 | (with_reducible refine Kd.C_alloc ?_ _) | (with_reducible refine Kd.C_drewN ?_ _) | (with_reducible refine Kd.C_drew ?_))); (case side2 => exact (Kd.R_reads' HO_11.out).2.1); (case side3 => repeat (first | exact (Kd.R_reads' HO286.out).2.2 | (with_reducible refine Kd.C_alloc ?_ _) | (with_reducible refine Kd.C_drewN ?_ _) | (with_reducible refine Kd.C_drew ?_))); (case side4 => exact (Kd.R_reads' HO286.out).2.1); rintro e w' ⟨rfl, ⟨nd, rfl⟩⟩; refine ⟨_, rfl, ?_⟩))
        go_ret
        exact ⟨by first | rfl | (simp [errW_none, errW_some] <;> rfl) | (simp [*, errW_none, errW_some] <;> rfl), by repeat (first | (with_reducible first | exact HB.out | apply bwA | apply bwN | apply bwD | refine below_set ?_ GE249.out | refine below_set ?_ GE263.out | refine below_set ?_ GE268.out | refine below_set ?_ GE277.out) | exact HB.out)⟩
      ·replace c69 := Bool.eq_false_iff.mpr c69
       subst c69
       have H1 : (some false) = some r := by rw [if_neg (show ¬ (false = true) by decide)] at H; exact H
       clear H
       have H := H1
       clear H1
       obtain rfl := Option.some.inj H
       try go_wp2
       have n0_ := Aside0.mk (Kd.R_drew HO_11.out)
       have n1_ := Aside0.mk (Kd.R_drew HO_264001.out)
       have n2_ := Aside0.mk (Kd.R_drew HO_269001.out)
       have n3_ := Aside0.mk (Kd.R_drew HO_278001.out)
       have n4_ := Aside0.mk (blk_drew BK249.out)
       have n5_ := Aside0.mk (blk_drew BK263.out)
       have n6_ := Aside0.mk (blk_drew BK268.out)
       have n7_ := Aside0.mk (blk_drew BK277.out)
       have n8_ := Aside0.mk (below_drew1 HB.out)
       clear HO_11
       clear HO_264001
       clear HO_269001
       clear HO_278001
       clear BK249
       clear BK263
       clear BK268
       clear BK277
       clear HB
       have HO_11 := n0_
       have HO_264001 := n1_
       have HO_269001 := n2_
       have HO_278001 := n3_
       have BK249 := n4_
       have BK263 := n5_
       have BK268 := n6_
       have BK277 := n7_
       have HB := n8_
       clear n0_ n1_ n2_ n3_ n4_ n5_ n6_ n7_ n8_
       refine start_ (n := 5) (S := fun w' => w'.cell? ⟨gb268, 0, none⟩ = some (.int .i64 t264) ∧ w'.cell? ⟨gb268, 1, none⟩ = some (.slice Ao37 t265.length co37) ∧ w'.cell? ⟨gb249, 0, none⟩ = some (.int .i64 a0_0) ∧ w'.cell? ⟨gb249, 1, none⟩ = some (.slice A0_1 l0_1.length c0_1)) (ds := []) #[false, false, false, false, false] (by kernel_rfl) rfl rfl ⟨(blk_cell BK268.out 0).trans rfl, (blk_cell BK268.out 1).trans rfl, (blk_cell BK249.out 0).trans rfl, (blk_cell BK249.out 1).trans rfl⟩ (fun hHeld => ?_)
       generalize wc.drew = w202 at HO_11 HO_264001 HO_269001 HO_278001 BK249 BK263 BK268 BK277 HB hHeld ⊢
       refine take_ (i := 0) (N := some 56) (v := ?_) (a' := ?_) #[true, false, false, false, false] rfl rfl (by kernel_rfl) (fun _ _ _ h => h) (Or.inl ⟨by rfl, ?_⟩) hHeld ?_ ?_
       rotate_left
       ·rintro w' ⟨s0, s1, s2, s3⟩
        go_simp
        with_reducible rfl
       rotate_left
       ·simp only [Act.put, List.setIfInBounds_toArray, List.set_cons_zero, List.set_cons_succ, i64_w, i32_w]
        rfl
       refine take_ (i := 1) (N := some 57) (v := ?_) (a' := ?_) #[true, true, false, false, false] rfl rfl (by kernel_rfl) (fun _ _ _ h => h) (Or.inl ⟨by rfl, ?_⟩) hHeld ?_ ?_
       rotate_left
       ·rintro w' ⟨s0, s1, s2, s3⟩
        go_simp
        with_reducible rfl
       rotate_left
       ·simp only [Act.put, List.setIfInBounds_toArray, List.set_cons_zero, List.set_cons_succ, i64_w, i32_w]
        rfl
       refine one_ (i := 2) (N := some 58) #[true, true, true, false, false] rfl rfl (by kernel_rfl) (by decide) (fun K hK => ?_)
       refine goes_ Try.func38 (by kernel_rfl) rfl #[.agg #[.int .i64 a0_0, .slice A0_1 l0_1.length c0_1]] (by rfl) rfl rfl (by (try simp only [List.map_toArray, List.map_cons, List.map_nil]); first | done | rfl | (simp only [List.length_drop, List.length_take]; rfl)) ?_
       with_reducible refine (laws_toDiagram.calls kj16 a0_0 _ _ l0_1 t279 t280 _ ?side1 ?side2 A67.out).mono ?_
       (case side1 => repeat (first | exact (Kd.C_below HR0_1.out HB.out) | (with_reducible refine Kd.C_alloc ?_ _) | (with_reducible refine Kd.C_drewN ?_ _) | (with_reducible refine Kd.C_drew ?_)))
       (case side2 => exact HC0_1.out)
       rintro e w203 ⟨v281, rfl, ho0, hb⟩
       refine ⟨_, rfl, ?_⟩
       have n0_ := Aside0.mk (Kd.R_below (by (with_reducible repeat (first | apply Kd.R_alloc | apply Kd.R_drewN | apply Kd.R_drew)); exact HO_11.out) hb)
       have n1_ := Aside0.mk (Kd.R_elder' (by (with_reducible repeat (first | apply Kd.R_alloc | apply Kd.R_drewN | apply Kd.R_drew)); exact HO_264001.out) (Kd.R_base ho0) hb)
       have n2_ := Aside0.mk (Kd.R_elder' (by (with_reducible repeat (first | apply Kd.R_alloc | apply Kd.R_drewN | apply Kd.R_drew)); exact HO_269001.out) (Kd.R_base ho0) hb)
       have n3_ := Aside0.mk (Kd.R_elder' (by (with_reducible repeat (first | apply Kd.R_alloc | apply Kd.R_drewN | apply Kd.R_drew)); exact HO_278001.out) (Kd.R_base ho0) hb)
       have n4_ := Aside0.mk (Kd.R_lower (Kd.R_new' (Kd.R_new' (Kd.R_new' ho0 (Kd.R_lt (by (with_reducible repeat (first | apply Kd.R_alloc | apply Kd.R_drewN | apply Kd.R_drew)); exact HO_264001.out))) (Kd.R_lt (by (with_reducible repeat (first | apply Kd.R_alloc | apply Kd.R_drewN | apply Kd.R_drew)); exact HO_269001.out))) (Kd.R_lt (by (with_reducible repeat (first | apply Kd.R_alloc | apply Kd.R_drewN | apply Kd.R_drew)); exact HO_278001.out))) (below_size (by repeat (first | (with_reducible first | exact HB.out | apply bwA | apply bwN | apply bwD | refine below_set ?_ GE249.out | refine below_set ?_ GE263.out | refine below_set ?_ GE268.out | refine below_set ?_ GE277.out) | exact HB.out))))
       have n5_ := Aside0.mk (blk_below (g := gb249) (o := .cells #[.int .i64 a0_0, .slice A0_1 l0_1.length c0_1] 59 (0, 0)) (by (with_reducible repeat (first | refine blk_drewN ?_ _ | refine blk_drew ?_ | refine blk_alloc ?_ _)); exact BK249.out) hb)
       have n6_ := Aside0.mk (blk_below (g := gb263) (o := .cells #[.int .i64 t258, .slice Ao30 t259.length co30] 48 (0, 0)) (by (with_reducible repeat (first | refine blk_drewN ?_ _ | refine blk_drew ?_ | refine blk_alloc ?_ _)); exact BK263.out) hb)
       have n7_ := Aside0.mk (blk_below (g := gb268) (o := .cells #[.int .i64 t264, .slice Ao37 t265.length co37] 48 (0, 0)) (by (with_reducible repeat (first | refine blk_drewN ?_ _ | refine blk_drew ?_ | refine blk_alloc ?_ _)); exact BK268.out) hb)
       have n8_ := Aside0.mk (blk_below (g := gb277) (o := .cells #[.int .i64 t272, .slice Ao47 t273.length co47] 48 (0, 0)) (by (with_reducible repeat (first | refine blk_drewN ?_ _ | refine blk_drew ?_ | refine blk_alloc ?_ _)); exact BK277.out) hb)
       have n9_ := Aside0.mk (below_step (by repeat (first | (with_reducible first | exact HB.out | apply bwA | apply bwN | apply bwD | refine below_set ?_ GE249.out | refine below_set ?_ GE263.out | refine below_set ?_ GE268.out | refine below_set ?_ GE277.out) | exact HB.out)) hb)
       clear HO_11
       clear HO_264001
       clear HO_269001
       clear HO_278001
       clear BK249
       clear BK263
       clear BK268
       clear BK277
       clear HB
       have HO_11 := n0_
       have HO_264001 := n1_
       have HO_269001 := n2_
       have HO_278001 := n3_
       have HO282 := n4_
       have BK249 := n5_
       have BK263 := n6_
       have BK268 := n7_
       have BK277 := n8_
       have HB := n9_
       clear n0_ n1_ n2_ n3_ n4_ n5_ n6_ n7_ n8_ n9_
       (try clear hb)
       (try clear hb2)
       (try clear hk)
       (try clear hi)
       (try clear ho0)
       obtain ⟨Ao204, co204, eo204⟩ := Kd.R_slice HO282.out
       (first | subst eo204 | (injection eo204 with f1_ f2_ f3_; have f4_ := f1_.symm; have f5_ := f3_.symm; clear f1_ f2_ f3_; subst f4_; subst f5_))
       refine hK.out _ _ ⟨(blk_cell BK268.out 0).trans rfl, (blk_cell BK268.out 1).trans rfl, (blk_cell BK249.out 0).trans rfl, (blk_cell BK249.out 1).trans rfl⟩ (fun hHeld => ?_)
       clear hK K
       refine norm_ (a' := ?_) ?_ ?_
       rotate_left
       ·show Act.put _ (some 58) _ = _
        simp only [Act.put, List.setIfInBounds_toArray, List.set_cons_zero, List.set_cons_succ, i64_w, i32_w]
        rfl
       refine one_ (i := 3) (N := some 59) #[true, true, true, true, false] rfl rfl (by kernel_rfl) (by decide) (fun K hK => ?_)
       refine goes_ Try.func39 (by kernel_rfl) rfl #[.agg #[.int .i64 t264, .slice Ao37 t265.length co37], .agg #[.int .i64 t279, .slice Ao204 t280.length co204]] (by rfl) rfl rfl (by (try simp only [List.map_toArray, List.map_cons, List.map_nil]); first | done | rfl | (simp only [List.length_drop, List.length_take]; rfl)) ?_
       with_reducible refine (laws_eqDiagram.calls kj16 t264 _ _ t265 t279 _ _ t280 false _ ?side1 ?side2 ?side3 ?side4 A68.out).mono ?_
       (case side1 => repeat (first | exact (Kd.R_reads' HO_269001.out).2.2 | (with_reducible refine Kd.C_alloc ?_ _) | (with_reducible refine Kd.C_drewN ?_ _) | (with_reducible refine Kd.C_drew ?_)))
       (case side2 => exact (Kd.R_reads' HO_269001.out).2.1)
       (case side3 => repeat (first | exact (Kd.R_reads' HO282.out).2.2 | (with_reducible refine Kd.C_alloc ?_ _) | (with_reducible refine Kd.C_drewN ?_ _) | (with_reducible refine Kd.C_drew ?_)))
       (case side4 => exact (Kd.R_reads' HO282.out).2.1)
       rintro e w205 ⟨rfl, hb⟩
       refine ⟨_, rfl, ?_⟩
       have n0_ := Aside0.mk (Kd.R_below (by (with_reducible repeat (first | apply Kd.R_alloc | apply Kd.R_drewN | apply Kd.R_drew)); exact HO_11.out) hb)
       have n1_ := Aside0.mk (Kd.R_below (by (with_reducible repeat (first | apply Kd.R_alloc | apply Kd.R_drewN | apply Kd.R_drew)); exact HO_264001.out) hb)
       have n2_ := Aside0.mk (Kd.R_below (by (with_reducible repeat (first | apply Kd.R_alloc | apply Kd.R_drewN | apply Kd.R_drew)); exact HO_269001.out) hb)
       have n3_ := Aside0.mk (Kd.R_below (by (with_reducible repeat (first | apply Kd.R_alloc | apply Kd.R_drewN | apply Kd.R_drew)); exact HO_278001.out) hb)
       have n4_ := Aside0.mk (Kd.R_below (by (with_reducible repeat (first | apply Kd.R_alloc | apply Kd.R_drewN | apply Kd.R_drew)); exact HO282.out) hb)
       have n5_ := Aside0.mk (blk_below (g := gb249) (o := .cells #[.int .i64 a0_0, .slice A0_1 l0_1.length c0_1] 59 (0, 0)) (by (with_reducible repeat (first | refine blk_drewN ?_ _ | refine blk_drew ?_ | refine blk_alloc ?_ _)); exact BK249.out) hb)
       have n6_ := Aside0.mk (blk_below (g := gb263) (o := .cells #[.int .i64 t258, .slice Ao30 t259.length co30] 48 (0, 0)) (by (with_reducible repeat (first | refine blk_drewN ?_ _ | refine blk_drew ?_ | refine blk_alloc ?_ _)); exact BK263.out) hb)
       have n7_ := Aside0.mk (blk_below (g := gb268) (o := .cells #[.int .i64 t264, .slice Ao37 t265.length co37] 48 (0, 0)) (by (with_reducible repeat (first | refine blk_drewN ?_ _ | refine blk_drew ?_ | refine blk_alloc ?_ _)); exact BK268.out) hb)
       have n8_ := Aside0.mk (blk_below (g := gb277) (o := .cells #[.int .i64 t272, .slice Ao47 t273.length co47] 48 (0, 0)) (by (with_reducible repeat (first | refine blk_drewN ?_ _ | refine blk_drew ?_ | refine blk_alloc ?_ _)); exact BK277.out) hb)
       have n9_ := Aside0.mk (below_step (by repeat (first | (with_reducible first | exact HB.out | apply bwA | apply bwN | apply bwD | refine below_set ?_ GE249.out | refine below_set ?_ GE263.out | refine below_set ?_ GE268.out | refine below_set ?_ GE277.out) | exact HB.out)) hb)
       clear HO_11
       clear HO_264001
       clear HO_269001
       clear HO_278001
       clear HO282
       clear BK249
       clear BK263
       clear BK268
       clear BK277
       clear HB
       have HO_11 := n0_
       have HO_264001 := n1_
       have HO_269001 := n2_
       have HO_278001 := n3_
       have HO282 := n4_
       have BK249 := n5_
       have BK263 := n6_
       have BK268 := n7_
       have BK277 := n8_
       have HB := n9_
       clear n0_ n1_ n2_ n3_ n4_ n5_ n6_ n7_ n8_ n9_
       (try clear hb)
       (try clear hb2)
       (try clear hk)
       (try clear hi)
       refine hK.out _ _ ⟨(blk_cell BK268.out 0).trans rfl, (blk_cell BK268.out 1).trans rfl, (blk_cell BK249.out 0).trans rfl, (blk_cell BK249.out 1).trans rfl⟩ (fun hHeld => ?_)
       clear hK K
       refine norm_ (a' := ?_) ?_ ?_
       rotate_left
       ·show Act.put _ (some 59) _ = _
        simp only [Act.put, List.setIfInBounds_toArray, List.set_cons_zero, List.set_cons_succ, i64_w, i32_w]
        rfl
       refine pure_ (i := 4) (N := some 60) (v := ?_) (a' := ?_) #[true, true, true, true, true] rfl rfl (by kernel_rfl) (fun _ _ _ h => h) (Or.inl ⟨by rfl, ?_⟩) ?_ ?_
       rotate_left
       ·intro w'
        go_simp
        with_reducible rfl
       rotate_left
       ·simp only [Act.put, List.setIfInBounds_toArray, List.set_cons_zero, List.set_cons_succ, i64_w, i32_w]
        rfl
       refine done_ (by kernel_rfl) ?_
       try go_wp2
       go_ret
       exact ⟨by first | rfl | (simp [errW_none, errW_some] <;> rfl) | (simp [*, errW_none, errW_some] <;> rfl), by repeat (first | (with_reducible first | exact HB.out | apply bwA | apply bwN | apply bwD | refine below_set ?_ GE249.out | refine below_set ?_ GE263.out | refine below_set ?_ GE268.out | refine below_set ?_ GE277.out) | exact HB.out)⟩
def GoodIi64 (x : Int) : Prop := (Lit.int .i64 x).wf = true
def GoodS138 (x : S138) : Prop := GoodIi64 x.f0 ∧ GoodIi64 x.f1 ∧ GoodIi64 x.f2
def GoodL3 (x : List (S138)) : Prop := (x.length ≤ maxLen ∧ ∀ x_ ∈ x, GoodS138 x_)
def GoodL4 (x : List Int) : Prop := (x.length ≤ maxLen ∧ ∀ x_ ∈ x, GoodIi64 x_)
/-- THE ONE PURE STATEMENT of laws_FnExactReordered. -/
def laws_FnExactReordered.Pure : Prop := ∀ (a0_0 : Int) (l0_1 : List (S138)) (a1 : Int) (l2 : List Int), GoodIi64 a0_0 → GoodL3 l0_1 → GoodIi64 a1 → GoodL4 l2 → ∃ k, laws_FnExactReordered.f k a0_0 l0_1 a1 l2 = some true
theorem laws_FnExactReordered.walk (P : laws_FnExactReordered.Pure) (a0_0 : Int) (A0_1 : Option Addr) (c0_1 : Nat) (l0_1 : List (S138)) (a1 : Int) (A2 : Option Addr) (c2 : Nat) (l2 : List Int) (w : World) (hr0_1 : Kd.C k138 w A0_1 l0_1.length l0_1) (hc0_1 : l0_1.length ≤ c0_1) (hr2 : Kd.C (Kd.int .i64) w A2 l2.length l2) (hc2 : l2.length ≤ c2) (g0_0 : GoodIi64 a0_0) (g0_1 : GoodL3 l0_1) (g1 : GoodIi64 a1) (g2 : GoodL4 l2) :
  Calls Try.prog 11 #[.agg #[.int .i64 a0_0, .slice A0_1 l0_1.length c0_1], .int .i64 a1, .slice A2 l2.length c2] w fun e w' => e = .returned (.bool true) ∧ Below w.heap.size w w' := by
 obtain ⟨k, h⟩ := P a0_0 l0_1 a1 l2 g0_0 g0_1 g1 g2
 refine (laws_FnExactReordered.calls k a0_0 _ _ l0_1 a1 _ _ l2 true w hr0_1 hc0_1 hr2 hc2 h).mono ?_
 rintro e w' ⟨rfl, hd⟩
 exact ⟨rfl, hd⟩

end Go.Proofs.Ytpcckoljocpchaa.QFnExactReordered
