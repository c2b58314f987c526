-- Written by a program of this session (mk.py). Lean checks it.
import Derived.Test.YtpcckoljocpchaaQFnExactCompactedx0
import Derived.Test.YtpcckoljocpchaaQFnExactCompactedx4
import Derived.Test.YtpcckoljocpchaaQFnExactCompactedx7
import Derived.Test.YtpcckoljocpchaaQFnExactCompactedx8
namespace Go.Proofs.Ytpcckoljocpchaa.QFnExactCompacted
open Go.RowKit Go.Proofs.YtpcckoljocpchaaW.PrintWords Go.Proofs.YtpcckoljocpchaaW.PrintLast Go.Proofs.YtpcckoljocpchaaW.PrintMore
attribute [local go_sem] max2_int min2_int max_two min_two max_three min_three max_four min_four   -- for this text's walks alone
set_option linter.unusedVariables false
set_option linter.unusedSimpArgs false

/-! ### laws_FnExactCompacted: function 8 -/
mutual
def laws_FnExactCompacted.j0 : Nat → Int → Int → Int → Bool → Int → List (S138) → Int → List (S56) → Int → List (S56) → Int → List (S56) → Option (Bool)
 | 0, _, _, _, _, _, _, _, _, _, _, _, _ => none
 | k + 1, x1, x7, x10, x44, x207000, x207001, x218000, x218001, x223000, x223001, x229000, x229001 => if x44 = true then (some false) else ((laws_toDiagram.f k x207000 x207001).bind fun bt230 => ((laws_eqDiagram.f k x223000 x223001 bt230.1 bt230.2).bind fun t234 => (if t234 = true then ((laws_markDiagram.f k x223000 x223001 1).bind fun bt235 => (if bt235.1 < 0 then (laws_FnExactCompacted.j1 k x1 x7 true x207000 x207001 x218000 x218001 x229000 x229001) else ((laws_eqDiagram.f k x229000 x229001 x218000 x218001).bind fun t237 => (if t237 = true then (laws_FnExactCompacted.j1 k x1 x7 (x10 != x7) x207000 x207001 x218000 x218001 x229000 x229001) else (laws_FnExactCompacted.j1 k x1 x7 true x207000 x207001 x218000 x218001 x229000 x229001))))) else (some false))))
def laws_FnExactCompacted.j1 : Nat → Int → Int → Bool → Int → List (S138) → Int → List (S56) → Int → List (S56) → Option (Bool)
 | 0, _, _, _, _, _, _, _, _, _ => none
 | k + 1, x1, x7, x65, x207000, x207001, x218000, x218001, x229000, x229001 => if x65 = true then (some false) else ((laws_markDiagram.f k x229000 x229001 1).bind fun bt238 => ((laws_heldDiagram.f k x229000 bt238.2 1).bind fun t240 => (if t240 < 0 then (some false) else (if t240 = bt238.1 then ((laws_toDiagram.f k x207000 x207001).bind fun bt241 => ((impl_Compacted.f k bt241.1 bt241.2 x1).bind fun bt245 => ((laws_eqDiagram.f k bt245.1 bt245.2.1 x218000 x218001).bind fun t251 => (if t251 = true then (laws_FnExactCompacted.j2 k bt238.1 (bt245.2.2 != x7) x229000 bt238.2) else (laws_FnExactCompacted.j2 k bt238.1 true x229000 bt238.2))))) else (some false)))))
def laws_FnExactCompacted.j2 : Nat → Int → Bool → Int → List (S56) → Option (Bool)
 | 0, _, _, _, _ => none
 | k + 1, x12, x92, x229000, x229001 => if x92 = true then (some false) else ((laws_heldDiagram.f k x229000 x229001 1).bind fun t252 => (if t252 < 0 then (some false) else (if t252 = x12 then (some true) else (some false))))
end
def laws_FnExactCompacted.f (k : Nat) (a0_0 : Int) (l0_1 : List (S138)) (a1 : Int) : Option (Bool) := (laws_szDiagram.f a0_0 l0_1 1048576).bind fun t207 => (if t207 < 0 then (some true) else ((laws_toDiagram.f k a0_0 l0_1).bind fun bt208 => ((spec_Compacted.f k bt208.1 bt208.2 a1).bind fun bt212 => ((laws_toDiagram.f k a0_0 l0_1).bind fun bt218 => ((impl_Compacted.f k bt218.1 bt218.2 a1).bind fun bt223 => ((laws_eqDiagram.f k bt223.1 bt223.2.1 bt212.1 bt212.2.1).bind fun t229 => (if t229 = true then (laws_FnExactCompacted.j0 k a1 bt212.2.2 bt223.2.2 (bt223.2.2 != bt212.2.2) a0_0 l0_1 bt212.1 bt212.2.1 bt218.1 bt218.2 bt223.1 bt223.2.1) else (laws_FnExactCompacted.j0 k a1 bt212.2.2 bt223.2.2 true a0_0 l0_1 bt212.1 bt212.2.1 bt218.1 bt218.2 bt223.1 bt223.2.1))))))))
theorem laws_FnExactCompacted.mono_l : ∀ k, (∀ y0 y1 y2 y3 y4 y5 y6 y7 y8 y9 y10 y11, LeO (laws_FnExactCompacted.j0 k y0 y1 y2 y3 y4 y5 y6 y7 y8 y9 y10 y11) (laws_FnExactCompacted.j0 (k + 1) y0 y1 y2 y3 y4 y5 y6 y7 y8 y9 y10 y11)) ∧ (∀ y0 y1 y2 y3 y4 y5 y6 y7 y8, LeO (laws_FnExactCompacted.j1 k y0 y1 y2 y3 y4 y5 y6 y7 y8) (laws_FnExactCompacted.j1 (k + 1) y0 y1 y2 y3 y4 y5 y6 y7 y8)) ∧ (∀ y0 y1 y2 y3, LeO (laws_FnExactCompacted.j2 k y0 y1 y2 y3) (laws_FnExactCompacted.j2 (k + 1) y0 y1 y2 y3))
 | 0 => ⟨fun _ _ _ _ _ _ _ _ _ _ _ _ r h => by simp [laws_FnExactCompacted.j0] at h, fun _ _ _ _ _ _ _ _ _ r h => by simp [laws_FnExactCompacted.j1] at h, fun _ _ _ _ r h => by simp [laws_FnExactCompacted.j2] at h⟩
 | k + 1 => by
  obtain ⟨ih0, ih1, ih2⟩ := laws_FnExactCompacted.mono_l k
  refine ⟨?_, ?_, ?_⟩
  ·intro y0 y1 y2 y3 y4 y5 y6 y7 y8 y9 y10 y11
   unfold laws_FnExactCompacted.j0
   repeat' first
   | (with_reducible exact ih0 _ _ _ _ _ _ _ _ _ _ _ _)
   | (with_reducible exact ih1 _ _ _ _ _ _ _ _ _)
   | (with_reducible exact ih2 _ _ _ _)
   | (with_reducible exact impl_Compacted.mono _ _ _ _)
   | (with_reducible exact laws_eqDiagram.mono _ _ _ _ _)
   | (with_reducible exact laws_heldDiagram.mono _ _ _ _)
   | (with_reducible exact laws_markDiagram.mono _ _ _ _)
   | (with_reducible exact laws_toDiagram.mono _ _ _)
   | (with_reducible exact spec_Compacted.mono _ _ _ _)
   | (with_reducible exact LeO.refl _)
   | (with_reducible exact LeO.none _)
   | (with_reducible refine LeO.ite ?_ ?_)
   | (with_reducible refine LeO.bind ?_ (fun _ => ?_))
   | exact ih0 _ _ _ _ _ _ _ _ _ _ _ _
   | exact ih1 _ _ _ _ _ _ _ _ _
   | exact ih2 _ _ _ _
   | exact impl_Compacted.mono _ _ _ _
   | exact laws_eqDiagram.mono _ _ _ _ _
   | exact laws_heldDiagram.mono _ _ _ _
   | exact laws_markDiagram.mono _ _ _ _
   | exact laws_toDiagram.mono _ _ _
   | exact spec_Compacted.mono _ _ _ _
   | exact LeO.none _
   | refine LeO.ite ?_ ?_
   | refine LeO.bind ?_ (fun _ => ?_)
  ·intro y0 y1 y2 y3 y4 y5 y6 y7 y8
   unfold laws_FnExactCompacted.j1
   repeat' first
   | (with_reducible exact ih0 _ _ _ _ _ _ _ _ _ _ _ _)
   | (with_reducible exact ih1 _ _ _ _ _ _ _ _ _)
   | (with_reducible exact ih2 _ _ _ _)
   | (with_reducible exact impl_Compacted.mono _ _ _ _)
   | (with_reducible exact laws_eqDiagram.mono _ _ _ _ _)
   | (with_reducible exact laws_heldDiagram.mono _ _ _ _)
   | (with_reducible exact laws_markDiagram.mono _ _ _ _)
   | (with_reducible exact laws_toDiagram.mono _ _ _)
   | (with_reducible exact spec_Compacted.mono _ _ _ _)
   | (with_reducible exact LeO.refl _)
   | (with_reducible exact LeO.none _)
   | (with_reducible refine LeO.ite ?_ ?_)
   | (with_reducible refine LeO.bind ?_ (fun _ => ?_))
   | exact ih0 _ _ _ _ _ _ _ _ _ _ _ _
   | exact ih1 _ _ _ _ _ _ _ _ _
   | exact ih2 _ _ _ _
   | exact impl_Compacted.mono _ _ _ _
   | exact laws_eqDiagram.mono _ _ _ _ _
   | exact laws_heldDiagram.mono _ _ _ _
   | exact laws_markDiagram.mono _ _ _ _
   | exact laws_toDiagram.mono _ _ _
   | exact spec_Compacted.mono _ _ _ _
   | exact LeO.none _
   | refine LeO.ite ?_ ?_
   | refine LeO.bind ?_ (fun _ => ?_)
  ·intro y0 y1 y2 y3
   unfold laws_FnExactCompacted.j2
   repeat' first
   | (with_reducible exact ih0 _ _ _ _ _ _ _ _ _ _ _ _)
   | (with_reducible exact ih1 _ _ _ _ _ _ _ _ _)
   | (with_reducible exact ih2 _ _ _ _)
   | (with_reducible exact impl_Compacted.mono _ _ _ _)
   | (with_reducible exact laws_eqDiagram.mono _ _ _ _ _)
   | (with_reducible exact laws_heldDiagram.mono _ _ _ _)
   | (with_reducible exact laws_markDiagram.mono _ _ _ _)
   | (with_reducible exact laws_toDiagram.mono _ _ _)
   | (with_reducible exact spec_Compacted.mono _ _ _ _)
   | (with_reducible exact LeO.refl _)
   | (with_reducible exact LeO.none _)
   | (with_reducible refine LeO.ite ?_ ?_)
   | (with_reducible refine LeO.bind ?_ (fun _ => ?_))
   | exact ih0 _ _ _ _ _ _ _ _ _ _ _ _
   | exact ih1 _ _ _ _ _ _ _ _ _
   | exact ih2 _ _ _ _
   | exact impl_Compacted.mono _ _ _ _
   | exact laws_eqDiagram.mono _ _ _ _ _
   | exact laws_heldDiagram.mono _ _ _ _
   | exact laws_markDiagram.mono _ _ _ _
   | exact laws_toDiagram.mono _ _ _
   | exact spec_Compacted.mono _ _ _ _
   | exact LeO.none _
   | refine LeO.ite ?_ ?_
   | refine LeO.bind ?_ (fun _ => ?_)
theorem laws_FnExactCompacted.mono : ∀ a0 a1 a2 k, LeO (laws_FnExactCompacted.f k a0 a1 a2) (laws_FnExactCompacted.f (k + 1) a0 a1 a2) := by
 intro a0 a1 a2 k
 obtain ⟨ih0, ih1, ih2⟩ := laws_FnExactCompacted.mono_l k
 unfold laws_FnExactCompacted.f
 repeat' first
   | (with_reducible exact ih0 _ _ _ _ _ _ _ _ _ _ _ _)
   | (with_reducible exact ih1 _ _ _ _ _ _ _ _ _)
   | (with_reducible exact ih2 _ _ _ _)
   | (with_reducible exact impl_Compacted.mono _ _ _ _)
   | (with_reducible exact laws_eqDiagram.mono _ _ _ _ _)
   | (with_reducible exact laws_heldDiagram.mono _ _ _ _)
   | (with_reducible exact laws_markDiagram.mono _ _ _ _)
   | (with_reducible exact laws_toDiagram.mono _ _ _)
   | (with_reducible exact spec_Compacted.mono _ _ _ _)
   | (with_reducible exact LeO.refl _)
   | (with_reducible exact LeO.none _)
   | (with_reducible refine LeO.ite ?_ ?_)
   | (with_reducible refine LeO.bind ?_ (fun _ => ?_))
   | exact ih0 _ _ _ _ _ _ _ _ _ _ _ _
   | exact ih1 _ _ _ _ _ _ _ _ _
   | exact ih2 _ _ _ _
   | exact impl_Compacted.mono _ _ _ _
   | exact laws_eqDiagram.mono _ _ _ _ _
   | exact laws_heldDiagram.mono _ _ _ _
   | exact laws_markDiagram.mono _ _ _ _
   | exact laws_toDiagram.mono _ _ _
   | exact spec_Compacted.mono _ _ _ _
   | exact LeO.none _
   | refine LeO.ite ?_ ?_
   | refine LeO.bind ?_ (fun _ => ?_)
set_option maxHeartbeats 8000000 in
set_option maxRecDepth 100000 in
theorem laws_FnExactCompacted.calls (k : Nat) (a0_0 : Int) (A0_1 : Option Addr) (c0_1 : Nat) (l0_1 : List (S138)) (a1 : Int) (r : Bool) (w : World) (hr0_1 : Kd.C k138 w A0_1 l0_1.length l0_1) (hc0_1 : l0_1.length ≤ c0_1) (h : laws_FnExactCompacted.f k a0_0 l0_1 a1 = some r) :
  Calls Try.prog 8 #[.agg #[.int .i64 a0_0, .slice A0_1 l0_1.length c0_1], .int .i64 a1] w fun e w' => e = .returned (.bool r) ∧ Below w.heap.size w w' := by
 have hu59 := Try.underlying59
 have hu48 := Try.underlying48
 have HR0_1 := Aside0.mk hr0_1
 have HC0_1 := Aside0.mk hc0_1
 clear hr0_1 hc0_1
 have HB := Aside0.mk (Below.refl w.heap.size w)
 have H : ((laws_szDiagram.f a0_0 l0_1 1048576).bind fun t207 => (if t207 < 0 then (some true) else ((laws_toDiagram.f k a0_0 l0_1).bind fun bt208 => ((spec_Compacted.f k bt208.1 bt208.2 a1).bind fun bt212 => ((laws_toDiagram.f k a0_0 l0_1).bind fun bt218 => ((impl_Compacted.f k bt218.1 bt218.2 a1).bind fun bt223 => ((laws_eqDiagram.f k bt223.1 bt223.2.1 bt212.1 bt212.2.1).bind fun t229 => (if t229 = true then (laws_FnExactCompacted.j0 k a1 bt212.2.2 bt223.2.2 (bt223.2.2 != bt212.2.2) a0_0 l0_1 bt212.1 bt212.2.1 bt218.1 bt218.2 bt223.1 bt223.2.1) else (laws_FnExactCompacted.j0 k a1 bt212.2.2 bt223.2.2 true a0_0 l0_1 bt212.1 bt212.2.1 bt218.1 bt218.2 bt223.1 bt223.2.1))))))))) = some r := h
 clear h
 replace H := Option.bind_eq_some_iff.mp H
 obtain ⟨t207, A30, H⟩ := H
 replace H : (if t207 < 0 then (some true) else ((laws_toDiagram.f k a0_0 l0_1).bind fun bt208 => ((spec_Compacted.f k bt208.1 bt208.2 a1).bind fun bt212 => ((laws_toDiagram.f k a0_0 l0_1).bind fun bt218 => ((impl_Compacted.f k bt218.1 bt218.2 a1).bind fun bt223 => ((laws_eqDiagram.f k bt223.1 bt223.2.1 bt212.1 bt212.2.1).bind fun t229 => (if t229 = true then (laws_FnExactCompacted.j0 k a1 bt212.2.2 bt223.2.2 (bt223.2.2 != bt212.2.2) a0_0 l0_1 bt212.1 bt212.2.1 bt218.1 bt218.2 bt223.1 bt223.2.1) else (laws_FnExactCompacted.j0 k a1 bt212.2.2 bt223.2.2 true a0_0 l0_1 bt212.1 bt212.2.1 bt218.1 bt218.2 bt223.1 bt223.2.1)))))))) = some r := H
 have A3 := Aside0.mk A30
 clear A30
 by_cases c4 : t207 < 0
 ·rw [if_pos c4] at H
  have c4b0 : decide (t207 < 0) = true := decide_eq_true c4
  clear c4
  obtain rfl := Option.some.inj H
  go_enter Try.func8, Try.ntmps8
  go_wp2_with (first | ((with_reducible refine gate_dst (N := 2) rfl ?_); refine box_event ?hg (N := 2) ?hd (cs := #[.int .i64 a0_0, .slice A0_1 l0_1.length c0_1]) (t := 59) ?hr ?_; (case hd => rfl); (case hg => rfl); (case hr => first | (go_simp; done) | (go_simp; rfl)); intro gb206 hg w5 hbox hb; have n0_ := Aside0.mk (below_step (by repeat (first | (with_reducible first | exact HB.out | apply bwA | apply bwN | apply bwD) | exact HB.out)) hb); have n1_ := Aside0.mk (hbox); have n2_ := Aside0.mk ((by rw [hg]; exact (below_size (by repeat (first | (with_reducible first | exact HB.out | apply bwA | apply bwN | apply bwD) | exact HB.out))) : w.heap.size ≤ gb206)); have n3_ := Aside0.mk ((by rw [hg]; exact (below_size (by repeat (first | (with_reducible first | exact HB.out | apply bwA | apply bwN | apply bwD) | exact HB.out))) : w.heap.size ≤ gb206)); clear HB; have HB := n0_; have BK206 := n1_; have GW206 := n2_; have GE206 := n3_; clear n0_ n1_ n2_ n3_; clear hb hbox hg; have hcz6_0 : w5.cell? ⟨gb206, 0, none⟩ = some (.int .i64 a0_0) := (blk_cell BK206.out 0).trans rfl; have hcz6_1 : w5.cell? ⟨gb206, 1, none⟩ = some (.slice A0_1 l0_1.length c0_1) := (blk_cell BK206.out 1).trans rfl; have hfz6_0 := blk_frozen BK206.out 0; have hfz6_1 := blk_frozen BK206.out 1) | ((with_reducible refine gate_callee (f := 36) rfl ?_); refine goesL_ (some 18) rfl rfl Try.func36 (by kernel_rfl) rfl #[.agg #[.int .i64 a0_0, .slice A0_1 l0_1.length c0_1], .int .i64 1048576] rfl (by (try simp only [List.map_toArray, List.map_cons, List.map_nil]); first | done | rfl | (simp only [List.length_drop, List.length_take]; rfl)) ?_; (with_reducible refine (laws_szDiagram.calls a0_0 _ _ l0_1 1048576 t207 _ ?side1 ?side2 A3.out).mono ?_); (case side1 => repeat (first | exact (Kd.C_below HR0_1.out HB.out) | (with_reducible refine Kd.C_alloc ?_ _) | (with_reducible refine Kd.C_drewN ?_ _) | (with_reducible refine Kd.C_drew ?_))); (case side2 => exact HC0_1.out); rintro e w7 ⟨rfl, hb⟩; refine ⟨_, rfl, ?_⟩; have n0_ := Aside0.mk (blk_below (g := gb206) (o := .cells #[.int .i64 a0_0, .slice A0_1 l0_1.length c0_1] 59 (0, 0)) (by (with_reducible repeat (first | refine blk_drewN ?_ _ | refine blk_drew ?_ | refine blk_alloc ?_ _)); exact BK206.out) hb); have n1_ := Aside0.mk (below_step (by repeat (first | (with_reducible first | exact HB.out | apply bwA | apply bwN | apply bwD | refine below_set ?_ GE206.out) | exact HB.out)) hb); clear BK206; clear HB; have BK206 := n0_; have HB := n1_; clear n0_ n1_; (try clear hb); (try clear hb2); (try clear hk); (try clear hi)))
  go_ret
  exact ⟨by first | rfl | (simp [errW_none, errW_some] <;> rfl) | (simp [*, errW_none, errW_some] <;> rfl), by repeat (first | (with_reducible first | exact HB.out | apply bwA | apply bwN | apply bwD | refine below_set ?_ GE206.out) | exact HB.out)⟩
 ·rw [if_neg c4] at H
  have c4b0 : decide (t207 < 0) = false := decide_eq_false c4
  clear c4
  replace H := Option.bind_eq_some_iff.mp H
  obtain ⟨⟨t208, t209⟩, A80, H⟩ := H
  replace H : ((spec_Compacted.f k t208 t209 a1).bind fun bt212 => ((laws_toDiagram.f k a0_0 l0_1).bind fun bt218 => ((impl_Compacted.f k bt218.1 bt218.2 a1).bind fun bt223 => ((laws_eqDiagram.f k bt223.1 bt223.2.1 bt212.1 bt212.2.1).bind fun t229 => (if t229 = true then (laws_FnExactCompacted.j0 k a1 bt212.2.2 bt223.2.2 (bt223.2.2 != bt212.2.2) a0_0 l0_1 bt212.1 bt212.2.1 bt218.1 bt218.2 bt223.1 bt223.2.1) else (laws_FnExactCompacted.j0 k a1 bt212.2.2 bt223.2.2 true a0_0 l0_1 bt212.1 bt212.2.1 bt218.1 bt218.2 bt223.1 bt223.2.1)))))) = some r := H
  have A8 := Aside0.mk A80
  clear A80
  replace H := Option.bind_eq_some_iff.mp H
  obtain ⟨⟨t212, t213, t216⟩, A90, H⟩ := H
  replace H : ((laws_toDiagram.f k a0_0 l0_1).bind fun bt218 => ((impl_Compacted.f k bt218.1 bt218.2 a1).bind fun bt223 => ((laws_eqDiagram.f k bt223.1 bt223.2.1 t212 t213).bind fun t229 => (if t229 = true then (laws_FnExactCompacted.j0 k a1 t216 bt223.2.2 (bt223.2.2 != t216) a0_0 l0_1 t212 t213 bt218.1 bt218.2 bt223.1 bt223.2.1) else (laws_FnExactCompacted.j0 k a1 t216 bt223.2.2 true a0_0 l0_1 t212 t213 bt218.1 bt218.2 bt223.1 bt223.2.1))))) = some r := H
  have A9 := Aside0.mk A90
  clear A90
  replace H := Option.bind_eq_some_iff.mp H
  obtain ⟨⟨t218, t219⟩, A100, H⟩ := H
  replace H : ((impl_Compacted.f k t218 t219 a1).bind fun bt223 => ((laws_eqDiagram.f k bt223.1 bt223.2.1 t212 t213).bind fun t229 => (if t229 = true then (laws_FnExactCompacted.j0 k a1 t216 bt223.2.2 (bt223.2.2 != t216) a0_0 l0_1 t212 t213 t218 t219 bt223.1 bt223.2.1) else (laws_FnExactCompacted.j0 k a1 t216 bt223.2.2 true a0_0 l0_1 t212 t213 t218 t219 bt223.1 bt223.2.1)))) = some r := H
  have A10 := Aside0.mk A100
  clear A100
  replace H := Option.bind_eq_some_iff.mp H
  obtain ⟨⟨t223, t224, t227⟩, A110, H⟩ := H
  replace H : ((laws_eqDiagram.f k t223 t224 t212 t213).bind fun t229 => (if t229 = true then (laws_FnExactCompacted.j0 k a1 t216 t227 (t227 != t216) a0_0 l0_1 t212 t213 t218 t219 t223 t224) else (laws_FnExactCompacted.j0 k a1 t216 t227 true a0_0 l0_1 t212 t213 t218 t219 t223 t224))) = some r := H
  have A11 := Aside0.mk A110
  clear A110
  have HC12 := Aside0.mk H
  clear H
  go_enter Try.func8, Try.ntmps8
  go_upto_region 8 with (first | ((with_reducible refine gate_dst (N := 2) rfl ?_); refine box_event ?hg (N := 2) ?hd (cs := #[.int .i64 a0_0, .slice A0_1 l0_1.length c0_1]) (t := 59) ?hr ?_; (case hd => rfl); (case hg => rfl); (case hr => first | (go_simp; done) | (go_simp; rfl)); intro gb206 hg w13 hbox hb; have n0_ := Aside0.mk (below_step (by repeat (first | (with_reducible first | exact HB.out | apply bwA | apply bwN | apply bwD) | exact HB.out)) hb); have n1_ := Aside0.mk (hbox); have n2_ := Aside0.mk ((by rw [hg]; exact (below_size (by repeat (first | (with_reducible first | exact HB.out | apply bwA | apply bwN | apply bwD) | exact HB.out))) : w.heap.size ≤ gb206)); have n3_ := Aside0.mk ((by rw [hg]; exact (below_size (by repeat (first | (with_reducible first | exact HB.out | apply bwA | apply bwN | apply bwD) | exact HB.out))) : w.heap.size ≤ gb206)); clear HB; have HB := n0_; have BK206 := n1_; have GW206 := n2_; have GE206 := n3_; clear n0_ n1_ n2_ n3_; clear hb hbox hg; have hcz14_0 : w13.cell? ⟨gb206, 0, none⟩ = some (.int .i64 a0_0) := (blk_cell BK206.out 0).trans rfl; have hcz14_1 : w13.cell? ⟨gb206, 1, none⟩ = some (.slice A0_1 l0_1.length c0_1) := (blk_cell BK206.out 1).trans rfl; have hfz14_0 := blk_frozen BK206.out 0; have hfz14_1 := blk_frozen BK206.out 1) | ((with_reducible refine gate_callee (f := 36) rfl ?_); refine goesL_ (some 18) rfl rfl Try.func36 (by kernel_rfl) rfl #[.agg #[.int .i64 a0_0, .slice A0_1 l0_1.length c0_1], .int .i64 1048576] rfl (by (try simp only [List.map_toArray, List.map_cons, List.map_nil]); first | done | rfl | (simp only [List.length_drop, List.length_take]; rfl)) ?_; (with_reducible refine (laws_szDiagram.calls a0_0 _ _ l0_1 1048576 t207 _ ?side1 ?side2 A3.out).mono ?_); (case side1 => repeat (first | exact (Kd.C_below HR0_1.out HB.out) | (with_reducible refine Kd.C_alloc ?_ _) | (with_reducible refine Kd.C_drewN ?_ _) | (with_reducible refine Kd.C_drew ?_))); (case side2 => exact HC0_1.out); rintro e w15 ⟨rfl, hb⟩; refine ⟨_, rfl, ?_⟩; have n0_ := Aside0.mk (blk_below (g := gb206) (o := .cells #[.int .i64 a0_0, .slice A0_1 l0_1.length c0_1] 59 (0, 0)) (by (with_reducible repeat (first | refine blk_drewN ?_ _ | refine blk_drew ?_ | refine blk_alloc ?_ _)); exact BK206.out) hb); have n1_ := Aside0.mk (below_step (by repeat (first | (with_reducible first | exact HB.out | apply bwA | apply bwN | apply bwD | refine below_set ?_ GE206.out) | exact HB.out)) hb); clear BK206; clear HB; have BK206 := n0_; have HB := n1_; clear n0_ n1_; (try clear hb); (try clear hb2); (try clear hk); (try clear hi); have hcz16_0 : w15.cell? ⟨gb206, 0, none⟩ = some (.int .i64 a0_0) := (blk_cell BK206.out 0).trans rfl; have hcz16_1 : w15.cell? ⟨gb206, 1, none⟩ = some (.slice A0_1 l0_1.length c0_1) := (blk_cell BK206.out 1).trans rfl; have hfz16_0 := blk_frozen BK206.out 0; have hfz16_1 := blk_frozen BK206.out 1) | ((with_reducible refine gate_callee (f := 38) rfl ?_); refine goesL_ (some 23) rfl rfl Try.func38 (by kernel_rfl) rfl #[.agg #[.int .i64 a0_0, .slice A0_1 l0_1.length c0_1]] rfl (by (try simp only [List.map_toArray, List.map_cons, List.map_nil]); first | done | rfl | (simp only [List.length_drop, List.length_take]; rfl)) ?_; (with_reducible refine (laws_toDiagram.calls k a0_0 _ _ l0_1 t208 t209 _ ?side1 ?side2 A8.out).mono ?_); (case side1 => repeat (first | exact (Kd.C_below HR0_1.out HB.out) | (with_reducible refine Kd.C_alloc ?_ _) | (with_reducible refine Kd.C_drewN ?_ _) | (with_reducible refine Kd.C_drew ?_))); (case side2 => exact HC0_1.out); rintro e w17 ⟨v210, rfl, ho0, hb⟩; refine ⟨_, rfl, ?_⟩; have n0_ := Aside0.mk (Kd.R_lower ho0 (below_size (by repeat (first | (with_reducible first | exact HB.out | apply bwA | apply bwN | apply bwD | refine below_set ?_ GE206.out) | exact HB.out)))); have n1_ := Aside0.mk (blk_below (g := gb206) (o := .cells #[.int .i64 a0_0, .slice A0_1 l0_1.length c0_1] 59 (0, 0)) (by (with_reducible repeat (first | refine blk_drewN ?_ _ | refine blk_drew ?_ | refine blk_alloc ?_ _)); exact BK206.out) hb); have n2_ := Aside0.mk (below_step (by repeat (first | (with_reducible first | exact HB.out | apply bwA | apply bwN | apply bwD | refine below_set ?_ GE206.out) | exact HB.out)) hb); clear BK206; clear HB; have HO211 := n0_; have BK206 := n1_; have HB := n2_; clear n0_ n1_ n2_; (try clear hb); (try clear hb2); (try clear hk); (try clear hi); (try clear ho0); obtain ⟨Ao18, co18, eo18⟩ := Kd.R_slice HO211.out; subst eo18) | ((with_reducible refine gate_callee (f := 37) rfl ?_); refine goesL_ (some 25) rfl rfl Try.func37 (by kernel_rfl) rfl #[.agg #[.int .i64 t208, .slice Ao18 t209.length co18], .int .i64 a1] rfl (by (try simp only [List.map_toArray, List.map_cons, List.map_nil]); first | done | rfl | (simp only [List.length_drop, List.length_take]; rfl)) ?_; (with_reducible refine (spec_Compacted.calls k t208 _ _ t209 a1 t212 t213 t216 _ ?side1 ?side2 A9.out).mono ?_); (case side1 => repeat (first | exact (Kd.R_reads' HO211.out).2.2 | (with_reducible refine Kd.C_alloc ?_ _) | (with_reducible refine Kd.C_drewN ?_ _) | (with_reducible refine Kd.C_drew ?_))); (case side2 => exact (Kd.R_reads' HO211.out).2.1); rintro e w19 ⟨v214, rfl, ho0, hb⟩; refine ⟨_, rfl, ?_⟩; have n0_ := Aside0.mk (Kd.R_elder' (by (with_reducible repeat (first | apply Kd.R_alloc | apply Kd.R_drewN | apply Kd.R_drew)); exact HO211.out) (Kd.R_base ho0) hb); have n1_ := Aside0.mk (Kd.R_lower (Kd.R_new' ho0 (Kd.R_lt (by (with_reducible repeat (first | apply Kd.R_alloc | apply Kd.R_drewN | apply Kd.R_drew)); exact HO211.out))) (below_size (by repeat (first | (with_reducible first | exact HB.out | apply bwA | apply bwN | apply bwD | refine below_set ?_ GE206.out) | exact HB.out)))); have n2_ := Aside0.mk (blk_below (g := gb206) (o := .cells #[.int .i64 a0_0, .slice A0_1 l0_1.length c0_1] 59 (0, 0)) (by (with_reducible repeat (first | refine blk_drewN ?_ _ | refine blk_drew ?_ | refine blk_alloc ?_ _)); exact BK206.out) hb); have n3_ := Aside0.mk (below_step (by repeat (first | (with_reducible first | exact HB.out | apply bwA | apply bwN | apply bwD | refine below_set ?_ GE206.out) | exact HB.out)) hb); clear HO211; clear BK206; clear HB; have HO211 := n0_; have HO215 := n1_; have BK206 := n2_; have HB := n3_; clear n0_ n1_ n2_ n3_; (try clear hb); (try clear hb2); (try clear hk); (try clear hi); (try clear ho0)) | ((with_reducible refine gate_dst (N := 6) rfl ?_); refine box_event ?hg (N := 6) ?hd (cs := #[.int .i64 0, .slice none 0 0]) (t := 48) ?hr ?_; (case hd => rfl); (case hg => rfl); (case hr => first | (go_simp; done) | (go_simp; rfl)); intro gb217 hg w20 hbox hb; have n0_ := Aside0.mk (Kd.R_below (by (with_reducible repeat (first | apply Kd.R_alloc | apply Kd.R_drewN | apply Kd.R_drew)); exact HO211.out) hb); have n1_ := Aside0.mk (Kd.R_below (by (with_reducible repeat (first | apply Kd.R_alloc | apply Kd.R_drewN | apply Kd.R_drew)); exact HO215.out) hb); have n2_ := Aside0.mk (blk_below (g := gb206) (o := .cells #[.int .i64 a0_0, .slice A0_1 l0_1.length c0_1] 59 (0, 0)) (by (with_reducible repeat (first | refine blk_drewN ?_ _ | refine blk_drew ?_ | refine blk_alloc ?_ _)); exact BK206.out) hb); have n3_ := Aside0.mk (below_step (by repeat (first | (with_reducible first | exact HB.out | apply bwA | apply bwN | apply bwD | refine below_set ?_ GE206.out) | exact HB.out)) hb); have n4_ := Aside0.mk (hbox); have n5_ := Aside0.mk ((by rw [hg]; exact (below_size (by repeat (first | (with_reducible first | exact HB.out | apply bwA | apply bwN | apply bwD | refine below_set ?_ GE206.out) | exact HB.out))) : w.heap.size ≤ gb217)); have n6_ := Aside0.mk ((by rw [hg]; exact (below_size (by repeat (first | (with_reducible first | exact HB.out | apply bwA | apply bwN | apply bwD | refine below_set ?_ GE206.out) | exact HB.out))) : w.heap.size ≤ gb217)); have n7_ := Aside0.mk ((by rw [hg]; exact Nat.ne_of_lt (blk_lt (g := gb206) (o := .cells #[.int .i64 a0_0, .slice A0_1 l0_1.length c0_1] 59 (0, 0)) (by (with_reducible repeat (first | refine blk_drewN ?_ _ | refine blk_drew ?_ | refine blk_alloc ?_ _)); exact BK206.out)) : gb206 ≠ gb217)); have n8_ := Aside0.mk ((by rw [hg]; exact Nat.ne_of_gt (blk_lt (g := gb206) (o := .cells #[.int .i64 a0_0, .slice A0_1 l0_1.length c0_1] 59 (0, 0)) (by (with_reducible repeat (first | refine blk_drewN ?_ _ | refine blk_drew ?_ | refine blk_alloc ?_ _)); exact BK206.out)) : gb217 ≠ gb206)); clear HO211; clear HO215; clear BK206; clear HB; have HO211 := n0_; have HO215 := n1_; have BK206 := n2_; have HB := n3_; have BK217 := n4_; have GW217 := n5_; have GE217 := n6_; have NB206_217 := n7_; have NB217_206 := n8_; clear n0_ n1_ n2_ n3_ n4_ n5_ n6_ n7_ n8_; clear hb hbox hg; have hnb21 := NB217_206.out; have hnc21 := NB206_217.out; have hcz22_0 : w20.cell? ⟨gb217, 0, none⟩ = some (.int .i64 0) := (blk_cell BK217.out 0).trans rfl; have hcz22_1 : w20.cell? ⟨gb217, 1, none⟩ = some (.slice none 0 0) := (blk_cell BK217.out 1).trans rfl; have hfz22_0 := blk_frozen BK217.out 0; have hfz22_1 := blk_frozen BK217.out 1; obtain ⟨Ao23, co23, eo23⟩ := Kd.R_slice HO215.out; subst eo23; have hcz24_0 : w20.cell? ⟨gb206, 0, none⟩ = some (.int .i64 a0_0) := (blk_cell BK206.out 0).trans rfl; have hcz24_1 : w20.cell? ⟨gb206, 1, none⟩ = some (.slice A0_1 l0_1.length c0_1) := (blk_cell BK206.out 1).trans rfl; have hfz24_0 := blk_frozen BK206.out 0; have hfz24_1 := blk_frozen BK206.out 1) | ((with_reducible refine gate_callee (f := 38) rfl ?_); refine goesL_ (some 29) rfl rfl Try.func38 (by kernel_rfl) rfl #[.agg #[.int .i64 a0_0, .slice A0_1 l0_1.length c0_1]] rfl (by (try simp only [List.map_toArray, List.map_cons, List.map_nil]); first | done | rfl | (simp only [List.length_drop, List.length_take]; rfl)) ?_; (with_reducible refine (laws_toDiagram.calls k a0_0 _ _ l0_1 t218 t219 _ ?side1 ?side2 A10.out).mono ?_); (case side1 => exact Kd.C_below HR0_1.out (by repeat (first | (with_reducible first | exact HB.out | apply bwA | apply bwN | apply bwD | refine below_set ?_ GE206.out | refine below_set ?_ GE217.out) | exact HB.out))); (case side2 => exact HC0_1.out); rintro e w25 ⟨v220, rfl, ho0, hb⟩; refine ⟨_, rfl, ?_⟩; have n0_ := Aside0.mk (Kd.R_elder' (by (with_reducible repeat (first | apply Kd.R_alloc | apply Kd.R_drewN | apply Kd.R_drew)); exact (Kd.R_mono (Kd.R_far (p := ⟨gb217, 1, none⟩) (Kd.R_far (p := ⟨gb217, 0, none⟩) (Kd.R_types HO211.out BK217.out (by decide)) (fun _ hk => hk.2) (.int .i64 t212)) (fun _ hk => hk.2) (.slice Ao23 t213.length co23)) (fun _ h_ => h_.1))) (Kd.R_base ho0) hb); have n1_ := Aside0.mk (Kd.R_elder' (by (with_reducible repeat (first | apply Kd.R_alloc | apply Kd.R_drewN | apply Kd.R_drew)); exact (Kd.R_mono (Kd.R_far (p := ⟨gb217, 1, none⟩) (Kd.R_far (p := ⟨gb217, 0, none⟩) (Kd.R_types HO215.out BK217.out (by decide)) (fun _ hk => hk.2) (.int .i64 t212)) (fun _ hk => hk.2) (.slice Ao23 t213.length co23)) (fun _ h_ => h_.1))) (Kd.R_base ho0) hb); have n2_ := Aside0.mk (Kd.R_lower (Kd.R_new' (Kd.R_new' ho0 (Kd.R_lt (by (with_reducible repeat (first | apply Kd.R_alloc | apply Kd.R_drewN | apply Kd.R_drew)); exact (Kd.R_mono (Kd.R_far (p := ⟨gb217, 1, none⟩) (Kd.R_far (p := ⟨gb217, 0, none⟩) (Kd.R_types HO211.out BK217.out (by decide)) (fun _ hk => hk.2) (.int .i64 t212)) (fun _ hk => hk.2) (.slice Ao23 t213.length co23)) (fun _ h_ => h_.1))))) (Kd.R_lt (by (with_reducible repeat (first | apply Kd.R_alloc | apply Kd.R_drewN | apply Kd.R_drew)); exact (Kd.R_mono (Kd.R_far (p := ⟨gb217, 1, none⟩) (Kd.R_far (p := ⟨gb217, 0, none⟩) (Kd.R_types HO215.out BK217.out (by decide)) (fun _ hk => hk.2) (.int .i64 t212)) (fun _ hk => hk.2) (.slice Ao23 t213.length co23)) (fun _ h_ => h_.1))))) (below_size (by repeat (first | (with_reducible first | exact HB.out | apply bwA | apply bwN | apply bwD | refine below_set ?_ GE206.out | refine below_set ?_ GE217.out) | exact HB.out)))); have n3_ := Aside0.mk (blk_below (g := gb206) (o := .cells #[.int .i64 a0_0, .slice A0_1 l0_1.length c0_1] 59 (0, 0)) (by (with_reducible repeat (first | refine blk_drewN ?_ _ | refine blk_drew ?_ | refine blk_alloc ?_ _)); refine blk_far ?_ NB206_217.out _; (with_reducible repeat (first | refine blk_drewN ?_ _ | refine blk_drew ?_ | refine blk_alloc ?_ _)); refine blk_far ?_ NB206_217.out _; (with_reducible repeat (first | refine blk_drewN ?_ _ | refine blk_drew ?_ | refine blk_alloc ?_ _)); exact BK206.out) hb); have n4_ := Aside0.mk (blk_below (g := gb217) (o := .cells #[.int .i64 t212, .slice Ao23 t213.length co23] 48 (0, 0)) (by (with_reducible repeat (first | refine blk_drewN ?_ _ | refine blk_drew ?_ | refine blk_alloc ?_ _)); refine blk_put (cs := #[.int .i64 t212, .slice none 0 0]) ?_ 1 _ rfl; (with_reducible repeat (first | refine blk_drewN ?_ _ | refine blk_drew ?_ | refine blk_alloc ?_ _)); refine blk_put (cs := #[.int .i64 0, .slice none 0 0]) ?_ 0 _ rfl; (with_reducible repeat (first | refine blk_drewN ?_ _ | refine blk_drew ?_ | refine blk_alloc ?_ _)); exact BK217.out) hb); have n5_ := Aside0.mk (below_step (by repeat (first | (with_reducible first | exact HB.out | apply bwA | apply bwN | apply bwD | refine below_set ?_ GE206.out | refine below_set ?_ GE217.out) | exact HB.out)) hb); clear HO211; clear HO215; clear BK206; clear BK217; clear HB; have HO211 := n0_; have HO215 := n1_; have HO221 := n2_; have BK206 := n3_; have BK217 := n4_; have HB := n5_; clear n0_ n1_ n2_ n3_ n4_ n5_; (try clear hb); (try clear hb2); (try clear hk); (try clear hi); (try clear ho0)) | ((with_reducible refine gate_dst (N := 8) rfl ?_); refine box_event ?hg (N := 8) ?hd (cs := #[.int .i64 0, .slice none 0 0]) (t := 48) ?hr ?_; (case hd => rfl); (case hg => rfl); (case hr => first | (go_simp; done) | (go_simp; rfl)); intro gb222 hg w26 hbox hb; have n0_ := Aside0.mk (Kd.R_below (by (with_reducible repeat (first | apply Kd.R_alloc | apply Kd.R_drewN | apply Kd.R_drew)); exact HO211.out) hb); have n1_ := Aside0.mk (Kd.R_below (by (with_reducible repeat (first | apply Kd.R_alloc | apply Kd.R_drewN | apply Kd.R_drew)); exact HO215.out) hb); have n2_ := Aside0.mk (Kd.R_below (by (with_reducible repeat (first | apply Kd.R_alloc | apply Kd.R_drewN | apply Kd.R_drew)); exact HO221.out) hb); have n3_ := Aside0.mk (blk_below (g := gb206) (o := .cells #[.int .i64 a0_0, .slice A0_1 l0_1.length c0_1] 59 (0, 0)) (by (with_reducible repeat (first | refine blk_drewN ?_ _ | refine blk_drew ?_ | refine blk_alloc ?_ _)); exact BK206.out) hb); have n4_ := Aside0.mk (blk_below (g := gb217) (o := .cells #[.int .i64 t212, .slice Ao23 t213.length co23] 48 (0, 0)) (by (with_reducible repeat (first | refine blk_drewN ?_ _ | refine blk_drew ?_ | refine blk_alloc ?_ _)); exact BK217.out) hb); have n5_ := Aside0.mk (below_step (by repeat (first | (with_reducible first | exact HB.out | apply bwA | apply bwN | apply bwD | refine below_set ?_ GE206.out | refine below_set ?_ GE217.out) | exact HB.out)) hb); have n6_ := Aside0.mk (hbox); have n7_ := Aside0.mk ((by rw [hg]; exact (below_size (by repeat (first | (with_reducible first | exact HB.out | apply bwA | apply bwN | apply bwD | refine below_set ?_ GE206.out | refine below_set ?_ GE217.out) | exact HB.out))) : w.heap.size ≤ gb222)); have n8_ := Aside0.mk ((by rw [hg]; exact (below_size (by repeat (first | (with_reducible first | exact HB.out | apply bwA | apply bwN | apply bwD | refine below_set ?_ GE206.out | refine below_set ?_ GE217.out) | exact HB.out))) : w.heap.size ≤ gb222)); have n9_ := Aside0.mk ((by rw [hg]; exact Nat.ne_of_lt (blk_lt (g := gb206) (o := .cells #[.int .i64 a0_0, .slice A0_1 l0_1.length c0_1] 59 (0, 0)) (by (with_reducible repeat (first | refine blk_drewN ?_ _ | refine blk_drew ?_ | refine blk_alloc ?_ _)); exact BK206.out)) : gb206 ≠ gb222)); have n10_ := Aside0.mk ((by rw [hg]; exact Nat.ne_of_gt (blk_lt (g := gb206) (o := .cells #[.int .i64 a0_0, .slice A0_1 l0_1.length c0_1] 59 (0, 0)) (by (with_reducible repeat (first | refine blk_drewN ?_ _ | refine blk_drew ?_ | refine blk_alloc ?_ _)); exact BK206.out)) : gb222 ≠ gb206)); have n11_ := Aside0.mk ((by rw [hg]; exact Nat.ne_of_lt (blk_lt (g := gb217) (o := .cells #[.int .i64 t212, .slice Ao23 t213.length co23] 48 (0, 0)) (by (with_reducible repeat (first | refine blk_drewN ?_ _ | refine blk_drew ?_ | refine blk_alloc ?_ _)); exact BK217.out)) : gb217 ≠ gb222)); have n12_ := Aside0.mk ((by rw [hg]; exact Nat.ne_of_gt (blk_lt (g := gb217) (o := .cells #[.int .i64 t212, .slice Ao23 t213.length co23] 48 (0, 0)) (by (with_reducible repeat (first | refine blk_drewN ?_ _ | refine blk_drew ?_ | refine blk_alloc ?_ _)); exact BK217.out)) : gb222 ≠ gb217)); clear HO211; clear HO215; clear HO221; clear BK206; clear BK217; clear HB; have HO211 := n0_; have HO215 := n1_; have HO221 := n2_; have BK206 := n3_; have BK217 := n4_; have HB := n5_; have BK222 := n6_; have GW222 := n7_; have GE222 := n8_; have NB206_222 := n9_; have NB222_206 := n10_; have NB217_222 := n11_; have NB222_217 := n12_; clear n0_ n1_ n2_ n3_ n4_ n5_ n6_ n7_ n8_ n9_ n10_ n11_ n12_; clear hb hbox hg; have hnb27 := NB222_206.out; have hnc27 := NB206_222.out; have hnb28 := NB222_217.out; have hnc28 := NB217_222.out; have hcz29_0 : w26.cell? ⟨gb222, 0, none⟩ = some (.int .i64 0) := (blk_cell BK222.out 0).trans rfl; have hcz29_1 : w26.cell? ⟨gb222, 1, none⟩ = some (.slice none 0 0) := (blk_cell BK222.out 1).trans rfl; have hfz29_0 := blk_frozen BK222.out 0; have hfz29_1 := blk_frozen BK222.out 1; obtain ⟨Ao30, co30, eo30⟩ := Kd.R_slice HO221.out; subst eo30) | ((with_reducible refine gate_callee (f := 34) rfl ?_); refine goesL_ (some 33) rfl rfl Try.func34 (by kernel_rfl) rfl #[.agg #[.int .i64 t218, .slice Ao30 t219.length co30], .int .i64 a1] rfl (by (try simp only [List.map_toArray, List.map_cons, List.map_nil]); first | done | rfl | (simp only [List.length_drop, List.length_take]; rfl)) ?_; (with_reducible refine (impl_Compacted.calls k t218 _ _ t219 a1 t223 t224 t227 _ ?side1 ?side2 A11.out).mono ?_); (case side1 => refine (Kd.R_reads' (e := 56) (base := w.heap.size) (ok := fun k_ => ((True ∧ some k_ ≠ (.slice Ao18 t209.length co18 : Value).ownBlock) ∧ some k_ ≠ (.slice Ao23 t213.length co23 : Value).ownBlock)) (n := t219.length) (c := co30) ?_).2.2; exact (by (with_reducible repeat (first | apply Kd.R_alloc | apply Kd.R_drewN | apply Kd.R_drew)); exact (Kd.R_mono (Kd.R_far (p := ⟨gb222, 1, none⟩) (Kd.R_far (p := ⟨gb222, 0, none⟩) (Kd.R_types HO221.out BK222.out (by decide)) (fun _ hk => hk.2) (.int .i64 t218)) (fun _ hk => hk.2) (.slice Ao30 t219.length co30)) (fun _ h_ => h_.1)))); (case side2 => exact (Kd.R_reads' HO221.out).2.1); rintro e w31 ⟨v225, rfl, ho0, hb⟩; refine ⟨_, rfl, ?_⟩; have n0_ := Aside0.mk (Kd.R_elder' (by (with_reducible repeat (first | apply Kd.R_alloc | apply Kd.R_drewN | apply Kd.R_drew)); exact (Kd.R_mono (Kd.R_far (p := ⟨gb222, 1, none⟩) (Kd.R_far (p := ⟨gb222, 0, none⟩) (Kd.R_types HO211.out BK222.out (by decide)) (fun _ hk => hk.2) (.int .i64 t218)) (fun _ hk => hk.2) (.slice Ao30 t219.length co30)) (fun _ h_ => h_.1))) (Kd.R_base ho0) hb); have n1_ := Aside0.mk (Kd.R_elder' (by (with_reducible repeat (first | apply Kd.R_alloc | apply Kd.R_drewN | apply Kd.R_drew)); exact (Kd.R_mono (Kd.R_far (p := ⟨gb222, 1, none⟩) (Kd.R_far (p := ⟨gb222, 0, none⟩) (Kd.R_types HO215.out BK222.out (by decide)) (fun _ hk => hk.2) (.int .i64 t218)) (fun _ hk => hk.2) (.slice Ao30 t219.length co30)) (fun _ h_ => h_.1))) (Kd.R_base ho0) hb); have n2_ := Aside0.mk (Kd.R_elder' (by (with_reducible repeat (first | apply Kd.R_alloc | apply Kd.R_drewN | apply Kd.R_drew)); exact (Kd.R_mono (Kd.R_far (p := ⟨gb222, 1, none⟩) (Kd.R_far (p := ⟨gb222, 0, none⟩) (Kd.R_types HO221.out BK222.out (by decide)) (fun _ hk => hk.2) (.int .i64 t218)) (fun _ hk => hk.2) (.slice Ao30 t219.length co30)) (fun _ h_ => h_.1))) (Kd.R_base ho0) hb); have n3_ := Aside0.mk (Kd.R_lower (Kd.R_new' (Kd.R_new' (Kd.R_new' ho0 (Kd.R_lt (by (with_reducible repeat (first | apply Kd.R_alloc | apply Kd.R_drewN | apply Kd.R_drew)); exact (Kd.R_mono (Kd.R_far (p := ⟨gb222, 1, none⟩) (Kd.R_far (p := ⟨gb222, 0, none⟩) (Kd.R_types HO211.out BK222.out (by decide)) (fun _ hk => hk.2) (.int .i64 t218)) (fun _ hk => hk.2) (.slice Ao30 t219.length co30)) (fun _ h_ => h_.1))))) (Kd.R_lt (by (with_reducible repeat (first | apply Kd.R_alloc | apply Kd.R_drewN | apply Kd.R_drew)); exact (Kd.R_mono (Kd.R_far (p := ⟨gb222, 1, none⟩) (Kd.R_far (p := ⟨gb222, 0, none⟩) (Kd.R_types HO215.out BK222.out (by decide)) (fun _ hk => hk.2) (.int .i64 t218)) (fun _ hk => hk.2) (.slice Ao30 t219.length co30)) (fun _ h_ => h_.1))))) (Kd.R_lt (by (with_reducible repeat (first | apply Kd.R_alloc | apply Kd.R_drewN | apply Kd.R_drew)); exact (Kd.R_mono (Kd.R_far (p := ⟨gb222, 1, none⟩) (Kd.R_far (p := ⟨gb222, 0, none⟩) (Kd.R_types HO221.out BK222.out (by decide)) (fun _ hk => hk.2) (.int .i64 t218)) (fun _ hk => hk.2) (.slice Ao30 t219.length co30)) (fun _ h_ => h_.1))))) (below_size (by repeat (first | (with_reducible first | exact HB.out | apply bwA | apply bwN | apply bwD | refine below_set ?_ GE206.out | refine below_set ?_ GE217.out | refine below_set ?_ GE222.out) | exact HB.out)))); have n4_ := Aside0.mk (blk_below (g := gb206) (o := .cells #[.int .i64 a0_0, .slice A0_1 l0_1.length c0_1] 59 (0, 0)) (by (with_reducible repeat (first | refine blk_drewN ?_ _ | refine blk_drew ?_ | refine blk_alloc ?_ _)); refine blk_far ?_ NB206_222.out _; (with_reducible repeat (first | refine blk_drewN ?_ _ | refine blk_drew ?_ | refine blk_alloc ?_ _)); refine blk_far ?_ NB206_222.out _; (with_reducible repeat (first | refine blk_drewN ?_ _ | refine blk_drew ?_ | refine blk_alloc ?_ _)); exact BK206.out) hb); have n5_ := Aside0.mk (blk_below (g := gb217) (o := .cells #[.int .i64 t212, .slice Ao23 t213.length co23] 48 (0, 0)) (by (with_reducible repeat (first | refine blk_drewN ?_ _ | refine blk_drew ?_ | refine blk_alloc ?_ _)); refine blk_far ?_ NB217_222.out _; (with_reducible repeat (first | refine blk_drewN ?_ _ | refine blk_drew ?_ | refine blk_alloc ?_ _)); refine blk_far ?_ NB217_222.out _; (with_reducible repeat (first | refine blk_drewN ?_ _ | refine blk_drew ?_ | refine blk_alloc ?_ _)); exact BK217.out) hb); have n6_ := Aside0.mk (blk_below (g := gb222) (o := .cells #[.int .i64 t218, .slice Ao30 t219.length co30] 48 (0, 0)) (by (with_reducible repeat (first | refine blk_drewN ?_ _ | refine blk_drew ?_ | refine blk_alloc ?_ _)); refine blk_put (cs := #[.int .i64 t218, .slice none 0 0]) ?_ 1 _ rfl; (with_reducible repeat (first | refine blk_drewN ?_ _ | refine blk_drew ?_ | refine blk_alloc ?_ _)); refine blk_put (cs := #[.int .i64 0, .slice none 0 0]) ?_ 0 _ rfl; (with_reducible repeat (first | refine blk_drewN ?_ _ | refine blk_drew ?_ | refine blk_alloc ?_ _)); exact BK222.out) hb); have n7_ := Aside0.mk (below_step (by repeat (first | (with_reducible first | exact HB.out | apply bwA | apply bwN | apply bwD | refine below_set ?_ GE206.out | refine below_set ?_ GE217.out | refine below_set ?_ GE222.out) | exact HB.out)) hb); clear HO211; clear HO215; clear HO221; clear BK206; clear BK217; clear BK222; clear HB; have HO211 := n0_; have HO215 := n1_; have HO221 := n2_; have HO226 := n3_; have BK206 := n4_; have BK217 := n5_; have BK222 := n6_; have HB := n7_; clear n0_ n1_ n2_ n3_ n4_ n5_ n6_ n7_; (try clear hb); (try clear hb2); (try clear hk); (try clear hi); (try clear ho0)) | ((with_reducible refine gate_dst (N := 9) rfl ?_); refine box_event ?hg (N := 9) ?hd (cs := #[.int .i64 0, .slice none 0 0]) (t := 48) ?hr ?_; (case hd => rfl); (case hg => rfl); (case hr => first | (go_simp; done) | (go_simp; rfl)); intro gb228 hg w32 hbox hb; have n0_ := Aside0.mk (Kd.R_below (by (with_reducible repeat (first | apply Kd.R_alloc | apply Kd.R_drewN | apply Kd.R_drew)); exact HO211.out) hb); have n1_ := Aside0.mk (Kd.R_below (by (with_reducible repeat (first | apply Kd.R_alloc | apply Kd.R_drewN | apply Kd.R_drew)); exact HO215.out) hb); have n2_ := Aside0.mk (Kd.R_below (by (with_reducible repeat (first | apply Kd.R_alloc | apply Kd.R_drewN | apply Kd.R_drew)); exact HO221.out) hb); have n3_ := Aside0.mk (Kd.R_below (by (with_reducible repeat (first | apply Kd.R_alloc | apply Kd.R_drewN | apply Kd.R_drew)); exact HO226.out) hb); have n4_ := Aside0.mk (blk_below (g := gb206) (o := .cells #[.int .i64 a0_0, .slice A0_1 l0_1.length c0_1] 59 (0, 0)) (by (with_reducible repeat (first | refine blk_drewN ?_ _ | refine blk_drew ?_ | refine blk_alloc ?_ _)); exact BK206.out) hb); have n5_ := Aside0.mk (blk_below (g := gb217) (o := .cells #[.int .i64 t212, .slice Ao23 t213.length co23] 48 (0, 0)) (by (with_reducible repeat (first | refine blk_drewN ?_ _ | refine blk_drew ?_ | refine blk_alloc ?_ _)); exact BK217.out) hb); have n6_ := Aside0.mk (blk_below (g := gb222) (o := .cells #[.int .i64 t218, .slice Ao30 t219.length co30] 48 (0, 0)) (by (with_reducible repeat (first | refine blk_drewN ?_ _ | refine blk_drew ?_ | refine blk_alloc ?_ _)); exact BK222.out) hb); have n7_ := Aside0.mk (below_step (by repeat (first | (with_reducible first | exact HB.out | apply bwA | apply bwN | apply bwD | refine below_set ?_ GE206.out | refine below_set ?_ GE217.out | refine below_set ?_ GE222.out) | exact HB.out)) hb); have n8_ := Aside0.mk (hbox); have n9_ := Aside0.mk ((by rw [hg]; exact (below_size (by repeat (first | (with_reducible first | exact HB.out | apply bwA | apply bwN | apply bwD | refine below_set ?_ GE206.out | refine below_set ?_ GE217.out | refine below_set ?_ GE222.out) | exact HB.out))) : w.heap.size ≤ gb228)); have n10_ := Aside0.mk ((by rw [hg]; exact (below_size (by repeat (first | (with_reducible first | exact HB.out | apply bwA | apply bwN | apply bwD | refine below_set ?_ GE206.out | refine below_set ?_ GE217.out | refine below_set ?_ GE222.out) | exact HB.out))) : w.heap.size ≤ gb228)); have n11_ := Aside0.mk ((by rw [hg]; exact Nat.ne_of_lt (blk_lt (g := gb206) (o := .cells #[.int .i64 a0_0, .slice A0_1 l0_1.length c0_1] 59 (0, 0)) (by (with_reducible repeat (first | refine blk_drewN ?_ _ | refine blk_drew ?_ | refine blk_alloc ?_ _)); exact BK206.out)) : gb206 ≠ gb228)); have n12_ := Aside0.mk ((by rw [hg]; exact Nat.ne_of_gt (blk_lt (g := gb206) (o := .cells #[.int .i64 a0_0, .slice A0_1 l0_1.length c0_1] 59 (0, 0)) (by (with_reducible repeat (first | refine blk_drewN ?_ _ | refine blk_drew ?_ | refine blk_alloc ?_ _)); exact BK206.out)) : gb228 ≠ gb206)); have n13_ := Aside0.mk ((by rw [hg]; exact Nat.ne_of_lt (blk_lt (g := gb217) (o := .cells #[.int .i64 t212, .slice Ao23 t213.length co23] 48 (0, 0)) (by (with_reducible repeat (first | refine blk_drewN ?_ _ | refine blk_drew ?_ | refine blk_alloc ?_ _)); exact BK217.out)) : gb217 ≠ gb228)); have n14_ := Aside0.mk ((by rw [hg]; exact Nat.ne_of_gt (blk_lt (g := gb217) (o := .cells #[.int .i64 t212, .slice Ao23 t213.length co23] 48 (0, 0)) (by (with_reducible repeat (first | refine blk_drewN ?_ _ | refine blk_drew ?_ | refine blk_alloc ?_ _)); exact BK217.out)) : gb228 ≠ gb217)); have n15_ := Aside0.mk ((by rw [hg]; exact Nat.ne_of_lt (blk_lt (g := gb222) (o := .cells #[.int .i64 t218, .slice Ao30 t219.length co30] 48 (0, 0)) (by (with_reducible repeat (first | refine blk_drewN ?_ _ | refine blk_drew ?_ | refine blk_alloc ?_ _)); exact BK222.out)) : gb222 ≠ gb228)); have n16_ := Aside0.mk ((by rw [hg]; exact Nat.ne_of_gt (blk_lt (g := gb222) (o := .cells #[.int .i64 t218, .slice Ao30 t219.length co30] 48 (0, 0)) (by (with_reducible repeat (first | refine blk_drewN ?_ _ | refine blk_drew ?_ | refine blk_alloc ?_ _)); exact BK222.out)) : gb228 ≠ gb222)); clear HO211; clear HO215; clear HO221; clear HO226; clear BK206; clear BK217; clear BK222; clear HB; have HO211 := n0_; have HO215 := n1_; have HO221 := n2_; have HO226 := n3_; have BK206 := n4_; have BK217 := n5_; have BK222 := n6_; have HB := n7_; have BK228 := n8_; have GW228 := n9_; have GE228 := n10_; have NB206_228 := n11_; have NB228_206 := n12_; have NB217_228 := n13_; have NB228_217 := n14_; have NB222_228 := n15_; have NB228_222 := n16_; clear n0_ n1_ n2_ n3_ n4_ n5_ n6_ n7_ n8_ n9_ n10_ n11_ n12_ n13_ n14_ n15_ n16_; clear hb hbox hg; have hnb33 := NB228_206.out; have hnc33 := NB206_228.out; have hnb34 := NB228_217.out; have hnc34 := NB217_228.out; have hnb35 := NB228_222.out; have hnc35 := NB222_228.out; have hcz36_0 : w32.cell? ⟨gb228, 0, none⟩ = some (.int .i64 0) := (blk_cell BK228.out 0).trans rfl; have hcz36_1 : w32.cell? ⟨gb228, 1, none⟩ = some (.slice none 0 0) := (blk_cell BK228.out 1).trans rfl; have hfz36_0 := blk_frozen BK228.out 0; have hfz36_1 := blk_frozen BK228.out 1; obtain ⟨Ao37, co37, eo37⟩ := Kd.R_slice HO226.out; subst eo37))
  (try simp only [Act.put, List.setIfInBounds_toArray, List.set_cons_zero, List.set_cons_succ])
  go_cut [44] (fun v44 wc => ∃ (kq : Nat) (x44_11 : Bool), v44 = .bool x44_11 ∧ Aside0 (laws_FnExactCompacted.j0 kq a1 t216 t227 x44_11 a0_0 l0_1 t212 t213 t218 t219 t223 t224 = some r) ∧ Aside0 (kq ≤ k) ∧ Aside0 (Kd.R k56 56 wc w.heap.size (fun k_ => some k_ ≠ ((.slice Ao30 t219.length co30) : Value).ownBlock ∧ some k_ ≠ ((.slice Ao37 t224.length co37) : Value).ownBlock) (.slice Ao23 t213.length co23) t213) ∧ Aside0 (Kd.R k56 56 wc w.heap.size (fun k_ => some k_ ≠ ((.slice Ao23 t213.length co23) : Value).ownBlock ∧ some k_ ≠ ((.slice Ao37 t224.length co37) : Value).ownBlock) (.slice Ao30 t219.length co30) t219) ∧ Aside0 (Kd.R k56 56 wc w.heap.size (fun k_ => some k_ ≠ ((.slice Ao23 t213.length co23) : Value).ownBlock ∧ some k_ ≠ ((.slice Ao30 t219.length co30) : Value).ownBlock) (.slice Ao37 t224.length co37) t224) ∧ Aside0 (wc.heap[gb206]? = some (.cells #[.int .i64 a0_0, (.slice A0_1 l0_1.length c0_1)] 59 (0, 0))) ∧ Aside0 (wc.heap[gb217]? = some (.cells #[.int .i64 t212, (.slice Ao23 t213.length co23)] 48 (0, 0))) ∧ Aside0 (wc.heap[gb222]? = some (.cells #[.int .i64 t218, (.slice Ao30 t219.length co30)] 48 (0, 0))) ∧ Aside0 (wc.heap[gb228]? = some (.cells #[.int .i64 t223, (.slice Ao37 t224.length co37)] 48 (0, 0))) ∧ Aside0 (Below w.heap.size w wc))
  case first =>
   have H := HC12.out
   clear HC12
   replace H := Option.bind_eq_some_iff.mp H
   obtain ⟨t229, A380, H⟩ := H
   replace H : (if t229 = true then (laws_FnExactCompacted.j0 k a1 t216 t227 (t227 != t216) a0_0 l0_1 t212 t213 t218 t219 t223 t224) else (laws_FnExactCompacted.j0 k a1 t216 t227 true a0_0 l0_1 t212 t213 t218 t219 t223 t224)) = some r := H
   have A38 := Aside0.mk A380
   clear A380
   by_cases c39 : t229 = true
   ·subst c39
    have H1 : (laws_FnExactCompacted.j0 k a1 t216 t227 (t227 != t216) a0_0 l0_1 t212 t213 t218 t219 t223 t224) = some r := by rw [if_pos rfl] at H; exact H
    clear H
    have H := H1
    clear H1
    have H' := Aside0.mk H
    clear H
    have hnb40 := NB228_206.out
    have hnc40 := NB206_228.out
    have hnb41 := NB228_217.out
    have hnc41 := NB217_228.out
    have hnb42 := NB228_222.out
    have hnc42 := NB222_228.out
    have hcz43_0 : w32.cell? ⟨gb228, 0, none⟩ = some (.int .i64 0) := (blk_cell BK228.out 0).trans rfl
    have hcz43_1 : w32.cell? ⟨gb228, 1, none⟩ = some (.slice none 0 0) := (blk_cell BK228.out 1).trans rfl
    have hfz43_0 := blk_frozen BK228.out 0
    have hfz43_1 := blk_frozen BK228.out 1
    have hnb44 := NB217_206.out
    have hnc44 := NB206_217.out
    have hnb45 := NB217_222.out
    have hnc45 := NB222_217.out
    have hcz46_0 : w32.cell? ⟨gb217, 0, none⟩ = some (.int .i64 t212) := (blk_cell BK217.out 0).trans rfl
    have hcz46_1 : w32.cell? ⟨gb217, 1, none⟩ = some (.slice Ao23 t213.length co23) := (blk_cell BK217.out 1).trans rfl
    have hfz46_0 := blk_frozen BK217.out 0
    have hfz46_1 := blk_frozen BK217.out 1
    go_wp2_with (first | ((with_reducible refine gate_callee (f := 39) rfl ?_); refine goesL_ (some 38) rfl rfl Try.func39 (by kernel_rfl) rfl #[.agg #[.int .i64 t223, .slice Ao37 t224.length co37], .agg #[.int .i64 t212, .slice Ao23 t213.length co23]] rfl (by (try simp only [List.map_toArray, List.map_cons, List.map_nil]); first | done | rfl | (simp only [List.length_drop, List.length_take]; rfl)) ?_; (with_reducible refine (laws_eqDiagram.calls k t223 _ _ t224 t212 _ _ t213 true _ ?side1 ?side2 ?side3 ?side4 A38.out).mono ?_); (case side1 => refine (Kd.R_reads' (e := 56) (base := w.heap.size) (ok := fun k_ => (((True ∧ some k_ ≠ (.slice Ao18 t209.length co18 : Value).ownBlock) ∧ some k_ ≠ (.slice Ao23 t213.length co23 : Value).ownBlock) ∧ some k_ ≠ (.slice Ao30 t219.length co30 : Value).ownBlock)) (n := t224.length) (c := co37) ?_).2.2; exact (by (with_reducible repeat (first | apply Kd.R_alloc | apply Kd.R_drewN | apply Kd.R_drew)); exact (Kd.R_mono (Kd.R_far (p := ⟨gb228, 1, none⟩) (Kd.R_far (p := ⟨gb228, 0, none⟩) (Kd.R_types HO226.out BK228.out (by decide)) (fun _ hk => hk.2) (.int .i64 t223)) (fun _ hk => hk.2) (.slice Ao37 t224.length co37)) (fun _ h_ => h_.1)))); (case side2 => exact (Kd.R_reads' HO226.out).2.1); (case side3 => refine (Kd.R_reads' (e := 56) (base := w.heap.size) (ok := fun k_ => (((True ∧ some k_ ≠ (.slice Ao18 t209.length co18 : Value).ownBlock) ∧ some k_ ≠ (.slice Ao30 t219.length co30 : Value).ownBlock) ∧ some k_ ≠ (.slice Ao37 t224.length co37 : Value).ownBlock)) (n := t213.length) (c := co23) ?_).2.2; exact (by (with_reducible repeat (first | apply Kd.R_alloc | apply Kd.R_drewN | apply Kd.R_drew)); exact (Kd.R_mono (Kd.R_far (p := ⟨gb228, 1, none⟩) (Kd.R_far (p := ⟨gb228, 0, none⟩) (Kd.R_types HO215.out BK228.out (by decide)) (fun _ hk => hk.2) (.int .i64 t223)) (fun _ hk => hk.2) (.slice Ao37 t224.length co37)) (fun _ h_ => h_.1)))); (case side4 => exact (Kd.R_reads' HO215.out).2.1); rintro e w47 ⟨rfl, hb⟩; refine ⟨_, rfl, ?_⟩; have n0_ := Aside0.mk (Kd.R_below (by (with_reducible repeat (first | apply Kd.R_alloc | apply Kd.R_drewN | apply Kd.R_drew)); exact (Kd.R_mono (Kd.R_far (p := ⟨gb228, 1, none⟩) (Kd.R_far (p := ⟨gb228, 0, none⟩) (Kd.R_types HO211.out BK228.out (by decide)) (fun _ hk => hk.2) (.int .i64 t223)) (fun _ hk => hk.2) (.slice Ao37 t224.length co37)) (fun _ h_ => h_.1))) hb); have n1_ := Aside0.mk (Kd.R_below (by (with_reducible repeat (first | apply Kd.R_alloc | apply Kd.R_drewN | apply Kd.R_drew)); exact (Kd.R_mono (Kd.R_far (p := ⟨gb228, 1, none⟩) (Kd.R_far (p := ⟨gb228, 0, none⟩) (Kd.R_types HO215.out BK228.out (by decide)) (fun _ hk => hk.2) (.int .i64 t223)) (fun _ hk => hk.2) (.slice Ao37 t224.length co37)) (fun _ h_ => h_.1))) hb); have n2_ := Aside0.mk (Kd.R_below (by (with_reducible repeat (first | apply Kd.R_alloc | apply Kd.R_drewN | apply Kd.R_drew)); exact (Kd.R_mono (Kd.R_far (p := ⟨gb228, 1, none⟩) (Kd.R_far (p := ⟨gb228, 0, none⟩) (Kd.R_types HO221.out BK228.out (by decide)) (fun _ hk => hk.2) (.int .i64 t223)) (fun _ hk => hk.2) (.slice Ao37 t224.length co37)) (fun _ h_ => h_.1))) hb); have n3_ := Aside0.mk (Kd.R_below (by (with_reducible repeat (first | apply Kd.R_alloc | apply Kd.R_drewN | apply Kd.R_drew)); exact (Kd.R_mono (Kd.R_far (p := ⟨gb228, 1, none⟩) (Kd.R_far (p := ⟨gb228, 0, none⟩) (Kd.R_types HO226.out BK228.out (by decide)) (fun _ hk => hk.2) (.int .i64 t223)) (fun _ hk => hk.2) (.slice Ao37 t224.length co37)) (fun _ h_ => h_.1))) hb); have n4_ := Aside0.mk (blk_below (g := gb206) (o := .cells #[.int .i64 a0_0, .slice A0_1 l0_1.length c0_1] 59 (0, 0)) (by (with_reducible repeat (first | refine blk_drewN ?_ _ | refine blk_drew ?_ | refine blk_alloc ?_ _)); refine blk_far ?_ NB206_228.out _; (with_reducible repeat (first | refine blk_drewN ?_ _ | refine blk_drew ?_ | refine blk_alloc ?_ _)); refine blk_far ?_ NB206_228.out _; (with_reducible repeat (first | refine blk_drewN ?_ _ | refine blk_drew ?_ | refine blk_alloc ?_ _)); exact BK206.out) hb); have n5_ := Aside0.mk (blk_below (g := gb217) (o := .cells #[.int .i64 t212, .slice Ao23 t213.length co23] 48 (0, 0)) (by (with_reducible repeat (first | refine blk_drewN ?_ _ | refine blk_drew ?_ | refine blk_alloc ?_ _)); refine blk_far ?_ NB217_228.out _; (with_reducible repeat (first | refine blk_drewN ?_ _ | refine blk_drew ?_ | refine blk_alloc ?_ _)); refine blk_far ?_ NB217_228.out _; (with_reducible repeat (first | refine blk_drewN ?_ _ | refine blk_drew ?_ | refine blk_alloc ?_ _)); exact BK217.out) hb); have n6_ := Aside0.mk (blk_below (g := gb222) (o := .cells #[.int .i64 t218, .slice Ao30 t219.length co30] 48 (0, 0)) (by (with_reducible repeat (first | refine blk_drewN ?_ _ | refine blk_drew ?_ | refine blk_alloc ?_ _)); refine blk_far ?_ NB222_228.out _; (with_reducible repeat (first | refine blk_drewN ?_ _ | refine blk_drew ?_ | refine blk_alloc ?_ _)); refine blk_far ?_ NB222_228.out _; (with_reducible repeat (first | refine blk_drewN ?_ _ | refine blk_drew ?_ | refine blk_alloc ?_ _)); exact BK222.out) hb); have n7_ := Aside0.mk (blk_below (g := gb228) (o := .cells #[.int .i64 t223, .slice Ao37 t224.length co37] 48 (0, 0)) (by (with_reducible repeat (first | refine blk_drewN ?_ _ | refine blk_drew ?_ | refine blk_alloc ?_ _)); refine blk_put (cs := #[.int .i64 t223, .slice none 0 0]) ?_ 1 _ rfl; (with_reducible repeat (first | refine blk_drewN ?_ _ | refine blk_drew ?_ | refine blk_alloc ?_ _)); refine blk_put (cs := #[.int .i64 0, .slice none 0 0]) ?_ 0 _ rfl; (with_reducible repeat (first | refine blk_drewN ?_ _ | refine blk_drew ?_ | refine blk_alloc ?_ _)); exact BK228.out) hb); have n8_ := Aside0.mk (below_step (by repeat (first | (with_reducible first | exact HB.out | apply bwA | apply bwN | apply bwD | refine below_set ?_ GE206.out | refine below_set ?_ GE217.out | refine below_set ?_ GE222.out | refine below_set ?_ GE228.out) | exact HB.out)) hb); clear HO211; clear HO215; clear HO221; clear HO226; clear BK206; clear BK217; clear BK222; clear BK228; clear HB; have HO211 := n0_; have HO215 := n1_; have HO221 := n2_; have HO226 := n3_; have BK206 := n4_; have BK217 := n5_; have BK222 := n6_; have BK228 := n7_; have HB := n8_; clear n0_ n1_ n2_ n3_ n4_ n5_ n6_ n7_ n8_; (try clear hb); (try clear hb2); (try clear hk); (try clear hi)))
    go_meet
    case rel => exact ⟨_, ((t227 != t216)), (by first | rfl | (simp; done) | (simp [*]; done)), H', ⟨by first | omega | exact Nat.le_refl _⟩, ⟨by (with_reducible repeat (first | apply Kd.R_alloc | apply Kd.R_drewN | apply Kd.R_drew)); exact Kd.R_mono HO215.out (fun _ hk => ⟨hk.1.2, hk.2⟩)⟩, ⟨by (with_reducible repeat (first | apply Kd.R_alloc | apply Kd.R_drewN | apply Kd.R_drew)); exact Kd.R_mono HO221.out (fun _ hk => ⟨hk.1.2, hk.2⟩)⟩, ⟨by (with_reducible repeat (first | apply Kd.R_alloc | apply Kd.R_drewN | apply Kd.R_drew)); exact Kd.R_mono HO226.out (fun _ hk => ⟨hk.1.2, hk.2⟩)⟩, ⟨by (with_reducible repeat (first | refine blk_drewN ?_ _ | refine blk_drew ?_ | refine blk_alloc ?_ _)); exact BK206.out⟩, ⟨by (with_reducible repeat (first | refine blk_drewN ?_ _ | refine blk_drew ?_ | refine blk_alloc ?_ _)); exact BK217.out⟩, ⟨by (with_reducible repeat (first | refine blk_drewN ?_ _ | refine blk_drew ?_ | refine blk_alloc ?_ _)); exact BK222.out⟩, ⟨by (with_reducible repeat (first | refine blk_drewN ?_ _ | refine blk_drew ?_ | refine blk_alloc ?_ _)); exact BK228.out⟩, ⟨by repeat (first | (with_reducible first | exact HB.out | apply bwA | apply bwN | apply bwD | refine below_set ?_ GE206.out | refine below_set ?_ GE217.out | refine below_set ?_ GE222.out | refine below_set ?_ GE228.out) | exact HB.out)⟩⟩
   ·replace c39 := Bool.eq_false_iff.mpr c39
    subst c39
    have H1 : (laws_FnExactCompacted.j0 k a1 t216 t227 true a0_0 l0_1 t212 t213 t218 t219 t223 t224) = some r := by rw [if_neg (show ¬ (false = true) by decide)] at H; exact H
    clear H
    have H := H1
    clear H1
    have H' := Aside0.mk H
    clear H
    have hnb48 := NB228_206.out
    have hnc48 := NB206_228.out
    have hnb49 := NB228_217.out
    have hnc49 := NB217_228.out
    have hnb50 := NB228_222.out
    have hnc50 := NB222_228.out
    have hcz51_0 : w32.cell? ⟨gb228, 0, none⟩ = some (.int .i64 0) := (blk_cell BK228.out 0).trans rfl
    have hcz51_1 : w32.cell? ⟨gb228, 1, none⟩ = some (.slice none 0 0) := (blk_cell BK228.out 1).trans rfl
    have hfz51_0 := blk_frozen BK228.out 0
    have hfz51_1 := blk_frozen BK228.out 1
    have hnb52 := NB217_206.out
    have hnc52 := NB206_217.out
    have hnb53 := NB217_222.out
    have hnc53 := NB222_217.out
    have hcz54_0 : w32.cell? ⟨gb217, 0, none⟩ = some (.int .i64 t212) := (blk_cell BK217.out 0).trans rfl
    have hcz54_1 : w32.cell? ⟨gb217, 1, none⟩ = some (.slice Ao23 t213.length co23) := (blk_cell BK217.out 1).trans rfl
    have hfz54_0 := blk_frozen BK217.out 0
    have hfz54_1 := blk_frozen BK217.out 1
    go_wp2_with (first | ((with_reducible refine gate_callee (f := 39) rfl ?_); refine goesL_ (some 38) rfl rfl Try.func39 (by kernel_rfl) rfl #[.agg #[.int .i64 t223, .slice Ao37 t224.length co37], .agg #[.int .i64 t212, .slice Ao23 t213.length co23]] rfl (by (try simp only [List.map_toArray, List.map_cons, List.map_nil]); first | done | rfl | (simp only [List.length_drop, List.length_take]; rfl)) ?_; (with_reducible refine (laws_eqDiagram.calls k t223 _ _ t224 t212 _ _ t213 false _ ?side1 ?side2 ?side3 ?side4 A38.out).mono ?_); (case side1 => refine (Kd.R_reads' (e := 56) (base := w.heap.size) (ok := fun k_ => (((True ∧ some k_ ≠ (.slice Ao18 t209.length co18 : Value).ownBlock) ∧ some k_ ≠ (.slice Ao23 t213.length co23 : Value).ownBlock) ∧ some k_ ≠ (.slice Ao30 t219.length co30 : Value).ownBlock)) (n := t224.length) (c := co37) ?_).2.2; exact (by (with_reducible repeat (first | apply Kd.R_alloc | apply Kd.R_drewN | apply Kd.R_drew)); exact (Kd.R_mono (Kd.R_far (p := ⟨gb228, 1, none⟩) (Kd.R_far (p := ⟨gb228, 0, none⟩) (Kd.R_types HO226.out BK228.out (by decide)) (fun _ hk => hk.2) (.int .i64 t223)) (fun _ hk => hk.2) (.slice Ao37 t224.length co37)) (fun _ h_ => h_.1)))); (case side2 => exact (Kd.R_reads' HO226.out).2.1); (case side3 => refine (Kd.R_reads' (e := 56) (base := w.heap.size) (ok := fun k_ => (((True ∧ some k_ ≠ (.slice Ao18 t209.length co18 : Value).ownBlock) ∧ some k_ ≠ (.slice Ao30 t219.length co30 : Value).ownBlock) ∧ some k_ ≠ (.slice Ao37 t224.length co37 : Value).ownBlock)) (n := t213.length) (c := co23) ?_).2.2; exact (by (with_reducible repeat (first | apply Kd.R_alloc | apply Kd.R_drewN | apply Kd.R_drew)); exact (Kd.R_mono (Kd.R_far (p := ⟨gb228, 1, none⟩) (Kd.R_far (p := ⟨gb228, 0, none⟩) (Kd.R_types HO215.out BK228.out (by decide)) (fun _ hk => hk.2) (.int .i64 t223)) (fun _ hk => hk.2) (.slice Ao37 t224.length co37)) (fun _ h_ => h_.1)))); (case side4 => exact (Kd.R_reads' HO215.out).2.1); rintro e w55 ⟨rfl, hb⟩; refine ⟨_, rfl, ?_⟩; have n0_ := Aside0.mk (Kd.R_below (by (with_reducible repeat (first | apply Kd.R_alloc | apply Kd.R_drewN | apply Kd.R_drew)); exact (Kd.R_mono (Kd.R_far (p := ⟨gb228, 1, none⟩) (Kd.R_far (p := ⟨gb228, 0, none⟩) (Kd.R_types HO211.out BK228.out (by decide)) (fun _ hk => hk.2) (.int .i64 t223)) (fun _ hk => hk.2) (.slice Ao37 t224.length co37)) (fun _ h_ => h_.1))) hb); have n1_ := Aside0.mk (Kd.R_below (by (with_reducible repeat (first | apply Kd.R_alloc | apply Kd.R_drewN | apply Kd.R_drew)); exact (Kd.R_mono (Kd.R_far (p := ⟨gb228, 1, none⟩) (Kd.R_far (p := ⟨gb228, 0, none⟩) (Kd.R_types HO215.out BK228.out (by decide)) (fun _ hk => hk.2) (.int .i64 t223)) (fun _ hk => hk.2) (.slice Ao37 t224.length co37)) (fun _ h_ => h_.1))) hb); have n2_ := Aside0.mk (Kd.R_below (by (with_reducible repeat (first | apply Kd.R_alloc | apply Kd.R_drewN | apply Kd.R_drew)); exact (Kd.R_mono (Kd.R_far (p := ⟨gb228, 1, none⟩) (Kd.R_far (p := ⟨gb228, 0, none⟩) (Kd.R_types HO221.out BK228.out (by decide)) (fun _ hk => hk.2) (.int .i64 t223)) (fun _ hk => hk.2) (.slice Ao37 t224.length co37)) (fun _ h_ => h_.1))) hb); have n3_ := Aside0.mk (Kd.R_below (by (with_reducible repeat (first | apply Kd.R_alloc | apply Kd.R_drewN | apply Kd.R_drew)); exact (Kd.R_mono (Kd.R_far (p := ⟨gb228, 1, none⟩) (Kd.R_far (p := ⟨gb228, 0, none⟩) (Kd.R_types HO226.out BK228.out (by decide)) (fun _ hk => hk.2) (.int .i64 t223)) (fun _ hk => hk.2) (.slice Ao37 t224.length co37)) (fun _ h_ => h_.1))) hb); have n4_ := Aside0.mk (blk_below (g := gb206) (o := .cells #[.int .i64 a0_0, .slice A0_1 l0_1.length c0_1] 59 (0, 0)) (by (with_reducible repeat (first | refine blk_drewN ?_ _ | refine blk_drew ?_ | refine blk_alloc ?_ _)); refine blk_far ?_ NB206_228.out _; (with_reducible repeat (first | refine blk_drewN ?_ _ | refine blk_drew ?_ | refine blk_alloc ?_ _)); refine blk_far ?_ NB206_228.out _; (with_reducible repeat (first | refine blk_drewN ?_ _ | refine blk_drew ?_ | refine blk_alloc ?_ _)); exact BK206.out) hb); have n5_ := Aside0.mk (blk_below (g := gb217) (o := .cells #[.int .i64 t212, .slice Ao23 t213.length co23] 48 (0, 0)) (by (with_reducible repeat (first | refine blk_drewN ?_ _ | refine blk_drew ?_ | refine blk_alloc ?_ _)); refine blk_far ?_ NB217_228.out _; (with_reducible repeat (first | refine blk_drewN ?_ _ | refine blk_drew ?_ | refine blk_alloc ?_ _)); refine blk_far ?_ NB217_228.out _; (with_reducible repeat (first | refine blk_drewN ?_ _ | refine blk_drew ?_ | refine blk_alloc ?_ _)); exact BK217.out) hb); have n6_ := Aside0.mk (blk_below (g := gb222) (o := .cells #[.int .i64 t218, .slice Ao30 t219.length co30] 48 (0, 0)) (by (with_reducible repeat (first | refine blk_drewN ?_ _ | refine blk_drew ?_ | refine blk_alloc ?_ _)); refine blk_far ?_ NB222_228.out _; (with_reducible repeat (first | refine blk_drewN ?_ _ | refine blk_drew ?_ | refine blk_alloc ?_ _)); refine blk_far ?_ NB222_228.out _; (with_reducible repeat (first | refine blk_drewN ?_ _ | refine blk_drew ?_ | refine blk_alloc ?_ _)); exact BK222.out) hb); have n7_ := Aside0.mk (blk_below (g := gb228) (o := .cells #[.int .i64 t223, .slice Ao37 t224.length co37] 48 (0, 0)) (by (with_reducible repeat (first | refine blk_drewN ?_ _ | refine blk_drew ?_ | refine blk_alloc ?_ _)); refine blk_put (cs := #[.int .i64 t223, .slice none 0 0]) ?_ 1 _ rfl; (with_reducible repeat (first | refine blk_drewN ?_ _ | refine blk_drew ?_ | refine blk_alloc ?_ _)); refine blk_put (cs := #[.int .i64 0, .slice none 0 0]) ?_ 0 _ rfl; (with_reducible repeat (first | refine blk_drewN ?_ _ | refine blk_drew ?_ | refine blk_alloc ?_ _)); exact BK228.out) hb); have n8_ := Aside0.mk (below_step (by repeat (first | (with_reducible first | exact HB.out | apply bwA | apply bwN | apply bwD | refine below_set ?_ GE206.out | refine below_set ?_ GE217.out | refine below_set ?_ GE222.out | refine below_set ?_ GE228.out) | exact HB.out)) hb); clear HO211; clear HO215; clear HO221; clear HO226; clear BK206; clear BK217; clear BK222; clear BK228; clear HB; have HO211 := n0_; have HO215 := n1_; have HO221 := n2_; have HO226 := n3_; have BK206 := n4_; have BK217 := n5_; have BK222 := n6_; have BK228 := n7_; have HB := n8_; clear n0_ n1_ n2_ n3_ n4_ n5_ n6_ n7_ n8_; (try clear hb); (try clear hb2); (try clear hk); (try clear hi)))
    go_meet
    case rel => exact ⟨_, (true), (by first | rfl | (simp; done) | (simp [*]; done)), H', ⟨by first | omega | exact Nat.le_refl _⟩, ⟨by (with_reducible repeat (first | apply Kd.R_alloc | apply Kd.R_drewN | apply Kd.R_drew)); exact Kd.R_mono HO215.out (fun _ hk => ⟨hk.1.2, hk.2⟩)⟩, ⟨by (with_reducible repeat (first | apply Kd.R_alloc | apply Kd.R_drewN | apply Kd.R_drew)); exact Kd.R_mono HO221.out (fun _ hk => ⟨hk.1.2, hk.2⟩)⟩, ⟨by (with_reducible repeat (first | apply Kd.R_alloc | apply Kd.R_drewN | apply Kd.R_drew)); exact Kd.R_mono HO226.out (fun _ hk => ⟨hk.1.2, hk.2⟩)⟩, ⟨by (with_reducible repeat (first | refine blk_drewN ?_ _ | refine blk_drew ?_ | refine blk_alloc ?_ _)); exact BK206.out⟩, ⟨by (with_reducible repeat (first | refine blk_drewN ?_ _ | refine blk_drew ?_ | refine blk_alloc ?_ _)); exact BK217.out⟩, ⟨by (with_reducible repeat (first | refine blk_drewN ?_ _ | refine blk_drew ?_ | refine blk_alloc ?_ _)); exact BK222.out⟩, ⟨by (with_reducible repeat (first | refine blk_drewN ?_ _ | refine blk_drew ?_ | refine blk_alloc ?_ _)); exact BK228.out⟩, ⟨by repeat (first | (with_reducible first | exact HB.out | apply bwA | apply bwN | apply bwD | refine below_set ?_ GE206.out | refine below_set ?_ GE217.out | refine below_set ?_ GE222.out | refine below_set ?_ GE228.out) | exact HB.out)⟩⟩
  case rest =>
   clear HC12
   try clear c2
   try clear p2
   try clear c3
   try clear c4
   try clear c4b0
   try clear c5
   try clear c8
   try clear c21
   try clear c27
   try clear c28
   try clear c33
   try clear c34
   try clear c35
   try clear c36
   try clear c37
   try clear c38
   try clear c39
   try clear c40
   try clear c41
   try clear c42
   try clear c44
   try clear c45
   try clear c48
   try clear c49
   try clear c50
   try clear c52
   try clear c53
   try clear hcz14_0
   try clear hcz14_1
   try clear hcz16_0
   try clear hcz16_1
   try clear hcz22_0
   try clear hcz22_1
   try clear hcz24_0
   try clear hcz24_1
   try clear hcz29_0
   try clear hcz29_1
   try clear hcz36_0
   try clear hcz36_1
   try clear hcz43_0
   try clear hcz43_1
   try clear hcz46_0
   try clear hcz46_1
   try clear hcz51_0
   try clear hcz51_1
   try clear hcz54_0
   try clear hcz54_1
   try clear hcz6_0
   try clear hcz6_1
   try clear hfz14_0
   try clear hfz14_1
   try clear hfz16_0
   try clear hfz16_1
   try clear hfz22_0
   try clear hfz22_1
   try clear hfz24_0
   try clear hfz24_1
   try clear hfz29_0
   try clear hfz29_1
   try clear hfz36_0
   try clear hfz36_1
   try clear hfz43_0
   try clear hfz43_1
   try clear hfz46_0
   try clear hfz46_1
   try clear hfz51_0
   try clear hfz51_1
   try clear hfz54_0
   try clear hfz54_1
   try clear hfz6_0
   try clear hfz6_1
   obtain ⟨kq, x44_11, rfl, HA, HJ11, HO_218001, HO_223001, HO_229001, BK206, BK217, BK222, BK228, HB⟩ := hcut
   cases kq with
   | zero => exact absurd HA.out (by simp [laws_FnExactCompacted.j0])
   | succ kj11 =>
    have H := HA.out
    clear HA
    simp only [laws_FnExactCompacted.j0] at H
    by_cases c56 : x44_11 = true
    ·subst c56
     have H1 : (some false) = some r := by rw [if_pos rfl] at H; exact H
     clear H
     have H := H1
     clear H1
     obtain rfl := Option.some.inj H
     go_wp2
     go_ret
     exact ⟨by first | rfl | (simp [errW_none, errW_some] <;> rfl) | (simp [*, errW_none, errW_some] <;> rfl), by repeat (first | (with_reducible first | exact HB.out | apply bwA | apply bwN | apply bwD | refine below_set ?_ GE206.out | refine below_set ?_ GE217.out | refine below_set ?_ GE222.out | refine below_set ?_ GE228.out) | exact HB.out)⟩
    ·replace c56 := Bool.eq_false_iff.mpr c56
     subst c56
     have H1 : ((laws_toDiagram.f kj11 a0_0 l0_1).bind fun bt230 => ((laws_eqDiagram.f kj11 t218 t219 bt230.1 bt230.2).bind fun t234 => (if t234 = true then ((laws_markDiagram.f kj11 t218 t219 1).bind fun bt235 => (if bt235.1 < 0 then (laws_FnExactCompacted.j1 kj11 a1 t216 true a0_0 l0_1 t212 t213 t223 t224) else ((laws_eqDiagram.f kj11 t223 t224 t212 t213).bind fun t237 => (if t237 = true then (laws_FnExactCompacted.j1 kj11 a1 t216 (t227 != t216) a0_0 l0_1 t212 t213 t223 t224) else (laws_FnExactCompacted.j1 kj11 a1 t216 true a0_0 l0_1 t212 t213 t223 t224))))) else (some false)))) = some r := by rw [if_neg (show ¬ (false = true) by decide)] at H; exact H
     clear H
     have H := H1
     clear H1
     replace H := Option.bind_eq_some_iff.mp H
     obtain ⟨⟨t230, t231⟩, A570, H⟩ := H
     replace H : ((laws_eqDiagram.f kj11 t218 t219 t230 t231).bind fun t234 => (if t234 = true then ((laws_markDiagram.f kj11 t218 t219 1).bind fun bt235 => (if bt235.1 < 0 then (laws_FnExactCompacted.j1 kj11 a1 t216 true a0_0 l0_1 t212 t213 t223 t224) else ((laws_eqDiagram.f kj11 t223 t224 t212 t213).bind fun t237 => (if t237 = true then (laws_FnExactCompacted.j1 kj11 a1 t216 (t227 != t216) a0_0 l0_1 t212 t213 t223 t224) else (laws_FnExactCompacted.j1 kj11 a1 t216 true a0_0 l0_1 t212 t213 t223 t224))))) else (some false))) = some r := H
     have A57 := Aside0.mk A570
     clear A570
     replace H := Option.bind_eq_some_iff.mp H
     obtain ⟨t234, A580, H⟩ := H
     replace H : (if t234 = true then ((laws_markDiagram.f kj11 t218 t219 1).bind fun bt235 => (if bt235.1 < 0 then (laws_FnExactCompacted.j1 kj11 a1 t216 true a0_0 l0_1 t212 t213 t223 t224) else ((laws_eqDiagram.f kj11 t223 t224 t212 t213).bind fun t237 => (if t237 = true then (laws_FnExactCompacted.j1 kj11 a1 t216 (t227 != t216) a0_0 l0_1 t212 t213 t223 t224) else (laws_FnExactCompacted.j1 kj11 a1 t216 true a0_0 l0_1 t212 t213 t223 t224))))) else (some false)) = some r := H
     have A58 := Aside0.mk A580
     clear A580
     by_cases c59 : t234 = true
     ·subst c59
      have H1 : ((laws_markDiagram.f kj11 t218 t219 1).bind fun bt235 => (if bt235.1 < 0 then (laws_FnExactCompacted.j1 kj11 a1 t216 true a0_0 l0_1 t212 t213 t223 t224) else ((laws_eqDiagram.f kj11 t223 t224 t212 t213).bind fun t237 => (if t237 = true then (laws_FnExactCompacted.j1 kj11 a1 t216 (t227 != t216) a0_0 l0_1 t212 t213 t223 t224) else (laws_FnExactCompacted.j1 kj11 a1 t216 true a0_0 l0_1 t212 t213 t223 t224))))) = some r := by rw [if_pos rfl] at H; exact H
      clear H
      have H := H1
      clear H1
      replace H := Option.bind_eq_some_iff.mp H
      obtain ⟨⟨t235, t236⟩, A600, H⟩ := H
      replace H : (if t235 < 0 then (laws_FnExactCompacted.j1 kj11 a1 t216 true a0_0 l0_1 t212 t213 t223 t224) else ((laws_eqDiagram.f kj11 t223 t224 t212 t213).bind fun t237 => (if t237 = true then (laws_FnExactCompacted.j1 kj11 a1 t216 (t227 != t216) a0_0 l0_1 t212 t213 t223 t224) else (laws_FnExactCompacted.j1 kj11 a1 t216 true a0_0 l0_1 t212 t213 t223 t224)))) = some r := H
      have A60 := Aside0.mk A600
      clear A600
      have HC61 := Aside0.mk H
      clear H
      try go_wp2
      have n0_ := Aside0.mk (Kd.R_drew HO_218001.out)
      have n1_ := Aside0.mk (Kd.R_drew HO_223001.out)
      have n2_ := Aside0.mk (Kd.R_drew HO_229001.out)
      have n3_ := Aside0.mk (blk_drew BK206.out)
      have n4_ := Aside0.mk (blk_drew BK217.out)
      have n5_ := Aside0.mk (blk_drew BK222.out)
      have n6_ := Aside0.mk (blk_drew BK228.out)
      have n7_ := Aside0.mk (below_drew1 HB.out)
      clear HO_218001
      clear HO_223001
      clear HO_229001
      clear BK206
      clear BK217
      clear BK222
      clear BK228
      clear HB
      have HO_218001 := n0_
      have HO_223001 := n1_
      have HO_229001 := n2_
      have BK206 := n3_
      have BK217 := n4_
      have BK222 := n5_
      have BK228 := n6_
      have HB := n7_
      clear n0_ n1_ n2_ n3_ n4_ n5_ n6_ n7_
      refine start_ (n := 5) (S := fun w' => w'.cell? ⟨gb222, 0, none⟩ = some (.int .i64 t218) ∧ w'.cell? ⟨gb222, 1, none⟩ = some (.slice Ao30 t219.length co30) ∧ w'.cell? ⟨gb206, 0, none⟩ = some (.int .i64 a0_0) ∧ w'.cell? ⟨gb206, 1, none⟩ = some (.slice A0_1 l0_1.length c0_1)) (ds := []) #[false, false, false, false, false] (by kernel_rfl) rfl rfl ⟨(blk_cell BK222.out 0).trans rfl, (blk_cell BK222.out 1).trans rfl, (blk_cell BK206.out 0).trans rfl, (blk_cell BK206.out 1).trans rfl⟩ (fun hHeld => ?_)
      generalize wc.drew = w62 at HO_218001 HO_223001 HO_229001 BK206 BK217 BK222 BK228 HB hHeld ⊢
      refine take_ (i := 0) (N := some 45) (v := ?_) (a' := ?_) #[true, false, false, false, false] rfl rfl (by kernel_rfl) (fun _ _ _ h => h) (Or.inl ⟨by rfl, ?_⟩) hHeld ?_ ?_
      rotate_left
      ·rintro w' ⟨s0, s1, s2, s3⟩
       go_simp
       with_reducible rfl
      rotate_left
      ·simp only [Act.put, List.setIfInBounds_toArray, List.set_cons_zero, List.set_cons_succ, i64_w, i32_w]
       rfl
      refine take_ (i := 1) (N := some 46) (v := ?_) (a' := ?_) #[true, true, false, false, false] rfl rfl (by kernel_rfl) (fun _ _ _ h => h) (Or.inl ⟨by rfl, ?_⟩) hHeld ?_ ?_
      rotate_left
      ·rintro w' ⟨s0, s1, s2, s3⟩
       go_simp
       with_reducible rfl
      rotate_left
      ·simp only [Act.put, List.setIfInBounds_toArray, List.set_cons_zero, List.set_cons_succ, i64_w, i32_w]
       rfl
      refine one_ (i := 2) (N := some 47) #[true, true, true, false, false] rfl rfl (by kernel_rfl) (by decide) (fun K hK => ?_)
      refine goes_ Try.func38 (by kernel_rfl) rfl #[.agg #[.int .i64 a0_0, .slice A0_1 l0_1.length c0_1]] (by rfl) rfl rfl (by (try simp only [List.map_toArray, List.map_cons, List.map_nil]); first | done | rfl | (simp only [List.length_drop, List.length_take]; rfl)) ?_
      with_reducible refine (laws_toDiagram.calls kj11 a0_0 _ _ l0_1 t230 t231 _ ?side1 ?side2 A57.out).mono ?_
      (case side1 => repeat (first | exact (Kd.C_below HR0_1.out HB.out) | (with_reducible refine Kd.C_alloc ?_ _) | (with_reducible refine Kd.C_drewN ?_ _) | (with_reducible refine Kd.C_drew ?_)))
      (case side2 => exact HC0_1.out)
      rintro e w63 ⟨v232, rfl, ho0, hb⟩
      refine ⟨_, rfl, ?_⟩
      have n0_ := Aside0.mk (Kd.R_elder' (by (with_reducible repeat (first | apply Kd.R_alloc | apply Kd.R_drewN | apply Kd.R_drew)); exact HO_218001.out) (Kd.R_base ho0) hb)
      have n1_ := Aside0.mk (Kd.R_elder' (by (with_reducible repeat (first | apply Kd.R_alloc | apply Kd.R_drewN | apply Kd.R_drew)); exact HO_223001.out) (Kd.R_base ho0) hb)
      have n2_ := Aside0.mk (Kd.R_elder' (by (with_reducible repeat (first | apply Kd.R_alloc | apply Kd.R_drewN | apply Kd.R_drew)); exact HO_229001.out) (Kd.R_base ho0) hb)
      have n3_ := Aside0.mk (Kd.R_lower (Kd.R_new' (Kd.R_new' (Kd.R_new' ho0 (Kd.R_lt (by (with_reducible repeat (first | apply Kd.R_alloc | apply Kd.R_drewN | apply Kd.R_drew)); exact HO_218001.out))) (Kd.R_lt (by (with_reducible repeat (first | apply Kd.R_alloc | apply Kd.R_drewN | apply Kd.R_drew)); exact HO_223001.out))) (Kd.R_lt (by (with_reducible repeat (first | apply Kd.R_alloc | apply Kd.R_drewN | apply Kd.R_drew)); exact HO_229001.out))) (below_size (by repeat (first | (with_reducible first | exact HB.out | apply bwA | apply bwN | apply bwD | refine below_set ?_ GE206.out | refine below_set ?_ GE217.out | refine below_set ?_ GE222.out | refine below_set ?_ GE228.out) | exact HB.out))))
      have n4_ := Aside0.mk (blk_below (g := gb206) (o := .cells #[.int .i64 a0_0, .slice A0_1 l0_1.length c0_1] 59 (0, 0)) (by (with_reducible repeat (first | refine blk_drewN ?_ _ | refine blk_drew ?_ | refine blk_alloc ?_ _)); exact BK206.out) hb)
      have n5_ := Aside0.mk (blk_below (g := gb217) (o := .cells #[.int .i64 t212, .slice Ao23 t213.length co23] 48 (0, 0)) (by (with_reducible repeat (first | refine blk_drewN ?_ _ | refine blk_drew ?_ | refine blk_alloc ?_ _)); exact BK217.out) hb)
      have n6_ := Aside0.mk (blk_below (g := gb222) (o := .cells #[.int .i64 t218, .slice Ao30 t219.length co30] 48 (0, 0)) (by (with_reducible repeat (first | refine blk_drewN ?_ _ | refine blk_drew ?_ | refine blk_alloc ?_ _)); exact BK222.out) hb)
      have n7_ := Aside0.mk (blk_below (g := gb228) (o := .cells #[.int .i64 t223, .slice Ao37 t224.length co37] 48 (0, 0)) (by (with_reducible repeat (first | refine blk_drewN ?_ _ | refine blk_drew ?_ | refine blk_alloc ?_ _)); exact BK228.out) hb)
      have n8_ := Aside0.mk (below_step (by repeat (first | (with_reducible first | exact HB.out | apply bwA | apply bwN | apply bwD | refine below_set ?_ GE206.out | refine below_set ?_ GE217.out | refine below_set ?_ GE222.out | refine below_set ?_ GE228.out) | exact HB.out)) hb)
      clear HO_218001
      clear HO_223001
      clear HO_229001
      clear BK206
      clear BK217
      clear BK222
      clear BK228
      clear HB
      have HO_218001 := n0_
      have HO_223001 := n1_
      have HO_229001 := n2_
      have HO233 := n3_
      have BK206 := n4_
      have BK217 := n5_
      have BK222 := n6_
      have BK228 := n7_
      have HB := n8_
      clear n0_ n1_ n2_ n3_ n4_ n5_ n6_ n7_ n8_
      (try clear hb)
      (try clear hb2)
      (try clear hk)
      (try clear hi)
      (try clear ho0)
      obtain ⟨Ao64, co64, eo64⟩ := Kd.R_slice HO233.out
      (first | subst eo64 | (injection eo64 with f1_ f2_ f3_; have f4_ := f1_.symm; have f5_ := f3_.symm; clear f1_ f2_ f3_; subst f4_; subst f5_))
      refine hK.out _ _ ⟨(blk_cell BK222.out 0).trans rfl, (blk_cell BK222.out 1).trans rfl, (blk_cell BK206.out 0).trans rfl, (blk_cell BK206.out 1).trans rfl⟩ (fun hHeld => ?_)
      clear hK K
      refine norm_ (a' := ?_) ?_ ?_
      rotate_left
      ·show Act.put _ (some 47) _ = _
       simp only [Act.put, List.setIfInBounds_toArray, List.set_cons_zero, List.set_cons_succ, i64_w, i32_w]
       rfl
      refine one_ (i := 3) (N := some 48) #[true, true, true, true, false] rfl rfl (by kernel_rfl) (by decide) (fun K hK => ?_)
      refine goes_ Try.func39 (by kernel_rfl) rfl #[.agg #[.int .i64 t218, .slice Ao30 t219.length co30], .agg #[.int .i64 t230, .slice Ao64 t231.length co64]] (by rfl) rfl rfl (by (try simp only [List.map_toArray, List.map_cons, List.map_nil]); first | done | rfl | (simp only [List.length_drop, List.length_take]; rfl)) ?_
      with_reducible refine (laws_eqDiagram.calls kj11 t218 _ _ t219 t230 _ _ t231 true _ ?side1 ?side2 ?side3 ?side4 A58.out).mono ?_
      (case side1 => repeat (first | exact (Kd.R_reads' HO_223001.out).2.2 | (with_reducible refine Kd.C_alloc ?_ _) | (with_reducible refine Kd.C_drewN ?_ _) | (with_reducible refine Kd.C_drew ?_)))
      (case side2 => exact (Kd.R_reads' HO_223001.out).2.1)
      (case side3 => repeat (first | exact (Kd.R_reads' HO233.out).2.2 | (with_reducible refine Kd.C_alloc ?_ _) | (with_reducible refine Kd.C_drewN ?_ _) | (with_reducible refine Kd.C_drew ?_)))
      (case side4 => exact (Kd.R_reads' HO233.out).2.1)
      rintro e w65 ⟨rfl, hb⟩
      refine ⟨_, rfl, ?_⟩
      have n0_ := Aside0.mk (Kd.R_below (by (with_reducible repeat (first | apply Kd.R_alloc | apply Kd.R_drewN | apply Kd.R_drew)); exact HO_218001.out) hb)
      have n1_ := Aside0.mk (Kd.R_below (by (with_reducible repeat (first | apply Kd.R_alloc | apply Kd.R_drewN | apply Kd.R_drew)); exact HO_223001.out) hb)
      have n2_ := Aside0.mk (Kd.R_below (by (with_reducible repeat (first | apply Kd.R_alloc | apply Kd.R_drewN | apply Kd.R_drew)); exact HO_229001.out) hb)
      have n3_ := Aside0.mk (Kd.R_below (by (with_reducible repeat (first | apply Kd.R_alloc | apply Kd.R_drewN | apply Kd.R_drew)); exact HO233.out) hb)
      have n4_ := Aside0.mk (blk_below (g := gb206) (o := .cells #[.int .i64 a0_0, .slice A0_1 l0_1.length c0_1] 59 (0, 0)) (by (with_reducible repeat (first | refine blk_drewN ?_ _ | refine blk_drew ?_ | refine blk_alloc ?_ _)); exact BK206.out) hb)
      have n5_ := Aside0.mk (blk_below (g := gb217) (o := .cells #[.int .i64 t212, .slice Ao23 t213.length co23] 48 (0, 0)) (by (with_reducible repeat (first | refine blk_drewN ?_ _ | refine blk_drew ?_ | refine blk_alloc ?_ _)); exact BK217.out) hb)
      have n6_ := Aside0.mk (blk_below (g := gb222) (o := .cells #[.int .i64 t218, .slice Ao30 t219.length co30] 48 (0, 0)) (by (with_reducible repeat (first | refine blk_drewN ?_ _ | refine blk_drew ?_ | refine blk_alloc ?_ _)); exact BK222.out) hb)
      have n7_ := Aside0.mk (blk_below (g := gb228) (o := .cells #[.int .i64 t223, .slice Ao37 t224.length co37] 48 (0, 0)) (by (with_reducible repeat (first | refine blk_drewN ?_ _ | refine blk_drew ?_ | refine blk_alloc ?_ _)); exact BK228.out) hb)
      have n8_ := Aside0.mk (below_step (by repeat (first | (with_reducible first | exact HB.out | apply bwA | apply bwN | apply bwD | refine below_set ?_ GE206.out | refine below_set ?_ GE217.out | refine below_set ?_ GE222.out | refine below_set ?_ GE228.out) | exact HB.out)) hb)
      clear HO_218001
      clear HO_223001
      clear HO_229001
      clear HO233
      clear BK206
      clear BK217
      clear BK222
      clear BK228
      clear HB
      have HO_218001 := n0_
      have HO_223001 := n1_
      have HO_229001 := n2_
      have HO233 := n3_
      have BK206 := n4_
      have BK217 := n5_
      have BK222 := n6_
      have BK228 := n7_
      have HB := n8_
      clear n0_ n1_ n2_ n3_ n4_ n5_ n6_ n7_ n8_
      (try clear hb)
      (try clear hb2)
      (try clear hk)
      (try clear hi)
      refine hK.out _ _ ⟨(blk_cell BK222.out 0).trans rfl, (blk_cell BK222.out 1).trans rfl, (blk_cell BK206.out 0).trans rfl, (blk_cell BK206.out 1).trans rfl⟩ (fun hHeld => ?_)
      clear hK K
      refine norm_ (a' := ?_) ?_ ?_
      rotate_left
      ·show Act.put _ (some 48) _ = _
       simp only [Act.put, List.setIfInBounds_toArray, List.set_cons_zero, List.set_cons_succ, i64_w, i32_w]
       rfl
      refine pure_ (i := 4) (N := some 49) (v := ?_) (a' := ?_) #[true, true, true, true, true] rfl rfl (by kernel_rfl) (fun _ _ _ h => h) (Or.inl ⟨by rfl, ?_⟩) ?_ ?_
      rotate_left
      ·intro w'
       go_simp
       with_reducible rfl
      rotate_left
      ·simp only [Act.put, List.setIfInBounds_toArray, List.set_cons_zero, List.set_cons_succ, i64_w, i32_w]
       rfl
      refine done_ (by kernel_rfl) ?_
      have hnb66 := NB222_206.out
      have hnc66 := NB206_222.out
      have hnb67 := NB222_217.out
      have hnc67 := NB217_222.out
      have hnb68 := NB222_228.out
      have hnc68 := NB228_222.out
      have hcz69_0 : w65.cell? ⟨gb222, 0, none⟩ = some (.int .i64 t218) := (blk_cell BK222.out 0).trans rfl
      have hcz69_1 : w65.cell? ⟨gb222, 1, none⟩ = some (.slice Ao30 t219.length co30) := (blk_cell BK222.out 1).trans rfl
      have hfz69_0 := blk_frozen BK222.out 0
      have hfz69_1 := blk_frozen BK222.out 1
      go_upto_region 14 with (first | ((with_reducible refine gate_callee (f := 40) rfl ?_); refine goesL_ (some 52) rfl rfl Try.func40 (by kernel_rfl) rfl #[.agg #[.int .i64 t218, .slice Ao30 t219.length co30], .int .i64 1] rfl (by (try simp only [List.map_toArray, List.map_cons, List.map_nil]); first | done | rfl | (simp only [List.length_drop, List.length_take]; rfl)) ?_; (with_reducible refine (laws_markDiagram.calls kj11 t218 (fun k_ => some k_ = (.slice Ao30 t219.length co30 : Value).ownBlock) (.slice Ao30 t219.length co30) t219 1 t235 t236 w _ ?side1 ?side2 A60.out).mono ?_); (case side1 => repeat (first | (with_reducible first | exact HB.out | apply bwA | apply bwN | apply bwD | refine below_set ?_ GE206.out | refine below_set ?_ GE217.out | refine below_set ?_ GE222.out | refine below_set ?_ GE228.out) | exact HB.out)); (case side2 => exact Kd.R_tight rfl HO_223001.out); rintro e w70 ⟨rfl, hy0, hb, hkp⟩; refine ⟨_, rfl, ?_⟩; have n0_ := Aside0.mk (Kd.R_mono (ok' := fun k_ => some k_ ≠ (.slice Ao30 t219.length co30 : Value).ownBlock ∧ some k_ ≠ (.slice Ao37 t224.length co37 : Value).ownBlock ∧ some k_ ≠ (.slice Ao64 t231.length co64 : Value).ownBlock) (Kd.R_keptB (HO_218001.out) hkp (fun k_ hk_ hs_ => (hk_.1.1) hs_)) (fun k_ hk_ => ⟨hk_.1.1.1, hk_.1.1.2, hk_.1.2⟩)); have n1_ := Aside0.mk (Kd.R_reok rfl hy0 (fun k_ e_ => HO_223001.out.1 k_ e_)); have n2_ := Aside0.mk (Kd.R_mono (ok' := fun k_ => some k_ ≠ (.slice Ao23 t213.length co23 : Value).ownBlock ∧ some k_ ≠ (.slice Ao30 t219.length co30 : Value).ownBlock ∧ some k_ ≠ (.slice Ao64 t231.length co64 : Value).ownBlock) (Kd.R_keptB (HO_229001.out) hkp (fun k_ hk_ hs_ => (hk_.1.2) hs_)) (fun k_ hk_ => ⟨hk_.1.1.1, hk_.1.1.2, hk_.1.2⟩)); have n3_ := Aside0.mk (blk_kept (by (with_reducible repeat (first | refine blk_drewN ?_ _ | refine blk_drew ?_ | refine blk_alloc ?_ _)); exact BK206.out) hkp (fun hs_ => (fun e_ => (Kd.R_ne HO_223001.out BK206.out (by decide)) e_) hs_)); have n4_ := Aside0.mk (blk_kept (by (with_reducible repeat (first | refine blk_drewN ?_ _ | refine blk_drew ?_ | refine blk_alloc ?_ _)); exact BK217.out) hkp (fun hs_ => (fun e_ => (Kd.R_ne HO_223001.out BK217.out (by decide)) e_) hs_)); have n5_ := Aside0.mk (blk_kept (by (with_reducible repeat (first | refine blk_drewN ?_ _ | refine blk_drew ?_ | refine blk_alloc ?_ _)); exact BK222.out) hkp (fun hs_ => (fun e_ => (Kd.R_ne HO_223001.out BK222.out (by decide)) e_) hs_)); have n6_ := Aside0.mk (blk_kept (by (with_reducible repeat (first | refine blk_drewN ?_ _ | refine blk_drew ?_ | refine blk_alloc ?_ _)); exact BK228.out) hkp (fun hs_ => (fun e_ => (Kd.R_ne HO_223001.out BK228.out (by decide)) e_) hs_)); have n7_ := Aside0.mk (Kd.R_mono (ok' := fun k_ => some k_ ≠ (.slice Ao23 t213.length co23 : Value).ownBlock ∧ some k_ ≠ (.slice Ao30 t219.length co30 : Value).ownBlock ∧ some k_ ≠ (.slice Ao37 t224.length co37 : Value).ownBlock) (Kd.R_keptB (HO233.out) hkp (fun k_ hk_ hs_ => (hk_.1.2) hs_)) (fun k_ hk_ => ⟨hk_.1.1.1.2, hk_.1.1.2, hk_.1.2⟩)); have n8_ := Aside0.mk (hb); clear HO_218001; clear HO_223001; clear HO_229001; clear BK206; clear BK217; clear BK222; clear BK228; clear HO233; clear HB; have HO_218001 := n0_; have HO_223001 := n1_; have HO_229001 := n2_; have BK206 := n3_; have BK217 := n4_; have BK222 := n5_; have BK228 := n6_; have HO233 := n7_; have HB := n8_; clear n0_ n1_ n2_ n3_ n4_ n5_ n6_ n7_ n8_; (try clear hb); (try clear hkp); (try clear hy0)))
      (try simp only [Act.put, List.setIfInBounds_toArray, List.set_cons_zero, List.set_cons_succ])
      go_cut [65] (fun v65 wc => ∃ (kq : Nat) (x65_60 : Bool), v65 = .bool x65_60 ∧ Aside0 (laws_FnExactCompacted.j1 kq a1 t216 x65_60 a0_0 l0_1 t212 t213 t223 t224 = some r) ∧ Aside0 (kq ≤ kj11) ∧ Aside0 (Kd.R k56 56 wc w.heap.size (fun k_ => some k_ ≠ ((.slice Ao30 t219.length co30) : Value).ownBlock ∧ some k_ ≠ ((.slice Ao37 t224.length co37) : Value).ownBlock) (.slice Ao23 t213.length co23) t213) ∧ Aside0 (Kd.R k56 56 wc w.heap.size (fun k_ => some k_ ≠ ((.slice Ao23 t213.length co23) : Value).ownBlock ∧ some k_ ≠ ((.slice Ao37 t224.length co37) : Value).ownBlock) (.slice Ao30 t219.length co30) t236) ∧ Aside0 (Kd.R k56 56 wc w.heap.size (fun k_ => some k_ ≠ ((.slice Ao23 t213.length co23) : Value).ownBlock ∧ some k_ ≠ ((.slice Ao30 t219.length co30) : Value).ownBlock) (.slice Ao37 t224.length co37) t224) ∧ Aside0 (wc.heap[gb206]? = some (.cells #[.int .i64 a0_0, (.slice A0_1 l0_1.length c0_1)] 59 (0, 0))) ∧ Aside0 (wc.heap[gb217]? = some (.cells #[.int .i64 t212, (.slice Ao23 t213.length co23)] 48 (0, 0))) ∧ Aside0 (wc.heap[gb222]? = some (.cells #[.int .i64 t218, (.slice Ao30 t219.length co30)] 48 (0, 0))) ∧ Aside0 (wc.heap[gb228]? = some (.cells #[.int .i64 t223, (.slice Ao37 t224.length co37)] 48 (0, 0))) ∧ Aside0 (Below w.heap.size w wc))
      case first =>
       have H := HC61.out
       clear HC61
       by_cases c71 : t235 < 0
       ·rw [if_pos c71] at H
        have c71b0 : decide (t235 < 0) = true := decide_eq_true c71
        clear c71
        (first | rw [c71b0] | (simp only [i64_w, i32_w]; rw [c71b0]) | skip)
        have H' := Aside0.mk H
        clear H
        go_wp2
        go_meet
        case rel => exact ⟨_, (true), (by first | rfl | (simp; done) | (simp [*]; done)), H', ⟨by have := HJ11.out; first | omega | exact Nat.le_refl _⟩, ⟨by (with_reducible repeat (first | apply Kd.R_alloc | apply Kd.R_drewN | apply Kd.R_drew)); exact Kd.R_mono HO_218001.out (fun _ hk => ⟨hk.1, hk.2.1⟩)⟩, ⟨by (with_reducible repeat (first | apply Kd.R_alloc | apply Kd.R_drewN | apply Kd.R_drew)); exact Kd.R_mono HO_223001.out (fun _ hk => ⟨hk.1.1, hk.1.2⟩)⟩, ⟨by (with_reducible repeat (first | apply Kd.R_alloc | apply Kd.R_drewN | apply Kd.R_drew)); exact Kd.R_mono HO_229001.out (fun _ hk => ⟨hk.1, hk.2.1⟩)⟩, ⟨by (with_reducible repeat (first | refine blk_drewN ?_ _ | refine blk_drew ?_ | refine blk_alloc ?_ _)); exact BK206.out⟩, ⟨by (with_reducible repeat (first | refine blk_drewN ?_ _ | refine blk_drew ?_ | refine blk_alloc ?_ _)); exact BK217.out⟩, ⟨by (with_reducible repeat (first | refine blk_drewN ?_ _ | refine blk_drew ?_ | refine blk_alloc ?_ _)); exact BK222.out⟩, ⟨by (with_reducible repeat (first | refine blk_drewN ?_ _ | refine blk_drew ?_ | refine blk_alloc ?_ _)); exact BK228.out⟩, ⟨by repeat (first | (with_reducible first | exact HB.out | apply bwA | apply bwN | apply bwD | refine below_set ?_ GE206.out | refine below_set ?_ GE217.out | refine below_set ?_ GE222.out | refine below_set ?_ GE228.out) | exact HB.out)⟩⟩
       ·rw [if_neg c71] at H
        have c71b0 : decide (t235 < 0) = false := decide_eq_false c71
        clear c71
        (first | rw [c71b0] | (simp only [i64_w, i32_w]; rw [c71b0]) | skip)
        replace H := Option.bind_eq_some_iff.mp H
        obtain ⟨t237, A720, H⟩ := H
        replace H : (if t237 = true then (laws_FnExactCompacted.j1 kj11 a1 t216 (t227 != t216) a0_0 l0_1 t212 t213 t223 t224) else (laws_FnExactCompacted.j1 kj11 a1 t216 true a0_0 l0_1 t212 t213 t223 t224)) = some r := H
        have A72 := Aside0.mk A720
        clear A720
        by_cases c73 : t237 = true
        ·subst c73
         have H1 : (laws_FnExactCompacted.j1 kj11 a1 t216 (t227 != t216) a0_0 l0_1 t212 t213 t223 t224) = some r := by rw [if_pos rfl] at H; exact H
         clear H
         have H := H1
         clear H1
         have H' := Aside0.mk H
         clear H
         have hnb74 := NB228_206.out
         have hnc74 := NB206_228.out
         have hnb75 := NB228_217.out
         have hnc75 := NB217_228.out
         have hnb76 := NB228_222.out
         have hnc76 := NB222_228.out
         have hcz77_0 : w70.cell? ⟨gb228, 0, none⟩ = some (.int .i64 t223) := (blk_cell BK228.out 0).trans rfl
         have hcz77_1 : w70.cell? ⟨gb228, 1, none⟩ = some (.slice Ao37 t224.length co37) := (blk_cell BK228.out 1).trans rfl
         have hfz77_0 := blk_frozen BK228.out 0
         have hfz77_1 := blk_frozen BK228.out 1
         have hnb78 := NB217_206.out
         have hnc78 := NB206_217.out
         have hnb79 := NB217_222.out
         have hnc79 := NB222_217.out
         have hcz80_0 : w70.cell? ⟨gb217, 0, none⟩ = some (.int .i64 t212) := (blk_cell BK217.out 0).trans rfl
         have hcz80_1 : w70.cell? ⟨gb217, 1, none⟩ = some (.slice Ao23 t213.length co23) := (blk_cell BK217.out 1).trans rfl
         have hfz80_0 := blk_frozen BK217.out 0
         have hfz80_1 := blk_frozen BK217.out 1
         go_wp2_with (first | (go_at_call 39; (with_reducible refine (laws_eqDiagram.calls kj11 t223 _ _ t224 t212 _ _ t213 true _ ?side1 ?side2 ?side3 ?side4 A72.out).mono ?_); (case side1 => repeat (first | exact (Kd.R_reads' HO_229001.out).2.2 | (with_reducible refine Kd.C_alloc ?_ _) | (with_reducible refine Kd.C_drewN ?_ _) | (with_reducible refine Kd.C_drew ?_))); (case side2 => exact (Kd.R_reads' HO_229001.out).2.1); (case side3 => repeat (first | exact (Kd.R_reads' HO_218001.out).2.2 | (with_reducible refine Kd.C_alloc ?_ _) | (with_reducible refine Kd.C_drewN ?_ _) | (with_reducible refine Kd.C_drew ?_))); (case side4 => exact (Kd.R_reads' HO_218001.out).2.1); rintro e w81 ⟨rfl, hb⟩; have n0_ := Aside0.mk (Kd.R_below (by (with_reducible repeat (first | apply Kd.R_alloc | apply Kd.R_drewN | apply Kd.R_drew)); exact HO_218001.out) hb); have n1_ := Aside0.mk (Kd.R_below (by (with_reducible repeat (first | apply Kd.R_alloc | apply Kd.R_drewN | apply Kd.R_drew)); exact HO_223001.out) hb); have n2_ := Aside0.mk (Kd.R_below (by (with_reducible repeat (first | apply Kd.R_alloc | apply Kd.R_drewN | apply Kd.R_drew)); exact HO_229001.out) hb); have n3_ := Aside0.mk (Kd.R_below (by (with_reducible repeat (first | apply Kd.R_alloc | apply Kd.R_drewN | apply Kd.R_drew)); exact HO233.out) hb); have n4_ := Aside0.mk (blk_below (g := gb206) (o := .cells #[.int .i64 a0_0, .slice A0_1 l0_1.length c0_1] 59 (0, 0)) (by (with_reducible repeat (first | refine blk_drewN ?_ _ | refine blk_drew ?_ | refine blk_alloc ?_ _)); exact BK206.out) hb); have n5_ := Aside0.mk (blk_below (g := gb217) (o := .cells #[.int .i64 t212, .slice Ao23 t213.length co23] 48 (0, 0)) (by (with_reducible repeat (first | refine blk_drewN ?_ _ | refine blk_drew ?_ | refine blk_alloc ?_ _)); exact BK217.out) hb); have n6_ := Aside0.mk (blk_below (g := gb222) (o := .cells #[.int .i64 t218, .slice Ao30 t219.length co30] 48 (0, 0)) (by (with_reducible repeat (first | refine blk_drewN ?_ _ | refine blk_drew ?_ | refine blk_alloc ?_ _)); exact BK222.out) hb); have n7_ := Aside0.mk (blk_below (g := gb228) (o := .cells #[.int .i64 t223, .slice Ao37 t224.length co37] 48 (0, 0)) (by (with_reducible repeat (first | refine blk_drewN ?_ _ | refine blk_drew ?_ | refine blk_alloc ?_ _)); exact BK228.out) hb); have n8_ := Aside0.mk (below_step (by repeat (first | (with_reducible first | exact HB.out | apply bwA | apply bwN | apply bwD | refine below_set ?_ GE206.out | refine below_set ?_ GE217.out | refine below_set ?_ GE222.out | refine below_set ?_ GE228.out) | exact HB.out)) hb); clear HO_218001; clear HO_223001; clear HO_229001; clear HO233; clear BK206; clear BK217; clear BK222; clear BK228; clear HB; have HO_218001 := n0_; have HO_223001 := n1_; have HO_229001 := n2_; have HO233 := n3_; have BK206 := n4_; have BK217 := n5_; have BK222 := n6_; have BK228 := n7_; have HB := n8_; clear n0_ n1_ n2_ n3_ n4_ n5_ n6_ n7_ n8_; (try clear hb); (try clear hb2); (try clear hk); (try clear hi)))
         go_meet
         case rel => exact ⟨_, ((t227 != t216)), (by first | rfl | (simp; done) | (simp [*]; done)), H', ⟨by have := HJ11.out; first | omega | exact Nat.le_refl _⟩, ⟨by (with_reducible repeat (first | apply Kd.R_alloc | apply Kd.R_drewN | apply Kd.R_drew)); exact Kd.R_mono HO_218001.out (fun _ hk => ⟨hk.1, hk.2.1⟩)⟩, ⟨by (with_reducible repeat (first | apply Kd.R_alloc | apply Kd.R_drewN | apply Kd.R_drew)); exact Kd.R_mono HO_223001.out (fun _ hk => ⟨hk.1.1, hk.1.2⟩)⟩, ⟨by (with_reducible repeat (first | apply Kd.R_alloc | apply Kd.R_drewN | apply Kd.R_drew)); exact Kd.R_mono HO_229001.out (fun _ hk => ⟨hk.1, hk.2.1⟩)⟩, ⟨by (with_reducible repeat (first | refine blk_drewN ?_ _ | refine blk_drew ?_ | refine blk_alloc ?_ _)); exact BK206.out⟩, ⟨by (with_reducible repeat (first | refine blk_drewN ?_ _ | refine blk_drew ?_ | refine blk_alloc ?_ _)); exact BK217.out⟩, ⟨by (with_reducible repeat (first | refine blk_drewN ?_ _ | refine blk_drew ?_ | refine blk_alloc ?_ _)); exact BK222.out⟩, ⟨by (with_reducible repeat (first | refine blk_drewN ?_ _ | refine blk_drew ?_ | refine blk_alloc ?_ _)); exact BK228.out⟩, ⟨by repeat (first | (with_reducible first | exact HB.out | apply bwA | apply bwN | apply bwD | refine below_set ?_ GE206.out | refine below_set ?_ GE217.out | refine below_set ?_ GE222.out | refine below_set ?_ GE228.out) | exact HB.out)⟩⟩
        ·replace c73 := Bool.eq_false_iff.mpr c73
         subst c73
         have H1 : (laws_FnExactCompacted.j1 kj11 a1 t216 true a0_0 l0_1 t212 t213 t223 t224) = some r := by rw [if_neg (show ¬ (false = true) by decide)] at H; exact H
         clear H
         have H := H1
         clear H1
         have H' := Aside0.mk H
         clear H
         have hnb82 := NB228_206.out
         have hnc82 := NB206_228.out
         have hnb83 := NB228_217.out
         have hnc83 := NB217_228.out
         have hnb84 := NB228_222.out
         have hnc84 := NB222_228.out
         have hcz85_0 : w70.cell? ⟨gb228, 0, none⟩ = some (.int .i64 t223) := (blk_cell BK228.out 0).trans rfl
         have hcz85_1 : w70.cell? ⟨gb228, 1, none⟩ = some (.slice Ao37 t224.length co37) := (blk_cell BK228.out 1).trans rfl
         have hfz85_0 := blk_frozen BK228.out 0
         have hfz85_1 := blk_frozen BK228.out 1
         have hnb86 := NB217_206.out
         have hnc86 := NB206_217.out
         have hnb87 := NB217_222.out
         have hnc87 := NB222_217.out
         have hcz88_0 : w70.cell? ⟨gb217, 0, none⟩ = some (.int .i64 t212) := (blk_cell BK217.out 0).trans rfl
         have hcz88_1 : w70.cell? ⟨gb217, 1, none⟩ = some (.slice Ao23 t213.length co23) := (blk_cell BK217.out 1).trans rfl
         have hfz88_0 := blk_frozen BK217.out 0
         have hfz88_1 := blk_frozen BK217.out 1
         go_wp2_with (first | (go_at_call 39; (with_reducible refine (laws_eqDiagram.calls kj11 t223 _ _ t224 t212 _ _ t213 false _ ?side1 ?side2 ?side3 ?side4 A72.out).mono ?_); (case side1 => repeat (first | exact (Kd.R_reads' HO_229001.out).2.2 | (with_reducible refine Kd.C_alloc ?_ _) | (with_reducible refine Kd.C_drewN ?_ _) | (with_reducible refine Kd.C_drew ?_))); (case side2 => exact (Kd.R_reads' HO_229001.out).2.1); (case side3 => repeat (first | exact (Kd.R_reads' HO_218001.out).2.2 | (with_reducible refine Kd.C_alloc ?_ _) | (with_reducible refine Kd.C_drewN ?_ _) | (with_reducible refine Kd.C_drew ?_))); (case side4 => exact (Kd.R_reads' HO_218001.out).2.1); rintro e w89 ⟨rfl, hb⟩; have n0_ := Aside0.mk (Kd.R_below (by (with_reducible repeat (first | apply Kd.R_alloc | apply Kd.R_drewN | apply Kd.R_drew)); exact HO_218001.out) hb); have n1_ := Aside0.mk (Kd.R_below (by (with_reducible repeat (first | apply Kd.R_alloc | apply Kd.R_drewN | apply Kd.R_drew)); exact HO_223001.out) hb); have n2_ := Aside0.mk (Kd.R_below (by (with_reducible repeat (first | apply Kd.R_alloc | apply Kd.R_drewN | apply Kd.R_drew)); exact HO_229001.out) hb); have n3_ := Aside0.mk (Kd.R_below (by (with_reducible repeat (first | apply Kd.R_alloc | apply Kd.R_drewN | apply Kd.R_drew)); exact HO233.out) hb); have n4_ := Aside0.mk (blk_below (g := gb206) (o := .cells #[.int .i64 a0_0, .slice A0_1 l0_1.length c0_1] 59 (0, 0)) (by (with_reducible repeat (first | refine blk_drewN ?_ _ | refine blk_drew ?_ | refine blk_alloc ?_ _)); exact BK206.out) hb); have n5_ := Aside0.mk (blk_below (g := gb217) (o := .cells #[.int .i64 t212, .slice Ao23 t213.length co23] 48 (0, 0)) (by (with_reducible repeat (first | refine blk_drewN ?_ _ | refine blk_drew ?_ | refine blk_alloc ?_ _)); exact BK217.out) hb); have n6_ := Aside0.mk (blk_below (g := gb222) (o := .cells #[.int .i64 t218, .slice Ao30 t219.length co30] 48 (0, 0)) (by (with_reducible repeat (first | refine blk_drewN ?_ _ | refine blk_drew ?_ | refine blk_alloc ?_ _)); exact BK222.out) hb); have n7_ := Aside0.mk (blk_below (g := gb228) (o := .cells #[.int .i64 t223, .slice Ao37 t224.length co37] 48 (0, 0)) (by (with_reducible repeat (first | refine blk_drewN ?_ _ | refine blk_drew ?_ | refine blk_alloc ?_ _)); exact BK228.out) hb); have n8_ := Aside0.mk (below_step (by repeat (first | (with_reducible first | exact HB.out | apply bwA | apply bwN | apply bwD | refine below_set ?_ GE206.out | refine below_set ?_ GE217.out | refine below_set ?_ GE222.out | refine below_set ?_ GE228.out) | exact HB.out)) hb); clear HO_218001; clear HO_223001; clear HO_229001; clear HO233; clear BK206; clear BK217; clear BK222; clear BK228; clear HB; have HO_218001 := n0_; have HO_223001 := n1_; have HO_229001 := n2_; have HO233 := n3_; have BK206 := n4_; have BK217 := n5_; have BK222 := n6_; have BK228 := n7_; have HB := n8_; clear n0_ n1_ n2_ n3_ n4_ n5_ n6_ n7_ n8_; (try clear hb); (try clear hb2); (try clear hk); (try clear hi)))
         go_meet
         case rel => exact ⟨_, (true), (by first | rfl | (simp; done) | (simp [*]; done)), H', ⟨by have := HJ11.out; first | omega | exact Nat.le_refl _⟩, ⟨by (with_reducible repeat (first | apply Kd.R_alloc | apply Kd.R_drewN | apply Kd.R_drew)); exact Kd.R_mono HO_218001.out (fun _ hk => ⟨hk.1, hk.2.1⟩)⟩, ⟨by (with_reducible repeat (first | apply Kd.R_alloc | apply Kd.R_drewN | apply Kd.R_drew)); exact Kd.R_mono HO_223001.out (fun _ hk => ⟨hk.1.1, hk.1.2⟩)⟩, ⟨by (with_reducible repeat (first | apply Kd.R_alloc | apply Kd.R_drewN | apply Kd.R_drew)); exact Kd.R_mono HO_229001.out (fun _ hk => ⟨hk.1, hk.2.1⟩)⟩, ⟨by (with_reducible repeat (first | refine blk_drewN ?_ _ | refine blk_drew ?_ | refine blk_alloc ?_ _)); exact BK206.out⟩, ⟨by (with_reducible repeat (first | refine blk_drewN ?_ _ | refine blk_drew ?_ | refine blk_alloc ?_ _)); exact BK217.out⟩, ⟨by (with_reducible repeat (first | refine blk_drewN ?_ _ | refine blk_drew ?_ | refine blk_alloc ?_ _)); exact BK222.out⟩, ⟨by (with_reducible repeat (first | refine blk_drewN ?_ _ | refine blk_drew ?_ | refine blk_alloc ?_ _)); exact BK228.out⟩, ⟨by repeat (first | (with_reducible first | exact HB.out | apply bwA | apply bwN | apply bwD | refine below_set ?_ GE206.out | refine below_set ?_ GE217.out | refine below_set ?_ GE222.out | refine below_set ?_ GE228.out) | exact HB.out)⟩⟩
      case rest =>
       clear HC61
       try clear c2
       try clear p2
       try clear c3
       try clear c4
       try clear c4b0
       try clear c5
       try clear c6
       try clear c7
       try clear c8
       try clear c21
       try clear c27
       try clear c28
       try clear c33
       try clear c34
       try clear c35
       try clear c36
       try clear c37
       try clear c38
       try clear c39
       try clear c40
       try clear c41
       try clear c42
       try clear c44
       try clear c45
       try clear c48
       try clear c49
       try clear c50
       try clear c52
       try clear c53
       try clear c56
       try clear c59
       try clear c66
       try clear c67
       try clear c68
       try clear c71
       try clear c71b0
       try clear c73
       try clear c74
       try clear c75
       try clear c76
       try clear c78
       try clear c79
       try clear c82
       try clear c83
       try clear c84
       try clear c86
       try clear c87
       try clear hcz14_0
       try clear hcz14_1
       try clear hcz16_0
       try clear hcz16_1
       try clear hcz22_0
       try clear hcz22_1
       try clear hcz24_0
       try clear hcz24_1
       try clear hcz29_0
       try clear hcz29_1
       try clear hcz36_0
       try clear hcz36_1
       try clear hcz43_0
       try clear hcz43_1
       try clear hcz46_0
       try clear hcz46_1
       try clear hcz51_0
       try clear hcz51_1
       try clear hcz54_0
       try clear hcz54_1
       try clear hcz69_0
       try clear hcz69_1
       try clear hcz6_0
       try clear hcz6_1
       try clear hcz77_0
       try clear hcz77_1
       try clear hcz80_0
       try clear hcz80_1
       try clear hcz85_0
       try clear hcz85_1
       try clear hcz88_0
       try clear hcz88_1
       try clear hfz14_0
       try clear hfz14_1
       try clear hfz16_0
       try clear hfz16_1
       try clear hfz22_0
       try clear hfz22_1
       try clear hfz24_0
       try clear hfz24_1
       try clear hfz29_0
       try clear hfz29_1
       try clear hfz36_0
       try clear hfz36_1
       try clear hfz43_0
       try clear hfz43_1
       try clear hfz46_0
       try clear hfz46_1
       try clear hfz51_0
       try clear hfz51_1
       try clear hfz54_0
       try clear hfz54_1
       try clear hfz69_0
       try clear hfz69_1
       try clear hfz6_0
       try clear hfz6_1
       try clear hfz77_0
       try clear hfz77_1
       try clear hfz80_0
       try clear hfz80_1
       try clear hfz85_0
       try clear hfz85_1
       try clear hfz88_0
       try clear hfz88_1
       try clear p2
       obtain ⟨kq, x65_60, rfl, HA, HJ60, HO_218001, HO_223001, HO_229001, BK206, BK217, BK222, BK228, HB⟩ := hcut
       have hl223001_60 := (Kd.R_reads' HO_223001.out).1
       rw [hl223001_60] at HO_223001
       (try simp only [hl223001_60])
       (try simp only [hl223001_60] at BK206)
       (try simp only [hl223001_60] at BK217)
       (try simp only [hl223001_60] at BK222)
       (try simp only [hl223001_60] at BK228)
       (try simp only [hl223001_60] at HO_218001)
       (try simp only [hl223001_60] at HO_229001)
       cases kq with
       | zero => exact absurd HA.out (by simp [laws_FnExactCompacted.j1])
       | succ kj60 =>
        have H := HA.out
        clear HA
        simp only [laws_FnExactCompacted.j1] at H
        by_cases c90 : x65_60 = true
        ·subst c90
         have H1 : (some false) = some r := by rw [if_pos rfl] at H; exact H
         clear H
         have H := H1
         clear H1
         obtain rfl := Option.some.inj H
         go_wp2
         go_ret
         exact ⟨by first | rfl | (simp [errW_none, errW_some] <;> rfl) | (simp [*, errW_none, errW_some] <;> rfl), by repeat (first | (with_reducible first | exact HB.out | apply bwA | apply bwN | apply bwD | refine below_set ?_ GE206.out | refine below_set ?_ GE217.out | refine below_set ?_ GE222.out | refine below_set ?_ GE228.out) | exact HB.out)⟩
        ·replace c90 := Bool.eq_false_iff.mpr c90
         subst c90
         have H1 : ((laws_markDiagram.f kj60 t223 t224 1).bind fun bt238 => ((laws_heldDiagram.f kj60 t223 bt238.2 1).bind fun t240 => (if t240 < 0 then (some false) else (if t240 = bt238.1 then ((laws_toDiagram.f kj60 a0_0 l0_1).bind fun bt241 => ((impl_Compacted.f kj60 bt241.1 bt241.2 a1).bind fun bt245 => ((laws_eqDiagram.f kj60 bt245.1 bt245.2.1 t212 t213).bind fun t251 => (if t251 = true then (laws_FnExactCompacted.j2 kj60 bt238.1 (bt245.2.2 != t216) t223 bt238.2) else (laws_FnExactCompacted.j2 kj60 bt238.1 true t223 bt238.2))))) else (some false))))) = some r := by rw [if_neg (show ¬ (false = true) by decide)] at H; exact H
         clear H
         have H := H1
         clear H1
         replace H := Option.bind_eq_some_iff.mp H
         obtain ⟨⟨t238, t239⟩, A910, H⟩ := H
         replace H : ((laws_heldDiagram.f kj60 t223 t239 1).bind fun t240 => (if t240 < 0 then (some false) else (if t240 = t238 then ((laws_toDiagram.f kj60 a0_0 l0_1).bind fun bt241 => ((impl_Compacted.f kj60 bt241.1 bt241.2 a1).bind fun bt245 => ((laws_eqDiagram.f kj60 bt245.1 bt245.2.1 t212 t213).bind fun t251 => (if t251 = true then (laws_FnExactCompacted.j2 kj60 t238 (bt245.2.2 != t216) t223 t239) else (laws_FnExactCompacted.j2 kj60 t238 true t223 t239))))) else (some false)))) = some r := H
         have A91 := Aside0.mk A910
         clear A910
         replace H := Option.bind_eq_some_iff.mp H
         obtain ⟨t240, A920, H⟩ := H
         replace H : (if t240 < 0 then (some false) else (if t240 = t238 then ((laws_toDiagram.f kj60 a0_0 l0_1).bind fun bt241 => ((impl_Compacted.f kj60 bt241.1 bt241.2 a1).bind fun bt245 => ((laws_eqDiagram.f kj60 bt245.1 bt245.2.1 t212 t213).bind fun t251 => (if t251 = true then (laws_FnExactCompacted.j2 kj60 t238 (bt245.2.2 != t216) t223 t239) else (laws_FnExactCompacted.j2 kj60 t238 true t223 t239))))) else (some false))) = some r := H
         have A92 := Aside0.mk A920
         clear A920
         by_cases c93 : t240 < 0
         ·rw [if_pos c93] at H
          have c93b0 : decide (t240 < 0) = true := decide_eq_true c93
          clear c93
          obtain rfl := Option.some.inj H
          have hnb94 := NB228_206.out
          have hnc94 := NB206_228.out
          have hnb95 := NB228_217.out
          have hnc95 := NB217_228.out
          have hnb96 := NB228_222.out
          have hnc96 := NB222_228.out
          have hcz97_0 : wc.cell? ⟨gb228, 0, none⟩ = some (.int .i64 t223) := (blk_cell BK228.out 0).trans rfl
          have hcz97_1 : wc.cell? ⟨gb228, 1, none⟩ = some (.slice Ao37 t224.length co37) := (blk_cell BK228.out 1).trans rfl
          have hfz97_0 := blk_frozen BK228.out 0
          have hfz97_1 := blk_frozen BK228.out 1
          go_wp2_with (first | ((with_reducible refine gate_callee (f := 40) rfl ?_); refine goesL_ (some 68) rfl rfl Try.func40 (by kernel_rfl) rfl #[.agg #[.int .i64 t223, .slice Ao37 t224.length co37], .int .i64 1] rfl (by (try simp only [List.map_toArray, List.map_cons, List.map_nil]); first | done | rfl | (simp only [List.length_drop, List.length_take]; rfl)) ?_; (with_reducible refine (laws_markDiagram.calls kj60 t223 (fun k_ => some k_ = (.slice Ao37 t224.length co37 : Value).ownBlock) (.slice Ao37 t224.length co37) t224 1 t238 t239 w _ ?side1 ?side2 A91.out).mono ?_); (case side1 => repeat (first | (with_reducible first | exact HB.out | apply bwA | apply bwN | apply bwD | refine below_set ?_ GE206.out | refine below_set ?_ GE217.out | refine below_set ?_ GE222.out | refine below_set ?_ GE228.out) | exact HB.out)); (case side2 => exact Kd.R_tight rfl HO_229001.out); rintro e w98 ⟨rfl, hy0, hb, hkp⟩; refine ⟨_, rfl, ?_⟩; have n0_ := Aside0.mk (Kd.R_mono (ok' := fun k_ => some k_ ≠ (.slice Ao30 t236.length co30 : Value).ownBlock ∧ some k_ ≠ (.slice Ao37 t224.length co37 : Value).ownBlock) (Kd.R_keptB (HO_218001.out) hkp (fun k_ hk_ hs_ => (hk_.2) hs_)) (fun k_ hk_ => ⟨hk_.1.1, hk_.1.2⟩)); have n1_ := Aside0.mk (Kd.R_mono (ok' := fun k_ => some k_ ≠ (.slice Ao23 t213.length co23 : Value).ownBlock ∧ some k_ ≠ (.slice Ao37 t224.length co37 : Value).ownBlock) (Kd.R_keptB (HO_223001.out) hkp (fun k_ hk_ hs_ => (hk_.2) hs_)) (fun k_ hk_ => ⟨hk_.1.1, hk_.1.2⟩)); have n2_ := Aside0.mk (Kd.R_reok rfl hy0 (fun k_ e_ => HO_229001.out.1 k_ e_)); have n3_ := Aside0.mk (blk_kept (by (with_reducible repeat (first | refine blk_drewN ?_ _ | refine blk_drew ?_ | refine blk_alloc ?_ _)); exact BK206.out) hkp (fun hs_ => (fun e_ => (Kd.R_ne HO_229001.out BK206.out (by decide)) e_) hs_)); have n4_ := Aside0.mk (blk_kept (by (with_reducible repeat (first | refine blk_drewN ?_ _ | refine blk_drew ?_ | refine blk_alloc ?_ _)); exact BK217.out) hkp (fun hs_ => (fun e_ => (Kd.R_ne HO_229001.out BK217.out (by decide)) e_) hs_)); have n5_ := Aside0.mk (blk_kept (by (with_reducible repeat (first | refine blk_drewN ?_ _ | refine blk_drew ?_ | refine blk_alloc ?_ _)); exact BK222.out) hkp (fun hs_ => (fun e_ => (Kd.R_ne HO_229001.out BK222.out (by decide)) e_) hs_)); have n6_ := Aside0.mk (blk_kept (by (with_reducible repeat (first | refine blk_drewN ?_ _ | refine blk_drew ?_ | refine blk_alloc ?_ _)); exact BK228.out) hkp (fun hs_ => (fun e_ => (Kd.R_ne HO_229001.out BK228.out (by decide)) e_) hs_)); have n7_ := Aside0.mk (hb); clear HO_218001; clear HO_223001; clear HO_229001; clear BK206; clear BK217; clear BK222; clear BK228; clear HB; have HO_218001 := n0_; have HO_223001 := n1_; have HO_229001 := n2_; have BK206 := n3_; have BK217 := n4_; have BK222 := n5_; have BK228 := n6_; have HB := n7_; clear n0_ n1_ n2_ n3_ n4_ n5_ n6_ n7_; (try clear hb); (try clear hkp); (try clear hy0); have hcz99_0 : w98.cell? ⟨gb228, 0, none⟩ = some (.int .i64 t223) := (blk_cell BK228.out 0).trans rfl; have hcz99_1 : w98.cell? ⟨gb228, 1, none⟩ = some (.slice Ao37 t224.length co37) := (blk_cell BK228.out 1).trans rfl; have hfz99_0 := blk_frozen BK228.out 0; have hfz99_1 := blk_frozen BK228.out 1) | ((with_reducible refine gate_callee (f := 41) rfl ?_); refine goesL_ (some 71) rfl rfl Try.func41 (by kernel_rfl) rfl #[.agg #[.int .i64 t223, .slice Ao37 t239.length co37], .int .i64 1] rfl (by (try simp only [List.map_toArray, List.map_cons, List.map_nil]); first | done | (rw [show t239.length = t224.length from (Kd.R_reads' HO_229001.out).1.symm] <;> rfl) | rfl | (simp only [List.length_drop, List.length_take]; rfl)) ?_; (with_reducible refine (laws_heldDiagram.calls kj60 t223 _ _ t239 1 t240 _ ?side1 ?side2 A92.out).mono ?_); (case side1 => repeat (first | exact (Kd.R_reads' HO_229001.out).2.2 | (with_reducible refine Kd.C_alloc ?_ _) | (with_reducible refine Kd.C_drewN ?_ _) | (with_reducible refine Kd.C_drew ?_))); (case side2 => rw [show t239.length = t224.length from (Kd.R_reads' HO_229001.out).1.symm]; exact (Kd.R_reads' HO_229001.out).2.1); rintro e w100 ⟨rfl, hb⟩; refine ⟨_, rfl, ?_⟩; have n0_ := Aside0.mk (Kd.R_below (by (with_reducible repeat (first | apply Kd.R_alloc | apply Kd.R_drewN | apply Kd.R_drew)); exact HO_218001.out) hb); have n1_ := Aside0.mk (Kd.R_below (by (with_reducible repeat (first | apply Kd.R_alloc | apply Kd.R_drewN | apply Kd.R_drew)); exact HO_223001.out) hb); have n2_ := Aside0.mk (Kd.R_below (by (with_reducible repeat (first | apply Kd.R_alloc | apply Kd.R_drewN | apply Kd.R_drew)); exact HO_229001.out) hb); have n3_ := Aside0.mk (blk_below (g := gb206) (o := .cells #[.int .i64 a0_0, .slice A0_1 l0_1.length c0_1] 59 (0, 0)) (by (with_reducible repeat (first | refine blk_drewN ?_ _ | refine blk_drew ?_ | refine blk_alloc ?_ _)); exact BK206.out) hb); have n4_ := Aside0.mk (blk_below (g := gb217) (o := .cells #[.int .i64 t212, .slice Ao23 t213.length co23] 48 (0, 0)) (by (with_reducible repeat (first | refine blk_drewN ?_ _ | refine blk_drew ?_ | refine blk_alloc ?_ _)); exact BK217.out) hb); have n5_ := Aside0.mk (blk_below (g := gb222) (o := .cells #[.int .i64 t218, .slice Ao30 t236.length co30] 48 (0, 0)) (by (with_reducible repeat (first | refine blk_drewN ?_ _ | refine blk_drew ?_ | refine blk_alloc ?_ _)); exact BK222.out) hb); have n6_ := Aside0.mk (blk_below (g := gb228) (o := .cells #[.int .i64 t223, .slice Ao37 t224.length co37] 48 (0, 0)) (by (with_reducible repeat (first | refine blk_drewN ?_ _ | refine blk_drew ?_ | refine blk_alloc ?_ _)); exact BK228.out) hb); have n7_ := Aside0.mk (below_step (by repeat (first | (with_reducible first | exact HB.out | apply bwA | apply bwN | apply bwD | refine below_set ?_ GE206.out | refine below_set ?_ GE217.out | refine below_set ?_ GE222.out | refine below_set ?_ GE228.out) | exact HB.out)) hb); clear HO_218001; clear HO_223001; clear HO_229001; clear BK206; clear BK217; clear BK222; clear BK228; clear HB; have HO_218001 := n0_; have HO_223001 := n1_; have HO_229001 := n2_; have BK206 := n3_; have BK217 := n4_; have BK222 := n5_; have BK228 := n6_; have HB := n7_; clear n0_ n1_ n2_ n3_ n4_ n5_ n6_ n7_; (try clear hb); (try clear hb2); (try clear hk); (try clear hi)))
          go_ret
          exact ⟨by first | rfl | (simp [errW_none, errW_some] <;> rfl) | (simp [*, errW_none, errW_some] <;> rfl), by repeat (first | (with_reducible first | exact HB.out | apply bwA | apply bwN | apply bwD | refine below_set ?_ GE206.out | refine below_set ?_ GE217.out | refine below_set ?_ GE222.out | refine below_set ?_ GE228.out) | exact HB.out)⟩
         ·rw [if_neg c93] at H
          have c93b0 : decide (t240 < 0) = false := decide_eq_false c93
          clear c93
          by_cases c101 : t240 = t238
          ·rw [if_pos c101] at H
           have c101b0 : (t240 == t238) = true := beq_iff_eq.mpr c101
           have c101b1 : (t240 != t238) = false := bne_eq_false_iff_eq.mpr c101
           clear c101
           replace H := Option.bind_eq_some_iff.mp H
           obtain ⟨⟨t241, t242⟩, A1020, H⟩ := H
           replace H : ((impl_Compacted.f kj60 t241 t242 a1).bind fun bt245 => ((laws_eqDiagram.f kj60 bt245.1 bt245.2.1 t212 t213).bind fun t251 => (if t251 = true then (laws_FnExactCompacted.j2 kj60 t238 (bt245.2.2 != t216) t223 t239) else (laws_FnExactCompacted.j2 kj60 t238 true t223 t239)))) = some r := H
           have A102 := Aside0.mk A1020
           clear A1020
           replace H := Option.bind_eq_some_iff.mp H
           obtain ⟨⟨t245, t246, t249⟩, A1030, H⟩ := H
           replace H : ((laws_eqDiagram.f kj60 t245 t246 t212 t213).bind fun t251 => (if t251 = true then (laws_FnExactCompacted.j2 kj60 t238 (t249 != t216) t223 t239) else (laws_FnExactCompacted.j2 kj60 t238 true t223 t239))) = some r := H
           have A103 := Aside0.mk A1030
           clear A1030
           have HC104 := Aside0.mk H
           clear H
           have hnb105 := NB228_206.out
           have hnc105 := NB206_228.out
           have hnb106 := NB228_217.out
           have hnc106 := NB217_228.out
           have hnb107 := NB228_222.out
           have hnc107 := NB222_228.out
           have hcz108_0 : wc.cell? ⟨gb228, 0, none⟩ = some (.int .i64 t223) := (blk_cell BK228.out 0).trans rfl
           have hcz108_1 : wc.cell? ⟨gb228, 1, none⟩ = some (.slice Ao37 t224.length co37) := (blk_cell BK228.out 1).trans rfl
           have hfz108_0 := blk_frozen BK228.out 0
           have hfz108_1 := blk_frozen BK228.out 1
           go_upto_region 25 with (first | ((with_reducible refine gate_callee (f := 40) rfl ?_); refine goesL_ (some 68) rfl rfl Try.func40 (by kernel_rfl) rfl #[.agg #[.int .i64 t223, .slice Ao37 t224.length co37], .int .i64 1] rfl (by (try simp only [List.map_toArray, List.map_cons, List.map_nil]); first | done | rfl | (simp only [List.length_drop, List.length_take]; rfl)) ?_; (with_reducible refine (laws_markDiagram.calls kj60 t223 (fun k_ => some k_ = (.slice Ao37 t224.length co37 : Value).ownBlock) (.slice Ao37 t224.length co37) t224 1 t238 t239 w _ ?side1 ?side2 A91.out).mono ?_); (case side1 => repeat (first | (with_reducible first | exact HB.out | apply bwA | apply bwN | apply bwD | refine below_set ?_ GE206.out | refine below_set ?_ GE217.out | refine below_set ?_ GE222.out | refine below_set ?_ GE228.out) | exact HB.out)); (case side2 => exact Kd.R_tight rfl HO_229001.out); rintro e w109 ⟨rfl, hy0, hb, hkp⟩; refine ⟨_, rfl, ?_⟩; have n0_ := Aside0.mk (Kd.R_mono (ok' := fun k_ => some k_ ≠ (.slice Ao30 t236.length co30 : Value).ownBlock ∧ some k_ ≠ (.slice Ao37 t224.length co37 : Value).ownBlock) (Kd.R_keptB (HO_218001.out) hkp (fun k_ hk_ hs_ => (hk_.2) hs_)) (fun k_ hk_ => ⟨hk_.1.1, hk_.1.2⟩)); have n1_ := Aside0.mk (Kd.R_mono (ok' := fun k_ => some k_ ≠ (.slice Ao23 t213.length co23 : Value).ownBlock ∧ some k_ ≠ (.slice Ao37 t224.length co37 : Value).ownBlock) (Kd.R_keptB (HO_223001.out) hkp (fun k_ hk_ hs_ => (hk_.2) hs_)) (fun k_ hk_ => ⟨hk_.1.1, hk_.1.2⟩)); have n2_ := Aside0.mk (Kd.R_reok rfl hy0 (fun k_ e_ => HO_229001.out.1 k_ e_)); have n3_ := Aside0.mk (blk_kept (by (with_reducible repeat (first | refine blk_drewN ?_ _ | refine blk_drew ?_ | refine blk_alloc ?_ _)); exact BK206.out) hkp (fun hs_ => (fun e_ => (Kd.R_ne HO_229001.out BK206.out (by decide)) e_) hs_)); have n4_ := Aside0.mk (blk_kept (by (with_reducible repeat (first | refine blk_drewN ?_ _ | refine blk_drew ?_ | refine blk_alloc ?_ _)); exact BK217.out) hkp (fun hs_ => (fun e_ => (Kd.R_ne HO_229001.out BK217.out (by decide)) e_) hs_)); have n5_ := Aside0.mk (blk_kept (by (with_reducible repeat (first | refine blk_drewN ?_ _ | refine blk_drew ?_ | refine blk_alloc ?_ _)); exact BK222.out) hkp (fun hs_ => (fun e_ => (Kd.R_ne HO_229001.out BK222.out (by decide)) e_) hs_)); have n6_ := Aside0.mk (blk_kept (by (with_reducible repeat (first | refine blk_drewN ?_ _ | refine blk_drew ?_ | refine blk_alloc ?_ _)); exact BK228.out) hkp (fun hs_ => (fun e_ => (Kd.R_ne HO_229001.out BK228.out (by decide)) e_) hs_)); have n7_ := Aside0.mk (hb); clear HO_218001; clear HO_223001; clear HO_229001; clear BK206; clear BK217; clear BK222; clear BK228; clear HB; have HO_218001 := n0_; have HO_223001 := n1_; have HO_229001 := n2_; have BK206 := n3_; have BK217 := n4_; have BK222 := n5_; have BK228 := n6_; have HB := n7_; clear n0_ n1_ n2_ n3_ n4_ n5_ n6_ n7_; (try clear hb); (try clear hkp); (try clear hy0); have hcz110_0 : w109.cell? ⟨gb228, 0, none⟩ = some (.int .i64 t223) := (blk_cell BK228.out 0).trans rfl; have hcz110_1 : w109.cell? ⟨gb228, 1, none⟩ = some (.slice Ao37 t224.length co37) := (blk_cell BK228.out 1).trans rfl; have hfz110_0 := blk_frozen BK228.out 0; have hfz110_1 := blk_frozen BK228.out 1) | ((with_reducible refine gate_callee (f := 41) rfl ?_); refine goesL_ (some 71) rfl rfl Try.func41 (by kernel_rfl) rfl #[.agg #[.int .i64 t223, .slice Ao37 t239.length co37], .int .i64 1] rfl (by (try simp only [List.map_toArray, List.map_cons, List.map_nil]); first | done | (rw [show t239.length = t224.length from (Kd.R_reads' HO_229001.out).1.symm] <;> rfl) | rfl | (simp only [List.length_drop, List.length_take]; rfl)) ?_; (with_reducible refine (laws_heldDiagram.calls kj60 t223 _ _ t239 1 t240 _ ?side1 ?side2 A92.out).mono ?_); (case side1 => repeat (first | exact (Kd.R_reads' HO_229001.out).2.2 | (with_reducible refine Kd.C_alloc ?_ _) | (with_reducible refine Kd.C_drewN ?_ _) | (with_reducible refine Kd.C_drew ?_))); (case side2 => rw [show t239.length = t224.length from (Kd.R_reads' HO_229001.out).1.symm]; exact (Kd.R_reads' HO_229001.out).2.1); rintro e w111 ⟨rfl, hb⟩; refine ⟨_, rfl, ?_⟩; have n0_ := Aside0.mk (Kd.R_below (by (with_reducible repeat (first | apply Kd.R_alloc | apply Kd.R_drewN | apply Kd.R_drew)); exact HO_218001.out) hb); have n1_ := Aside0.mk (Kd.R_below (by (with_reducible repeat (first | apply Kd.R_alloc | apply Kd.R_drewN | apply Kd.R_drew)); exact HO_223001.out) hb); have n2_ := Aside0.mk (Kd.R_below (by (with_reducible repeat (first | apply Kd.R_alloc | apply Kd.R_drewN | apply Kd.R_drew)); exact HO_229001.out) hb); have n3_ := Aside0.mk (blk_below (g := gb206) (o := .cells #[.int .i64 a0_0, .slice A0_1 l0_1.length c0_1] 59 (0, 0)) (by (with_reducible repeat (first | refine blk_drewN ?_ _ | refine blk_drew ?_ | refine blk_alloc ?_ _)); exact BK206.out) hb); have n4_ := Aside0.mk (blk_below (g := gb217) (o := .cells #[.int .i64 t212, .slice Ao23 t213.length co23] 48 (0, 0)) (by (with_reducible repeat (first | refine blk_drewN ?_ _ | refine blk_drew ?_ | refine blk_alloc ?_ _)); exact BK217.out) hb); have n5_ := Aside0.mk (blk_below (g := gb222) (o := .cells #[.int .i64 t218, .slice Ao30 t236.length co30] 48 (0, 0)) (by (with_reducible repeat (first | refine blk_drewN ?_ _ | refine blk_drew ?_ | refine blk_alloc ?_ _)); exact BK222.out) hb); have n6_ := Aside0.mk (blk_below (g := gb228) (o := .cells #[.int .i64 t223, .slice Ao37 t224.length co37] 48 (0, 0)) (by (with_reducible repeat (first | refine blk_drewN ?_ _ | refine blk_drew ?_ | refine blk_alloc ?_ _)); exact BK228.out) hb); have n7_ := Aside0.mk (below_step (by repeat (first | (with_reducible first | exact HB.out | apply bwA | apply bwN | apply bwD | refine below_set ?_ GE206.out | refine below_set ?_ GE217.out | refine below_set ?_ GE222.out | refine below_set ?_ GE228.out) | exact HB.out)) hb); clear HO_218001; clear HO_223001; clear HO_229001; clear BK206; clear BK217; clear BK222; clear BK228; clear HB; have HO_218001 := n0_; have HO_223001 := n1_; have HO_229001 := n2_; have BK206 := n3_; have BK217 := n4_; have BK222 := n5_; have BK228 := n6_; have HB := n7_; clear n0_ n1_ n2_ n3_ n4_ n5_ n6_ n7_; (try clear hb); (try clear hb2); (try clear hk); (try clear hi); have hnb112 := NB206_217.out; have hnc112 := NB217_206.out; have hnb113 := NB206_222.out; have hnc113 := NB222_206.out; have hcz114_0 : w111.cell? ⟨gb206, 0, none⟩ = some (.int .i64 a0_0) := (blk_cell BK206.out 0).trans rfl; have hcz114_1 : w111.cell? ⟨gb206, 1, none⟩ = some (.slice A0_1 l0_1.length c0_1) := (blk_cell BK206.out 1).trans rfl; have hfz114_0 := blk_frozen BK206.out 0; have hfz114_1 := blk_frozen BK206.out 1) | ((with_reducible refine gate_callee (f := 38) rfl ?_); refine goesL_ (some 79) rfl rfl Try.func38 (by kernel_rfl) rfl #[.agg #[.int .i64 a0_0, .slice A0_1 l0_1.length c0_1]] rfl (by (try simp only [List.map_toArray, List.map_cons, List.map_nil]); first | done | rfl | (simp only [List.length_drop, List.length_take]; rfl)) ?_; (with_reducible refine (laws_toDiagram.calls kj60 a0_0 _ _ l0_1 t241 t242 _ ?side1 ?side2 A102.out).mono ?_); (case side1 => repeat (first | exact (Kd.C_below HR0_1.out HB.out) | (with_reducible refine Kd.C_alloc ?_ _) | (with_reducible refine Kd.C_drewN ?_ _) | (with_reducible refine Kd.C_drew ?_))); (case side2 => exact HC0_1.out); rintro e w115 ⟨v243, rfl, ho0, hb⟩; refine ⟨_, rfl, ?_⟩; have n0_ := Aside0.mk (Kd.R_elder' (by (with_reducible repeat (first | apply Kd.R_alloc | apply Kd.R_drewN | apply Kd.R_drew)); exact HO_218001.out) (Kd.R_base ho0) hb); have n1_ := Aside0.mk (Kd.R_elder' (by (with_reducible repeat (first | apply Kd.R_alloc | apply Kd.R_drewN | apply Kd.R_drew)); exact HO_223001.out) (Kd.R_base ho0) hb); have n2_ := Aside0.mk (Kd.R_elder' (by (with_reducible repeat (first | apply Kd.R_alloc | apply Kd.R_drewN | apply Kd.R_drew)); exact HO_229001.out) (Kd.R_base ho0) hb); have n3_ := Aside0.mk (Kd.R_lower (Kd.R_new' (Kd.R_new' (Kd.R_new' ho0 (Kd.R_lt (by (with_reducible repeat (first | apply Kd.R_alloc | apply Kd.R_drewN | apply Kd.R_drew)); exact HO_218001.out))) (Kd.R_lt (by (with_reducible repeat (first | apply Kd.R_alloc | apply Kd.R_drewN | apply Kd.R_drew)); exact HO_223001.out))) (Kd.R_lt (by (with_reducible repeat (first | apply Kd.R_alloc | apply Kd.R_drewN | apply Kd.R_drew)); exact HO_229001.out))) (below_size (by repeat (first | (with_reducible first | exact HB.out | apply bwA | apply bwN | apply bwD | refine below_set ?_ GE206.out | refine below_set ?_ GE217.out | refine below_set ?_ GE222.out | refine below_set ?_ GE228.out) | exact HB.out)))); have n4_ := Aside0.mk (blk_below (g := gb206) (o := .cells #[.int .i64 a0_0, .slice A0_1 l0_1.length c0_1] 59 (0, 0)) (by (with_reducible repeat (first | refine blk_drewN ?_ _ | refine blk_drew ?_ | refine blk_alloc ?_ _)); exact BK206.out) hb); have n5_ := Aside0.mk (blk_below (g := gb217) (o := .cells #[.int .i64 t212, .slice Ao23 t213.length co23] 48 (0, 0)) (by (with_reducible repeat (first | refine blk_drewN ?_ _ | refine blk_drew ?_ | refine blk_alloc ?_ _)); exact BK217.out) hb); have n6_ := Aside0.mk (blk_below (g := gb222) (o := .cells #[.int .i64 t218, .slice Ao30 t236.length co30] 48 (0, 0)) (by (with_reducible repeat (first | refine blk_drewN ?_ _ | refine blk_drew ?_ | refine blk_alloc ?_ _)); exact BK222.out) hb); have n7_ := Aside0.mk (blk_below (g := gb228) (o := .cells #[.int .i64 t223, .slice Ao37 t224.length co37] 48 (0, 0)) (by (with_reducible repeat (first | refine blk_drewN ?_ _ | refine blk_drew ?_ | refine blk_alloc ?_ _)); exact BK228.out) hb); have n8_ := Aside0.mk (below_step (by repeat (first | (with_reducible first | exact HB.out | apply bwA | apply bwN | apply bwD | refine below_set ?_ GE206.out | refine below_set ?_ GE217.out | refine below_set ?_ GE222.out | refine below_set ?_ GE228.out) | exact HB.out)) hb); clear HO_218001; clear HO_223001; clear HO_229001; clear BK206; clear BK217; clear BK222; clear BK228; clear HB; have HO_218001 := n0_; have HO_223001 := n1_; have HO_229001 := n2_; have HO244 := n3_; have BK206 := n4_; have BK217 := n5_; have BK222 := n6_; have BK228 := n7_; have HB := n8_; clear n0_ n1_ n2_ n3_ n4_ n5_ n6_ n7_ n8_; (try clear hb); (try clear hb2); (try clear hk); (try clear hi); (try clear ho0); obtain ⟨Ao116, co116, eo116⟩ := Kd.R_slice HO244.out; subst eo116) | ((with_reducible refine gate_callee (f := 34) rfl ?_); refine goesL_ (some 81) rfl rfl Try.func34 (by kernel_rfl) rfl #[.agg #[.int .i64 t241, .slice Ao116 t242.length co116], .int .i64 a1] rfl (by (try simp only [List.map_toArray, List.map_cons, List.map_nil]); first | done | rfl | (simp only [List.length_drop, List.length_take]; rfl)) ?_; (with_reducible refine (impl_Compacted.calls kj60 t241 _ _ t242 a1 t245 t246 t249 _ ?side1 ?side2 A103.out).mono ?_); (case side1 => repeat (first | exact (Kd.R_reads' HO244.out).2.2 | (with_reducible refine Kd.C_alloc ?_ _) | (with_reducible refine Kd.C_drewN ?_ _) | (with_reducible refine Kd.C_drew ?_))); (case side2 => exact (Kd.R_reads' HO244.out).2.1); rintro e w117 ⟨v247, rfl, ho0, hb⟩; refine ⟨_, rfl, ?_⟩; have n0_ := Aside0.mk (Kd.R_elder' (by (with_reducible repeat (first | apply Kd.R_alloc | apply Kd.R_drewN | apply Kd.R_drew)); exact HO_218001.out) (Kd.R_base ho0) hb); have n1_ := Aside0.mk (Kd.R_elder' (by (with_reducible repeat (first | apply Kd.R_alloc | apply Kd.R_drewN | apply Kd.R_drew)); exact HO_223001.out) (Kd.R_base ho0) hb); have n2_ := Aside0.mk (Kd.R_elder' (by (with_reducible repeat (first | apply Kd.R_alloc | apply Kd.R_drewN | apply Kd.R_drew)); exact HO_229001.out) (Kd.R_base ho0) hb); have n3_ := Aside0.mk (Kd.R_elder' (by (with_reducible repeat (first | apply Kd.R_alloc | apply Kd.R_drewN | apply Kd.R_drew)); exact HO244.out) (Kd.R_base ho0) hb); have n4_ := Aside0.mk (Kd.R_lower (Kd.R_new' (Kd.R_new' (Kd.R_new' (Kd.R_new' ho0 (Kd.R_lt (by (with_reducible repeat (first | apply Kd.R_alloc | apply Kd.R_drewN | apply Kd.R_drew)); exact HO_218001.out))) (Kd.R_lt (by (with_reducible repeat (first | apply Kd.R_alloc | apply Kd.R_drewN | apply Kd.R_drew)); exact HO_223001.out))) (Kd.R_lt (by (with_reducible repeat (first | apply Kd.R_alloc | apply Kd.R_drewN | apply Kd.R_drew)); exact HO_229001.out))) (Kd.R_lt (by (with_reducible repeat (first | apply Kd.R_alloc | apply Kd.R_drewN | apply Kd.R_drew)); exact HO244.out))) (below_size (by repeat (first | (with_reducible first | exact HB.out | apply bwA | apply bwN | apply bwD | refine below_set ?_ GE206.out | refine below_set ?_ GE217.out | refine below_set ?_ GE222.out | refine below_set ?_ GE228.out) | exact HB.out)))); have n5_ := Aside0.mk (blk_below (g := gb206) (o := .cells #[.int .i64 a0_0, .slice A0_1 l0_1.length c0_1] 59 (0, 0)) (by (with_reducible repeat (first | refine blk_drewN ?_ _ | refine blk_drew ?_ | refine blk_alloc ?_ _)); exact BK206.out) hb); have n6_ := Aside0.mk (blk_below (g := gb217) (o := .cells #[.int .i64 t212, .slice Ao23 t213.length co23] 48 (0, 0)) (by (with_reducible repeat (first | refine blk_drewN ?_ _ | refine blk_drew ?_ | refine blk_alloc ?_ _)); exact BK217.out) hb); have n7_ := Aside0.mk (blk_below (g := gb222) (o := .cells #[.int .i64 t218, .slice Ao30 t236.length co30] 48 (0, 0)) (by (with_reducible repeat (first | refine blk_drewN ?_ _ | refine blk_drew ?_ | refine blk_alloc ?_ _)); exact BK222.out) hb); have n8_ := Aside0.mk (blk_below (g := gb228) (o := .cells #[.int .i64 t223, .slice Ao37 t224.length co37] 48 (0, 0)) (by (with_reducible repeat (first | refine blk_drewN ?_ _ | refine blk_drew ?_ | refine blk_alloc ?_ _)); exact BK228.out) hb); have n9_ := Aside0.mk (below_step (by repeat (first | (with_reducible first | exact HB.out | apply bwA | apply bwN | apply bwD | refine below_set ?_ GE206.out | refine below_set ?_ GE217.out | refine below_set ?_ GE222.out | refine below_set ?_ GE228.out) | exact HB.out)) hb); clear HO_218001; clear HO_223001; clear HO_229001; clear HO244; clear BK206; clear BK217; clear BK222; clear BK228; clear HB; have HO_218001 := n0_; have HO_223001 := n1_; have HO_229001 := n2_; have HO244 := n3_; have HO248 := n4_; have BK206 := n5_; have BK217 := n6_; have BK222 := n7_; have BK228 := n8_; have HB := n9_; clear n0_ n1_ n2_ n3_ n4_ n5_ n6_ n7_ n8_ n9_; (try clear hb); (try clear hb2); (try clear hk); (try clear hi); (try clear ho0)) | ((with_reducible refine gate_dst (N := 14) rfl ?_); refine box_event ?hg (N := 14) ?hd (cs := #[.int .i64 0, .slice none 0 0]) (t := 48) ?hr ?_; (case hd => rfl); (case hg => rfl); (case hr => first | (go_simp; done) | (go_simp; rfl)); intro gb250 hg w118 hbox hb; have n0_ := Aside0.mk (Kd.R_below (by (with_reducible repeat (first | apply Kd.R_alloc | apply Kd.R_drewN | apply Kd.R_drew)); exact HO_218001.out) hb); have n1_ := Aside0.mk (Kd.R_below (by (with_reducible repeat (first | apply Kd.R_alloc | apply Kd.R_drewN | apply Kd.R_drew)); exact HO_223001.out) hb); have n2_ := Aside0.mk (Kd.R_below (by (with_reducible repeat (first | apply Kd.R_alloc | apply Kd.R_drewN | apply Kd.R_drew)); exact HO_229001.out) hb); have n3_ := Aside0.mk (Kd.R_below (by (with_reducible repeat (first | apply Kd.R_alloc | apply Kd.R_drewN | apply Kd.R_drew)); exact HO244.out) hb); have n4_ := Aside0.mk (Kd.R_below (by (with_reducible repeat (first | apply Kd.R_alloc | apply Kd.R_drewN | apply Kd.R_drew)); exact HO248.out) hb); have n5_ := Aside0.mk (blk_below (g := gb206) (o := .cells #[.int .i64 a0_0, .slice A0_1 l0_1.length c0_1] 59 (0, 0)) (by (with_reducible repeat (first | refine blk_drewN ?_ _ | refine blk_drew ?_ | refine blk_alloc ?_ _)); exact BK206.out) hb); have n6_ := Aside0.mk (blk_below (g := gb217) (o := .cells #[.int .i64 t212, .slice Ao23 t213.length co23] 48 (0, 0)) (by (with_reducible repeat (first | refine blk_drewN ?_ _ | refine blk_drew ?_ | refine blk_alloc ?_ _)); exact BK217.out) hb); have n7_ := Aside0.mk (blk_below (g := gb222) (o := .cells #[.int .i64 t218, .slice Ao30 t236.length co30] 48 (0, 0)) (by (with_reducible repeat (first | refine blk_drewN ?_ _ | refine blk_drew ?_ | refine blk_alloc ?_ _)); exact BK222.out) hb); have n8_ := Aside0.mk (blk_below (g := gb228) (o := .cells #[.int .i64 t223, .slice Ao37 t224.length co37] 48 (0, 0)) (by (with_reducible repeat (first | refine blk_drewN ?_ _ | refine blk_drew ?_ | refine blk_alloc ?_ _)); exact BK228.out) hb); have n9_ := Aside0.mk (below_step (by repeat (first | (with_reducible first | exact HB.out | apply bwA | apply bwN | apply bwD | refine below_set ?_ GE206.out | refine below_set ?_ GE217.out | refine below_set ?_ GE222.out | refine below_set ?_ GE228.out) | exact HB.out)) hb); have n10_ := Aside0.mk (hbox); have n11_ := Aside0.mk ((by rw [hg]; exact (below_size (by repeat (first | (with_reducible first | exact HB.out | apply bwA | apply bwN | apply bwD | refine below_set ?_ GE206.out | refine below_set ?_ GE217.out | refine below_set ?_ GE222.out | refine below_set ?_ GE228.out) | exact HB.out))) : w.heap.size ≤ gb250)); have n12_ := Aside0.mk ((by rw [hg]; exact (below_size (by repeat (first | (with_reducible first | exact HB.out | apply bwA | apply bwN | apply bwD | refine below_set ?_ GE206.out | refine below_set ?_ GE217.out | refine below_set ?_ GE222.out | refine below_set ?_ GE228.out) | exact HB.out))) : w.heap.size ≤ gb250)); have n13_ := Aside0.mk ((by rw [hg]; exact Nat.ne_of_lt (blk_lt (g := gb206) (o := .cells #[.int .i64 a0_0, .slice A0_1 l0_1.length c0_1] 59 (0, 0)) (by (with_reducible repeat (first | refine blk_drewN ?_ _ | refine blk_drew ?_ | refine blk_alloc ?_ _)); exact BK206.out)) : gb206 ≠ gb250)); have n14_ := Aside0.mk ((by rw [hg]; exact Nat.ne_of_gt (blk_lt (g := gb206) (o := .cells #[.int .i64 a0_0, .slice A0_1 l0_1.length c0_1] 59 (0, 0)) (by (with_reducible repeat (first | refine blk_drewN ?_ _ | refine blk_drew ?_ | refine blk_alloc ?_ _)); exact BK206.out)) : gb250 ≠ gb206)); have n15_ := Aside0.mk ((by rw [hg]; exact Nat.ne_of_lt (blk_lt (g := gb217) (o := .cells #[.int .i64 t212, .slice Ao23 t213.length co23] 48 (0, 0)) (by (with_reducible repeat (first | refine blk_drewN ?_ _ | refine blk_drew ?_ | refine blk_alloc ?_ _)); exact BK217.out)) : gb217 ≠ gb250)); have n16_ := Aside0.mk ((by rw [hg]; exact Nat.ne_of_gt (blk_lt (g := gb217) (o := .cells #[.int .i64 t212, .slice Ao23 t213.length co23] 48 (0, 0)) (by (with_reducible repeat (first | refine blk_drewN ?_ _ | refine blk_drew ?_ | refine blk_alloc ?_ _)); exact BK217.out)) : gb250 ≠ gb217)); have n17_ := Aside0.mk ((by rw [hg]; exact Nat.ne_of_lt (blk_lt (g := gb222) (o := .cells #[.int .i64 t218, .slice Ao30 t236.length co30] 48 (0, 0)) (by (with_reducible repeat (first | refine blk_drewN ?_ _ | refine blk_drew ?_ | refine blk_alloc ?_ _)); exact BK222.out)) : gb222 ≠ gb250)); have n18_ := Aside0.mk ((by rw [hg]; exact Nat.ne_of_gt (blk_lt (g := gb222) (o := .cells #[.int .i64 t218, .slice Ao30 t236.length co30] 48 (0, 0)) (by (with_reducible repeat (first | refine blk_drewN ?_ _ | refine blk_drew ?_ | refine blk_alloc ?_ _)); exact BK222.out)) : gb250 ≠ gb222)); have n19_ := Aside0.mk ((by rw [hg]; exact Nat.ne_of_lt (blk_lt (g := gb228) (o := .cells #[.int .i64 t223, .slice Ao37 t224.length co37] 48 (0, 0)) (by (with_reducible repeat (first | refine blk_drewN ?_ _ | refine blk_drew ?_ | refine blk_alloc ?_ _)); exact BK228.out)) : gb228 ≠ gb250)); have n20_ := Aside0.mk ((by rw [hg]; exact Nat.ne_of_gt (blk_lt (g := gb228) (o := .cells #[.int .i64 t223, .slice Ao37 t224.length co37] 48 (0, 0)) (by (with_reducible repeat (first | refine blk_drewN ?_ _ | refine blk_drew ?_ | refine blk_alloc ?_ _)); exact BK228.out)) : gb250 ≠ gb228)); clear HO_218001; clear HO_223001; clear HO_229001; clear HO244; clear HO248; clear BK206; clear BK217; clear BK222; clear BK228; clear HB; have HO_218001 := n0_; have HO_223001 := n1_; have HO_229001 := n2_; have HO244 := n3_; have HO248 := n4_; have BK206 := n5_; have BK217 := n6_; have BK222 := n7_; have BK228 := n8_; have HB := n9_; have BK250 := n10_; have GW250 := n11_; have GE250 := n12_; have NB206_250 := n13_; have NB250_206 := n14_; have NB217_250 := n15_; have NB250_217 := n16_; have NB222_250 := n17_; have NB250_222 := n18_; have NB228_250 := n19_; have NB250_228 := n20_; clear n0_ n1_ n2_ n3_ n4_ n5_ n6_ n7_ n8_ n9_ n10_ n11_ n12_ n13_ n14_ n15_ n16_ n17_ n18_ n19_ n20_; clear hb hbox hg; have hnb119 := NB250_206.out; have hnc119 := NB206_250.out; have hnb120 := NB250_217.out; have hnc120 := NB217_250.out; have hnb121 := NB250_222.out; have hnc121 := NB222_250.out; have hnb122 := NB250_228.out; have hnc122 := NB228_250.out; have hcz123_0 : w118.cell? ⟨gb250, 0, none⟩ = some (.int .i64 0) := (blk_cell BK250.out 0).trans rfl; have hcz123_1 : w118.cell? ⟨gb250, 1, none⟩ = some (.slice none 0 0) := (blk_cell BK250.out 1).trans rfl; have hfz123_0 := blk_frozen BK250.out 0; have hfz123_1 := blk_frozen BK250.out 1; obtain ⟨Ao124, co124, eo124⟩ := Kd.R_slice HO248.out; subst eo124))
           (try simp only [Act.put, List.setIfInBounds_toArray, List.set_cons_zero, List.set_cons_succ])
           go_cut [92] (fun v92 wc => ∃ (kq : Nat) (x92_103 : Bool), v92 = .bool x92_103 ∧ Aside0 (laws_FnExactCompacted.j2 kq t238 x92_103 t223 t239 = some r) ∧ Aside0 (kq ≤ kj60) ∧ Aside0 (Kd.R k56 56 wc w.heap.size (fun k_ => some k_ ≠ ((.slice Ao30 t236.length co30) : Value).ownBlock ∧ some k_ ≠ ((.slice Ao37 t224.length co37) : Value).ownBlock ∧ some k_ ≠ ((.slice Ao124 t246.length co124) : Value).ownBlock) (.slice Ao23 t213.length co23) t213) ∧ Aside0 (Kd.R k56 56 wc w.heap.size (fun k_ => some k_ ≠ ((.slice Ao23 t213.length co23) : Value).ownBlock ∧ some k_ ≠ ((.slice Ao37 t224.length co37) : Value).ownBlock ∧ some k_ ≠ ((.slice Ao124 t246.length co124) : Value).ownBlock) (.slice Ao30 t236.length co30) t236) ∧ Aside0 (Kd.R k56 56 wc w.heap.size (fun k_ => some k_ ≠ ((.slice Ao23 t213.length co23) : Value).ownBlock ∧ some k_ ≠ ((.slice Ao30 t236.length co30) : Value).ownBlock ∧ some k_ ≠ ((.slice Ao124 t246.length co124) : Value).ownBlock) (.slice Ao37 t224.length co37) t239) ∧ Aside0 (Kd.R k56 56 wc w.heap.size (fun k_ => some k_ ≠ ((.slice Ao23 t213.length co23) : Value).ownBlock ∧ some k_ ≠ ((.slice Ao30 t236.length co30) : Value).ownBlock ∧ some k_ ≠ ((.slice Ao37 t224.length co37) : Value).ownBlock) (.slice Ao124 t246.length co124) t246) ∧ Aside0 (wc.heap[gb206]? = some (.cells #[.int .i64 a0_0, (.slice A0_1 l0_1.length c0_1)] 59 (0, 0))) ∧ Aside0 (wc.heap[gb217]? = some (.cells #[.int .i64 t212, (.slice Ao23 t213.length co23)] 48 (0, 0))) ∧ Aside0 (wc.heap[gb222]? = some (.cells #[.int .i64 t218, (.slice Ao30 t236.length co30)] 48 (0, 0))) ∧ Aside0 (wc.heap[gb228]? = some (.cells #[.int .i64 t223, (.slice Ao37 t224.length co37)] 48 (0, 0))) ∧ Aside0 (wc.heap[gb250]? = some (.cells #[.int .i64 t245, (.slice Ao124 t246.length co124)] 48 (0, 0))) ∧ Aside0 (Below w.heap.size w wc))
           case first =>
            have H := HC104.out
            clear HC104
            replace H := Option.bind_eq_some_iff.mp H
            obtain ⟨t251, A1250, H⟩ := H
            replace H : (if t251 = true then (laws_FnExactCompacted.j2 kj60 t238 (t249 != t216) t223 t239) else (laws_FnExactCompacted.j2 kj60 t238 true t223 t239)) = some r := H
            have A125 := Aside0.mk A1250
            clear A1250
            by_cases c126 : t251 = true
            ·subst c126
             have H1 : (laws_FnExactCompacted.j2 kj60 t238 (t249 != t216) t223 t239) = some r := by rw [if_pos rfl] at H; exact H
             clear H
             have H := H1
             clear H1
             have H' := Aside0.mk H
             clear H
             have hnb127 := NB250_206.out
             have hnc127 := NB206_250.out
             have hnb128 := NB250_217.out
             have hnc128 := NB217_250.out
             have hnb129 := NB250_222.out
             have hnc129 := NB222_250.out
             have hnb130 := NB250_228.out
             have hnc130 := NB228_250.out
             have hcz131_0 : w118.cell? ⟨gb250, 0, none⟩ = some (.int .i64 0) := (blk_cell BK250.out 0).trans rfl
             have hcz131_1 : w118.cell? ⟨gb250, 1, none⟩ = some (.slice none 0 0) := (blk_cell BK250.out 1).trans rfl
             have hfz131_0 := blk_frozen BK250.out 0
             have hfz131_1 := blk_frozen BK250.out 1
             have hnb132 := NB217_206.out
             have hnc132 := NB206_217.out
             have hnb133 := NB217_222.out
             have hnc133 := NB222_217.out
             have hnb134 := NB217_228.out
             have hnc134 := NB228_217.out
             have hcz135_0 : w118.cell? ⟨gb217, 0, none⟩ = some (.int .i64 t212) := (blk_cell BK217.out 0).trans rfl
             have hcz135_1 : w118.cell? ⟨gb217, 1, none⟩ = some (.slice Ao23 t213.length co23) := (blk_cell BK217.out 1).trans rfl
             have hfz135_0 := blk_frozen BK217.out 0
             have hfz135_1 := blk_frozen BK217.out 1
             go_wp2_with (first | ((with_reducible refine gate_callee (f := 39) rfl ?_); refine goesL_ (some 86) rfl rfl Try.func39 (by kernel_rfl) rfl #[.agg #[.int .i64 t245, .slice Ao124 t246.length co124], .agg #[.int .i64 t212, .slice Ao23 t213.length co23]] rfl (by (try simp only [List.map_toArray, List.map_cons, List.map_nil]); first | done | rfl | (simp only [List.length_drop, List.length_take]; rfl)) ?_; (with_reducible refine (laws_eqDiagram.calls kj60 t245 _ _ t246 t212 _ _ t213 true _ ?side1 ?side2 ?side3 ?side4 A125.out).mono ?_); (case side1 => refine (Kd.R_reads' (e := 56) (base := w.heap.size) (ok := fun k_ => ((((True ∧ some k_ ≠ (.slice Ao23 t213.length co23 : Value).ownBlock) ∧ some k_ ≠ (.slice Ao30 t236.length co30 : Value).ownBlock) ∧ some k_ ≠ (.slice Ao37 t224.length co37 : Value).ownBlock) ∧ some k_ ≠ (.slice Ao116 t242.length co116 : Value).ownBlock)) (n := t246.length) (c := co124) ?_).2.2; exact (by (with_reducible repeat (first | apply Kd.R_alloc | apply Kd.R_drewN | apply Kd.R_drew)); exact (Kd.R_mono (Kd.R_far (p := ⟨gb250, 1, none⟩) (Kd.R_far (p := ⟨gb250, 0, none⟩) (Kd.R_types HO248.out BK250.out (by decide)) (fun _ hk => hk.2) (.int .i64 t245)) (fun _ hk => hk.2) (.slice Ao124 t246.length co124)) (fun _ h_ => h_.1)))); (case side2 => exact (Kd.R_reads' HO248.out).2.1); (case side3 => refine (Kd.R_reads' (e := 56) (base := w.heap.size) (ok := fun k_ => (((some k_ ≠ (.slice Ao30 t236.length co30 : Value).ownBlock ∧ some k_ ≠ (.slice Ao37 t224.length co37 : Value).ownBlock) ∧ some k_ ≠ (.slice Ao116 t242.length co116 : Value).ownBlock) ∧ some k_ ≠ (.slice Ao124 t246.length co124 : Value).ownBlock)) (n := t213.length) (c := co23) ?_).2.2; exact (by (with_reducible repeat (first | apply Kd.R_alloc | apply Kd.R_drewN | apply Kd.R_drew)); exact (Kd.R_mono (Kd.R_far (p := ⟨gb250, 1, none⟩) (Kd.R_far (p := ⟨gb250, 0, none⟩) (Kd.R_types HO_218001.out BK250.out (by decide)) (fun _ hk => hk.2) (.int .i64 t245)) (fun _ hk => hk.2) (.slice Ao124 t246.length co124)) (fun _ h_ => h_.1)))); (case side4 => exact (Kd.R_reads' HO_218001.out).2.1); rintro e w136 ⟨rfl, hb⟩; refine ⟨_, rfl, ?_⟩; have n0_ := Aside0.mk (Kd.R_below (by (with_reducible repeat (first | apply Kd.R_alloc | apply Kd.R_drewN | apply Kd.R_drew)); exact (Kd.R_mono (Kd.R_far (p := ⟨gb250, 1, none⟩) (Kd.R_far (p := ⟨gb250, 0, none⟩) (Kd.R_types HO_218001.out BK250.out (by decide)) (fun _ hk => hk.2) (.int .i64 t245)) (fun _ hk => hk.2) (.slice Ao124 t246.length co124)) (fun _ h_ => h_.1))) hb); have n1_ := Aside0.mk (Kd.R_below (by (with_reducible repeat (first | apply Kd.R_alloc | apply Kd.R_drewN | apply Kd.R_drew)); exact (Kd.R_mono (Kd.R_far (p := ⟨gb250, 1, none⟩) (Kd.R_far (p := ⟨gb250, 0, none⟩) (Kd.R_types HO_223001.out BK250.out (by decide)) (fun _ hk => hk.2) (.int .i64 t245)) (fun _ hk => hk.2) (.slice Ao124 t246.length co124)) (fun _ h_ => h_.1))) hb); have n2_ := Aside0.mk (Kd.R_below (by (with_reducible repeat (first | apply Kd.R_alloc | apply Kd.R_drewN | apply Kd.R_drew)); exact (Kd.R_mono (Kd.R_far (p := ⟨gb250, 1, none⟩) (Kd.R_far (p := ⟨gb250, 0, none⟩) (Kd.R_types HO_229001.out BK250.out (by decide)) (fun _ hk => hk.2) (.int .i64 t245)) (fun _ hk => hk.2) (.slice Ao124 t246.length co124)) (fun _ h_ => h_.1))) hb); have n3_ := Aside0.mk (Kd.R_below (by (with_reducible repeat (first | apply Kd.R_alloc | apply Kd.R_drewN | apply Kd.R_drew)); exact (Kd.R_mono (Kd.R_far (p := ⟨gb250, 1, none⟩) (Kd.R_far (p := ⟨gb250, 0, none⟩) (Kd.R_types HO244.out BK250.out (by decide)) (fun _ hk => hk.2) (.int .i64 t245)) (fun _ hk => hk.2) (.slice Ao124 t246.length co124)) (fun _ h_ => h_.1))) hb); have n4_ := Aside0.mk (Kd.R_below (by (with_reducible repeat (first | apply Kd.R_alloc | apply Kd.R_drewN | apply Kd.R_drew)); exact (Kd.R_mono (Kd.R_far (p := ⟨gb250, 1, none⟩) (Kd.R_far (p := ⟨gb250, 0, none⟩) (Kd.R_types HO248.out BK250.out (by decide)) (fun _ hk => hk.2) (.int .i64 t245)) (fun _ hk => hk.2) (.slice Ao124 t246.length co124)) (fun _ h_ => h_.1))) hb); have n5_ := Aside0.mk (blk_below (g := gb206) (o := .cells #[.int .i64 a0_0, .slice A0_1 l0_1.length c0_1] 59 (0, 0)) (by (with_reducible repeat (first | refine blk_drewN ?_ _ | refine blk_drew ?_ | refine blk_alloc ?_ _)); refine blk_far ?_ NB206_250.out _; (with_reducible repeat (first | refine blk_drewN ?_ _ | refine blk_drew ?_ | refine blk_alloc ?_ _)); refine blk_far ?_ NB206_250.out _; (with_reducible repeat (first | refine blk_drewN ?_ _ | refine blk_drew ?_ | refine blk_alloc ?_ _)); exact BK206.out) hb); have n6_ := Aside0.mk (blk_below (g := gb217) (o := .cells #[.int .i64 t212, .slice Ao23 t213.length co23] 48 (0, 0)) (by (with_reducible repeat (first | refine blk_drewN ?_ _ | refine blk_drew ?_ | refine blk_alloc ?_ _)); refine blk_far ?_ NB217_250.out _; (with_reducible repeat (first | refine blk_drewN ?_ _ | refine blk_drew ?_ | refine blk_alloc ?_ _)); refine blk_far ?_ NB217_250.out _; (with_reducible repeat (first | refine blk_drewN ?_ _ | refine blk_drew ?_ | refine blk_alloc ?_ _)); exact BK217.out) hb); have n7_ := Aside0.mk (blk_below (g := gb222) (o := .cells #[.int .i64 t218, .slice Ao30 t236.length co30] 48 (0, 0)) (by (with_reducible repeat (first | refine blk_drewN ?_ _ | refine blk_drew ?_ | refine blk_alloc ?_ _)); refine blk_far ?_ NB222_250.out _; (with_reducible repeat (first | refine blk_drewN ?_ _ | refine blk_drew ?_ | refine blk_alloc ?_ _)); refine blk_far ?_ NB222_250.out _; (with_reducible repeat (first | refine blk_drewN ?_ _ | refine blk_drew ?_ | refine blk_alloc ?_ _)); exact BK222.out) hb); have n8_ := Aside0.mk (blk_below (g := gb228) (o := .cells #[.int .i64 t223, .slice Ao37 t224.length co37] 48 (0, 0)) (by (with_reducible repeat (first | refine blk_drewN ?_ _ | refine blk_drew ?_ | refine blk_alloc ?_ _)); refine blk_far ?_ NB228_250.out _; (with_reducible repeat (first | refine blk_drewN ?_ _ | refine blk_drew ?_ | refine blk_alloc ?_ _)); refine blk_far ?_ NB228_250.out _; (with_reducible repeat (first | refine blk_drewN ?_ _ | refine blk_drew ?_ | refine blk_alloc ?_ _)); exact BK228.out) hb); have n9_ := Aside0.mk (blk_below (g := gb250) (o := .cells #[.int .i64 t245, .slice Ao124 t246.length co124] 48 (0, 0)) (by (with_reducible repeat (first | refine blk_drewN ?_ _ | refine blk_drew ?_ | refine blk_alloc ?_ _)); refine blk_put (cs := #[.int .i64 t245, .slice none 0 0]) ?_ 1 _ rfl; (with_reducible repeat (first | refine blk_drewN ?_ _ | refine blk_drew ?_ | refine blk_alloc ?_ _)); refine blk_put (cs := #[.int .i64 0, .slice none 0 0]) ?_ 0 _ rfl; (with_reducible repeat (first | refine blk_drewN ?_ _ | refine blk_drew ?_ | refine blk_alloc ?_ _)); exact BK250.out) hb); have n10_ := Aside0.mk (below_step (by repeat (first | (with_reducible first | exact HB.out | apply bwA | apply bwN | apply bwD | refine below_set ?_ GE206.out | refine below_set ?_ GE217.out | refine below_set ?_ GE222.out | refine below_set ?_ GE228.out | refine below_set ?_ GE250.out) | exact HB.out)) hb); clear HO_218001; clear HO_223001; clear HO_229001; clear HO244; clear HO248; clear BK206; clear BK217; clear BK222; clear BK228; clear BK250; clear HB; have HO_218001 := n0_; have HO_223001 := n1_; have HO_229001 := n2_; have HO244 := n3_; have HO248 := n4_; have BK206 := n5_; have BK217 := n6_; have BK222 := n7_; have BK228 := n8_; have BK250 := n9_; have HB := n10_; clear n0_ n1_ n2_ n3_ n4_ n5_ n6_ n7_ n8_ n9_ n10_; (try clear hb); (try clear hb2); (try clear hk); (try clear hi)))
             go_meet
             case rel => exact ⟨_, ((t249 != t216)), (by first | rfl | (simp; done) | (simp [*]; done)), H', ⟨by have := HJ11.out; have := HJ60.out; first | omega | exact Nat.le_refl _⟩, ⟨by (try simp only [hl223001_60]); (with_reducible repeat (first | apply Kd.R_alloc | apply Kd.R_drewN | apply Kd.R_drew)); exact Kd.R_mono HO_218001.out (fun _ hk => ⟨hk.1.1.1, ⟨hk.1.1.2, hk.2⟩⟩)⟩, ⟨by (try simp only [hl223001_60]); (with_reducible repeat (first | apply Kd.R_alloc | apply Kd.R_drewN | apply Kd.R_drew)); exact Kd.R_mono HO_223001.out (fun _ hk => ⟨hk.1.1.1, ⟨hk.1.1.2, hk.2⟩⟩)⟩, ⟨by (try simp only [hl223001_60]); (with_reducible repeat (first | apply Kd.R_alloc | apply Kd.R_drewN | apply Kd.R_drew)); exact Kd.R_mono HO_229001.out (fun _ hk => ⟨hk.1.1.1, ⟨hk.1.1.2, hk.2⟩⟩)⟩, ⟨by (try simp only [hl223001_60]); (with_reducible repeat (first | apply Kd.R_alloc | apply Kd.R_drewN | apply Kd.R_drew)); exact Kd.R_mono HO248.out (fun _ hk => ⟨hk.1.1.1.2, ⟨hk.1.1.2, hk.1.2⟩⟩)⟩, ⟨by (try simp only [hl223001_60]); (with_reducible repeat (first | refine blk_drewN ?_ _ | refine blk_drew ?_ | refine blk_alloc ?_ _)); exact BK206.out⟩, ⟨by (try simp only [hl223001_60]); (with_reducible repeat (first | refine blk_drewN ?_ _ | refine blk_drew ?_ | refine blk_alloc ?_ _)); exact BK217.out⟩, ⟨by (try simp only [hl223001_60]); (with_reducible repeat (first | refine blk_drewN ?_ _ | refine blk_drew ?_ | refine blk_alloc ?_ _)); exact BK222.out⟩, ⟨by (try simp only [hl223001_60]); (with_reducible repeat (first | refine blk_drewN ?_ _ | refine blk_drew ?_ | refine blk_alloc ?_ _)); exact BK228.out⟩, ⟨by (try simp only [hl223001_60]); (with_reducible repeat (first | refine blk_drewN ?_ _ | refine blk_drew ?_ | refine blk_alloc ?_ _)); exact BK250.out⟩, ⟨by repeat (first | (with_reducible first | exact HB.out | apply bwA | apply bwN | apply bwD | refine below_set ?_ GE206.out | refine below_set ?_ GE217.out | refine below_set ?_ GE222.out | refine below_set ?_ GE228.out | refine below_set ?_ GE250.out) | exact HB.out)⟩⟩
            ·replace c126 := Bool.eq_false_iff.mpr c126
             subst c126
             have H1 : (laws_FnExactCompacted.j2 kj60 t238 true t223 t239) = some r := by rw [if_neg (show ¬ (false = true) by decide)] at H; exact H
             clear H
             have H := H1
             clear H1
             have H' := Aside0.mk H
             clear H
             have hnb137 := NB250_206.out
             have hnc137 := NB206_250.out
             have hnb138 := NB250_217.out
             have hnc138 := NB217_250.out
             have hnb139 := NB250_222.out
             have hnc139 := NB222_250.out
             have hnb140 := NB250_228.out
             have hnc140 := NB228_250.out
             have hcz141_0 : w118.cell? ⟨gb250, 0, none⟩ = some (.int .i64 0) := (blk_cell BK250.out 0).trans rfl
             have hcz141_1 : w118.cell? ⟨gb250, 1, none⟩ = some (.slice none 0 0) := (blk_cell BK250.out 1).trans rfl
             have hfz141_0 := blk_frozen BK250.out 0
             have hfz141_1 := blk_frozen BK250.out 1
             have hnb142 := NB217_206.out
             have hnc142 := NB206_217.out
             have hnb143 := NB217_222.out
             have hnc143 := NB222_217.out
             have hnb144 := NB217_228.out
             have hnc144 := NB228_217.out
             have hcz145_0 : w118.cell? ⟨gb217, 0, none⟩ = some (.int .i64 t212) := (blk_cell BK217.out 0).trans rfl
             have hcz145_1 : w118.cell? ⟨gb217, 1, none⟩ = some (.slice Ao23 t213.length co23) := (blk_cell BK217.out 1).trans rfl
             have hfz145_0 := blk_frozen BK217.out 0
             have hfz145_1 := blk_frozen BK217.out 1
             go_wp2_with (first | ((with_reducible refine gate_callee (f := 39) rfl ?_); refine goesL_ (some 86) rfl rfl Try.func39 (by kernel_rfl) rfl #[.agg #[.int .i64 t245, .slice Ao124 t246.length co124], .agg #[.int .i64 t212, .slice Ao23 t213.length co23]] rfl (by (try simp only [List.map_toArray, List.map_cons, List.map_nil]); first | done | rfl | (simp only [List.length_drop, List.length_take]; rfl)) ?_; (with_reducible refine (laws_eqDiagram.calls kj60 t245 _ _ t246 t212 _ _ t213 false _ ?side1 ?side2 ?side3 ?side4 A125.out).mono ?_); (case side1 => refine (Kd.R_reads' (e := 56) (base := w.heap.size) (ok := fun k_ => ((((True ∧ some k_ ≠ (.slice Ao23 t213.length co23 : Value).ownBlock) ∧ some k_ ≠ (.slice Ao30 t236.length co30 : Value).ownBlock) ∧ some k_ ≠ (.slice Ao37 t224.length co37 : Value).ownBlock) ∧ some k_ ≠ (.slice Ao116 t242.length co116 : Value).ownBlock)) (n := t246.length) (c := co124) ?_).2.2; exact (by (with_reducible repeat (first | apply Kd.R_alloc | apply Kd.R_drewN | apply Kd.R_drew)); exact (Kd.R_mono (Kd.R_far (p := ⟨gb250, 1, none⟩) (Kd.R_far (p := ⟨gb250, 0, none⟩) (Kd.R_types HO248.out BK250.out (by decide)) (fun _ hk => hk.2) (.int .i64 t245)) (fun _ hk => hk.2) (.slice Ao124 t246.length co124)) (fun _ h_ => h_.1)))); (case side2 => exact (Kd.R_reads' HO248.out).2.1); (case side3 => refine (Kd.R_reads' (e := 56) (base := w.heap.size) (ok := fun k_ => (((some k_ ≠ (.slice Ao30 t236.length co30 : Value).ownBlock ∧ some k_ ≠ (.slice Ao37 t224.length co37 : Value).ownBlock) ∧ some k_ ≠ (.slice Ao116 t242.length co116 : Value).ownBlock) ∧ some k_ ≠ (.slice Ao124 t246.length co124 : Value).ownBlock)) (n := t213.length) (c := co23) ?_).2.2; exact (by (with_reducible repeat (first | apply Kd.R_alloc | apply Kd.R_drewN | apply Kd.R_drew)); exact (Kd.R_mono (Kd.R_far (p := ⟨gb250, 1, none⟩) (Kd.R_far (p := ⟨gb250, 0, none⟩) (Kd.R_types HO_218001.out BK250.out (by decide)) (fun _ hk => hk.2) (.int .i64 t245)) (fun _ hk => hk.2) (.slice Ao124 t246.length co124)) (fun _ h_ => h_.1)))); (case side4 => exact (Kd.R_reads' HO_218001.out).2.1); rintro e w146 ⟨rfl, hb⟩; refine ⟨_, rfl, ?_⟩; have n0_ := Aside0.mk (Kd.R_below (by (with_reducible repeat (first | apply Kd.R_alloc | apply Kd.R_drewN | apply Kd.R_drew)); exact (Kd.R_mono (Kd.R_far (p := ⟨gb250, 1, none⟩) (Kd.R_far (p := ⟨gb250, 0, none⟩) (Kd.R_types HO_218001.out BK250.out (by decide)) (fun _ hk => hk.2) (.int .i64 t245)) (fun _ hk => hk.2) (.slice Ao124 t246.length co124)) (fun _ h_ => h_.1))) hb); have n1_ := Aside0.mk (Kd.R_below (by (with_reducible repeat (first | apply Kd.R_alloc | apply Kd.R_drewN | apply Kd.R_drew)); exact (Kd.R_mono (Kd.R_far (p := ⟨gb250, 1, none⟩) (Kd.R_far (p := ⟨gb250, 0, none⟩) (Kd.R_types HO_223001.out BK250.out (by decide)) (fun _ hk => hk.2) (.int .i64 t245)) (fun _ hk => hk.2) (.slice Ao124 t246.length co124)) (fun _ h_ => h_.1))) hb); have n2_ := Aside0.mk (Kd.R_below (by (with_reducible repeat (first | apply Kd.R_alloc | apply Kd.R_drewN | apply Kd.R_drew)); exact (Kd.R_mono (Kd.R_far (p := ⟨gb250, 1, none⟩) (Kd.R_far (p := ⟨gb250, 0, none⟩) (Kd.R_types HO_229001.out BK250.out (by decide)) (fun _ hk => hk.2) (.int .i64 t245)) (fun _ hk => hk.2) (.slice Ao124 t246.length co124)) (fun _ h_ => h_.1))) hb); have n3_ := Aside0.mk (Kd.R_below (by (with_reducible repeat (first | apply Kd.R_alloc | apply Kd.R_drewN | apply Kd.R_drew)); exact (Kd.R_mono (Kd.R_far (p := ⟨gb250, 1, none⟩) (Kd.R_far (p := ⟨gb250, 0, none⟩) (Kd.R_types HO244.out BK250.out (by decide)) (fun _ hk => hk.2) (.int .i64 t245)) (fun _ hk => hk.2) (.slice Ao124 t246.length co124)) (fun _ h_ => h_.1))) hb); have n4_ := Aside0.mk (Kd.R_below (by (with_reducible repeat (first | apply Kd.R_alloc | apply Kd.R_drewN | apply Kd.R_drew)); exact (Kd.R_mono (Kd.R_far (p := ⟨gb250, 1, none⟩) (Kd.R_far (p := ⟨gb250, 0, none⟩) (Kd.R_types HO248.out BK250.out (by decide)) (fun _ hk => hk.2) (.int .i64 t245)) (fun _ hk => hk.2) (.slice Ao124 t246.length co124)) (fun _ h_ => h_.1))) hb); have n5_ := Aside0.mk (blk_below (g := gb206) (o := .cells #[.int .i64 a0_0, .slice A0_1 l0_1.length c0_1] 59 (0, 0)) (by (with_reducible repeat (first | refine blk_drewN ?_ _ | refine blk_drew ?_ | refine blk_alloc ?_ _)); refine blk_far ?_ NB206_250.out _; (with_reducible repeat (first | refine blk_drewN ?_ _ | refine blk_drew ?_ | refine blk_alloc ?_ _)); refine blk_far ?_ NB206_250.out _; (with_reducible repeat (first | refine blk_drewN ?_ _ | refine blk_drew ?_ | refine blk_alloc ?_ _)); exact BK206.out) hb); have n6_ := Aside0.mk (blk_below (g := gb217) (o := .cells #[.int .i64 t212, .slice Ao23 t213.length co23] 48 (0, 0)) (by (with_reducible repeat (first | refine blk_drewN ?_ _ | refine blk_drew ?_ | refine blk_alloc ?_ _)); refine blk_far ?_ NB217_250.out _; (with_reducible repeat (first | refine blk_drewN ?_ _ | refine blk_drew ?_ | refine blk_alloc ?_ _)); refine blk_far ?_ NB217_250.out _; (with_reducible repeat (first | refine blk_drewN ?_ _ | refine blk_drew ?_ | refine blk_alloc ?_ _)); exact BK217.out) hb); have n7_ := Aside0.mk (blk_below (g := gb222) (o := .cells #[.int .i64 t218, .slice Ao30 t236.length co30] 48 (0, 0)) (by (with_reducible repeat (first | refine blk_drewN ?_ _ | refine blk_drew ?_ | refine blk_alloc ?_ _)); refine blk_far ?_ NB222_250.out _; (with_reducible repeat (first | refine blk_drewN ?_ _ | refine blk_drew ?_ | refine blk_alloc ?_ _)); refine blk_far ?_ NB222_250.out _; (with_reducible repeat (first | refine blk_drewN ?_ _ | refine blk_drew ?_ | refine blk_alloc ?_ _)); exact BK222.out) hb); have n8_ := Aside0.mk (blk_below (g := gb228) (o := .cells #[.int .i64 t223, .slice Ao37 t224.length co37] 48 (0, 0)) (by (with_reducible repeat (first | refine blk_drewN ?_ _ | refine blk_drew ?_ | refine blk_alloc ?_ _)); refine blk_far ?_ NB228_250.out _; (with_reducible repeat (first | refine blk_drewN ?_ _ | refine blk_drew ?_ | refine blk_alloc ?_ _)); refine blk_far ?_ NB228_250.out _; (with_reducible repeat (first | refine blk_drewN ?_ _ | refine blk_drew ?_ | refine blk_alloc ?_ _)); exact BK228.out) hb); have n9_ := Aside0.mk (blk_below (g := gb250) (o := .cells #[.int .i64 t245, .slice Ao124 t246.length co124] 48 (0, 0)) (by (with_reducible repeat (first | refine blk_drewN ?_ _ | refine blk_drew ?_ | refine blk_alloc ?_ _)); refine blk_put (cs := #[.int .i64 t245, .slice none 0 0]) ?_ 1 _ rfl; (with_reducible repeat (first | refine blk_drewN ?_ _ | refine blk_drew ?_ | refine blk_alloc ?_ _)); refine blk_put (cs := #[.int .i64 0, .slice none 0 0]) ?_ 0 _ rfl; (with_reducible repeat (first | refine blk_drewN ?_ _ | refine blk_drew ?_ | refine blk_alloc ?_ _)); exact BK250.out) hb); have n10_ := Aside0.mk (below_step (by repeat (first | (with_reducible first | exact HB.out | apply bwA | apply bwN | apply bwD | refine below_set ?_ GE206.out | refine below_set ?_ GE217.out | refine below_set ?_ GE222.out | refine below_set ?_ GE228.out | refine below_set ?_ GE250.out) | exact HB.out)) hb); clear HO_218001; clear HO_223001; clear HO_229001; clear HO244; clear HO248; clear BK206; clear BK217; clear BK222; clear BK228; clear BK250; clear HB; have HO_218001 := n0_; have HO_223001 := n1_; have HO_229001 := n2_; have HO244 := n3_; have HO248 := n4_; have BK206 := n5_; have BK217 := n6_; have BK222 := n7_; have BK228 := n8_; have BK250 := n9_; have HB := n10_; clear n0_ n1_ n2_ n3_ n4_ n5_ n6_ n7_ n8_ n9_ n10_; (try clear hb); (try clear hb2); (try clear hk); (try clear hi)))
             go_meet
             case rel => exact ⟨_, (true), (by first | rfl | (simp; done) | (simp [*]; done)), H', ⟨by have := HJ11.out; have := HJ60.out; first | omega | exact Nat.le_refl _⟩, ⟨by (try simp only [hl223001_60]); (with_reducible repeat (first | apply Kd.R_alloc | apply Kd.R_drewN | apply Kd.R_drew)); exact Kd.R_mono HO_218001.out (fun _ hk => ⟨hk.1.1.1, ⟨hk.1.1.2, hk.2⟩⟩)⟩, ⟨by (try simp only [hl223001_60]); (with_reducible repeat (first | apply Kd.R_alloc | apply Kd.R_drewN | apply Kd.R_drew)); exact Kd.R_mono HO_223001.out (fun _ hk => ⟨hk.1.1.1, ⟨hk.1.1.2, hk.2⟩⟩)⟩, ⟨by (try simp only [hl223001_60]); (with_reducible repeat (first | apply Kd.R_alloc | apply Kd.R_drewN | apply Kd.R_drew)); exact Kd.R_mono HO_229001.out (fun _ hk => ⟨hk.1.1.1, ⟨hk.1.1.2, hk.2⟩⟩)⟩, ⟨by (try simp only [hl223001_60]); (with_reducible repeat (first | apply Kd.R_alloc | apply Kd.R_drewN | apply Kd.R_drew)); exact Kd.R_mono HO248.out (fun _ hk => ⟨hk.1.1.1.2, ⟨hk.1.1.2, hk.1.2⟩⟩)⟩, ⟨by (try simp only [hl223001_60]); (with_reducible repeat (first | refine blk_drewN ?_ _ | refine blk_drew ?_ | refine blk_alloc ?_ _)); exact BK206.out⟩, ⟨by (try simp only [hl223001_60]); (with_reducible repeat (first | refine blk_drewN ?_ _ | refine blk_drew ?_ | refine blk_alloc ?_ _)); exact BK217.out⟩, ⟨by (try simp only [hl223001_60]); (with_reducible repeat (first | refine blk_drewN ?_ _ | refine blk_drew ?_ | refine blk_alloc ?_ _)); exact BK222.out⟩, ⟨by (try simp only [hl223001_60]); (with_reducible repeat (first | refine blk_drewN ?_ _ | refine blk_drew ?_ | refine blk_alloc ?_ _)); exact BK228.out⟩, ⟨by (try simp only [hl223001_60]); (with_reducible repeat (first | refine blk_drewN ?_ _ | refine blk_drew ?_ | refine blk_alloc ?_ _)); exact BK250.out⟩, ⟨by repeat (first | (with_reducible first | exact HB.out | apply bwA | apply bwN | apply bwD | refine below_set ?_ GE206.out | refine below_set ?_ GE217.out | refine below_set ?_ GE222.out | refine below_set ?_ GE228.out | refine below_set ?_ GE250.out) | exact HB.out)⟩⟩
           case rest =>
            clear HC104
            try clear c1
            try clear c2
            try clear p2
            try clear c3
            try clear c4
            try clear c4b0
            try clear c5
            try clear c6
            try clear c7
            try clear c8
            try clear c9
            try clear c10
            try clear c11
            try clear c12
            try clear c13
            try clear c14
            try clear c21
            try clear c27
            try clear c28
            try clear c33
            try clear c34
            try clear c35
            try clear c36
            try clear c37
            try clear c38
            try clear c39
            try clear c40
            try clear c41
            try clear c42
            try clear c44
            try clear c45
            try clear c48
            try clear c49
            try clear c50
            try clear c52
            try clear c53
            try clear c56
            try clear c59
            try clear c66
            try clear c67
            try clear c68
            try clear c71
            try clear c71b0
            try clear c73
            try clear c74
            try clear c75
            try clear c76
            try clear c78
            try clear c79
            try clear c82
            try clear c83
            try clear c84
            try clear c86
            try clear c87
            try clear c90
            try clear c93
            try clear c93b0
            try clear c94
            try clear c95
            try clear c96
            try clear c101
            try clear c101b0
            try clear c101b1
            try clear c105
            try clear c106
            try clear c107
            try clear c112
            try clear c113
            try clear c119
            try clear c120
            try clear c121
            try clear c122
            try clear c126
            try clear c127
            try clear c128
            try clear c129
            try clear c130
            try clear c132
            try clear c133
            try clear c134
            try clear c137
            try clear c138
            try clear c139
            try clear c140
            try clear c142
            try clear c143
            try clear c144
            try clear hcz108_0
            try clear hcz108_1
            try clear hcz110_0
            try clear hcz110_1
            try clear hcz114_0
            try clear hcz114_1
            try clear hcz123_0
            try clear hcz123_1
            try clear hcz131_0
            try clear hcz131_1
            try clear hcz135_0
            try clear hcz135_1
            try clear hcz141_0
            try clear hcz141_1
            try clear hcz145_0
            try clear hcz145_1
            try clear hcz14_0
            try clear hcz14_1
            try clear hcz16_0
            try clear hcz16_1
            try clear hcz22_0
            try clear hcz22_1
            try clear hcz24_0
            try clear hcz24_1
            try clear hcz29_0
            try clear hcz29_1
            try clear hcz36_0
            try clear hcz36_1
            try clear hcz43_0
            try clear hcz43_1
            try clear hcz46_0
            try clear hcz46_1
            try clear hcz51_0
            try clear hcz51_1
            try clear hcz54_0
            try clear hcz54_1
            try clear hcz69_0
            try clear hcz69_1
            try clear hcz6_0
            try clear hcz6_1
            try clear hcz77_0
            try clear hcz77_1
            try clear hcz80_0
            try clear hcz80_1
            try clear hcz85_0
            try clear hcz85_1
            try clear hcz88_0
            try clear hcz88_1
            try clear hcz97_0
            try clear hcz97_1
            try clear hcz99_0
            try clear hcz99_1
            try clear hfz108_0
            try clear hfz108_1
            try clear hfz110_0
            try clear hfz110_1
            try clear hfz114_0
            try clear hfz114_1
            try clear hfz123_0
            try clear hfz123_1
            try clear hfz131_0
            try clear hfz131_1
            try clear hfz135_0
            try clear hfz135_1
            try clear hfz141_0
            try clear hfz141_1
            try clear hfz145_0
            try clear hfz145_1
            try clear hfz14_0
            try clear hfz14_1
            try clear hfz16_0
            try clear hfz16_1
            try clear hfz22_0
            try clear hfz22_1
            try clear hfz24_0
            try clear hfz24_1
            try clear hfz29_0
            try clear hfz29_1
            try clear hfz36_0
            try clear hfz36_1
            try clear hfz43_0
            try clear hfz43_1
            try clear hfz46_0
            try clear hfz46_1
            try clear hfz51_0
            try clear hfz51_1
            try clear hfz54_0
            try clear hfz54_1
            try clear hfz69_0
            try clear hfz69_1
            try clear hfz6_0
            try clear hfz6_1
            try clear hfz77_0
            try clear hfz77_1
            try clear hfz80_0
            try clear hfz80_1
            try clear hfz85_0
            try clear hfz85_1
            try clear hfz88_0
            try clear hfz88_1
            try clear hfz97_0
            try clear hfz97_1
            try clear hfz99_0
            try clear hfz99_1
            try clear p2
            obtain ⟨kq, x92_103, rfl, HA, HJ103, HO_218001, HO_223001, HO_229001, HO_251001, BK206, BK217, BK222, BK228, BK250, HB⟩ := hcut
            have hl229001_103 := (Kd.R_reads' HO_229001.out).1
            rw [hl229001_103] at HO_229001
            (try simp only [hl229001_103])
            (try simp only [hl229001_103] at BK206)
            (try simp only [hl229001_103] at BK217)
            (try simp only [hl229001_103] at BK222)
            (try simp only [hl229001_103] at BK228)
            (try simp only [hl229001_103] at BK250)
            (try simp only [hl229001_103] at HO_218001)
            (try simp only [hl229001_103] at HO_223001)
            (try simp only [hl229001_103] at HO_251001)
            cases kq with
            | zero => exact absurd HA.out (by simp [laws_FnExactCompacted.j2])
            | succ kj103 =>
             have H := HA.out
             clear HA
             simp only [laws_FnExactCompacted.j2] at H
             by_cases c147 : x92_103 = true
             ·subst c147
              have H1 : (some false) = some r := by rw [if_pos rfl] at H; exact H
              clear H
              have H := H1
              clear H1
              obtain rfl := Option.some.inj H
              go_wp2
              go_ret
              exact ⟨by first | rfl | (simp [errW_none, errW_some] <;> rfl) | (simp [*, errW_none, errW_some] <;> rfl), by repeat (first | (with_reducible first | exact HB.out | apply bwA | apply bwN | apply bwD | refine below_set ?_ GE206.out | refine below_set ?_ GE217.out | refine below_set ?_ GE222.out | refine below_set ?_ GE228.out | refine below_set ?_ GE250.out) | exact HB.out)⟩
             ·replace c147 := Bool.eq_false_iff.mpr c147
              subst c147
              have H1 : ((laws_heldDiagram.f kj103 t223 t239 1).bind fun t252 => (if t252 < 0 then (some false) else (if t252 = t238 then (some true) else (some false)))) = some r := by rw [if_neg (show ¬ (false = true) by decide)] at H; exact H
              clear H
              have H := H1
              clear H1
              replace H := Option.bind_eq_some_iff.mp H
              obtain ⟨t252, A1480, H⟩ := H
              replace H : (if t252 < 0 then (some false) else (if t252 = t238 then (some true) else (some false))) = some r := H
              have A148 := Aside0.mk A1480
              clear A1480
              by_cases c149 : t252 < 0
              ·rw [if_pos c149] at H
               have c149b0 : decide (t252 < 0) = true := decide_eq_true c149
               clear c149
               obtain rfl := Option.some.inj H
               have hnb150 := NB228_206.out
               have hnc150 := NB206_228.out
               have hnb151 := NB228_217.out
               have hnc151 := NB217_228.out
               have hnb152 := NB228_222.out
               have hnc152 := NB222_228.out
               have hnb153 := NB228_250.out
               have hnc153 := NB250_228.out
               have hcz154_0 : wc.cell? ⟨gb228, 0, none⟩ = some (.int .i64 t223) := (blk_cell BK228.out 0).trans rfl
               have hcz154_1 : wc.cell? ⟨gb228, 1, none⟩ = some (.slice Ao37 t239.length co37) := (blk_cell BK228.out 1).trans rfl
               have hfz154_0 := blk_frozen BK228.out 0
               have hfz154_1 := blk_frozen BK228.out 1
               go_wp2_with (first | ((with_reducible refine gate_callee (f := 41) rfl ?_); refine goesL_ (some 95) rfl rfl Try.func41 (by kernel_rfl) rfl #[.agg #[.int .i64 t223, .slice Ao37 t239.length co37], .int .i64 1] rfl (by (try simp only [List.map_toArray, List.map_cons, List.map_nil]); first | done | rfl | (simp only [List.length_drop, List.length_take]; rfl)) ?_; (with_reducible refine (laws_heldDiagram.calls kj103 t223 _ _ t239 1 t252 _ ?side1 ?side2 A148.out).mono ?_); (case side1 => repeat (first | exact (Kd.R_reads' HO_229001.out).2.2 | (with_reducible refine Kd.C_alloc ?_ _) | (with_reducible refine Kd.C_drewN ?_ _) | (with_reducible refine Kd.C_drew ?_))); (case side2 => exact (Kd.R_reads' HO_229001.out).2.1); rintro e w155 ⟨rfl, hb⟩; refine ⟨_, rfl, ?_⟩; have n0_ := Aside0.mk (Kd.R_below (by (with_reducible repeat (first | apply Kd.R_alloc | apply Kd.R_drewN | apply Kd.R_drew)); exact HO_218001.out) hb); have n1_ := Aside0.mk (Kd.R_below (by (with_reducible repeat (first | apply Kd.R_alloc | apply Kd.R_drewN | apply Kd.R_drew)); exact HO_223001.out) hb); have n2_ := Aside0.mk (Kd.R_below (by (with_reducible repeat (first | apply Kd.R_alloc | apply Kd.R_drewN | apply Kd.R_drew)); exact HO_229001.out) hb); have n3_ := Aside0.mk (Kd.R_below (by (with_reducible repeat (first | apply Kd.R_alloc | apply Kd.R_drewN | apply Kd.R_drew)); exact HO_251001.out) hb); have n4_ := Aside0.mk (blk_below (g := gb206) (o := .cells #[.int .i64 a0_0, .slice A0_1 l0_1.length c0_1] 59 (0, 0)) (by (with_reducible repeat (first | refine blk_drewN ?_ _ | refine blk_drew ?_ | refine blk_alloc ?_ _)); exact BK206.out) hb); have n5_ := Aside0.mk (blk_below (g := gb217) (o := .cells #[.int .i64 t212, .slice Ao23 t213.length co23] 48 (0, 0)) (by (with_reducible repeat (first | refine blk_drewN ?_ _ | refine blk_drew ?_ | refine blk_alloc ?_ _)); exact BK217.out) hb); have n6_ := Aside0.mk (blk_below (g := gb222) (o := .cells #[.int .i64 t218, .slice Ao30 t236.length co30] 48 (0, 0)) (by (with_reducible repeat (first | refine blk_drewN ?_ _ | refine blk_drew ?_ | refine blk_alloc ?_ _)); exact BK222.out) hb); have n7_ := Aside0.mk (blk_below (g := gb228) (o := .cells #[.int .i64 t223, .slice Ao37 t239.length co37] 48 (0, 0)) (by (with_reducible repeat (first | refine blk_drewN ?_ _ | refine blk_drew ?_ | refine blk_alloc ?_ _)); exact BK228.out) hb); have n8_ := Aside0.mk (blk_below (g := gb250) (o := .cells #[.int .i64 t245, .slice Ao124 t246.length co124] 48 (0, 0)) (by (with_reducible repeat (first | refine blk_drewN ?_ _ | refine blk_drew ?_ | refine blk_alloc ?_ _)); exact BK250.out) hb); have n9_ := Aside0.mk (below_step (by repeat (first | (with_reducible first | exact HB.out | apply bwA | apply bwN | apply bwD | refine below_set ?_ GE206.out | refine below_set ?_ GE217.out | refine below_set ?_ GE222.out | refine below_set ?_ GE228.out | refine below_set ?_ GE250.out) | exact HB.out)) hb); clear HO_218001; clear HO_223001; clear HO_229001; clear HO_251001; clear BK206; clear BK217; clear BK222; clear BK228; clear BK250; clear HB; have HO_218001 := n0_; have HO_223001 := n1_; have HO_229001 := n2_; have HO_251001 := n3_; have BK206 := n4_; have BK217 := n5_; have BK222 := n6_; have BK228 := n7_; have BK250 := n8_; have HB := n9_; clear n0_ n1_ n2_ n3_ n4_ n5_ n6_ n7_ n8_ n9_; (try clear hb); (try clear hb2); (try clear hk); (try clear hi)))
               go_ret
               exact ⟨by first | rfl | (simp [errW_none, errW_some] <;> rfl) | (simp [*, errW_none, errW_some] <;> rfl), by repeat (first | (with_reducible first | exact HB.out | apply bwA | apply bwN | apply bwD | refine below_set ?_ GE206.out | refine below_set ?_ GE217.out | refine below_set ?_ GE222.out | refine below_set ?_ GE228.out | refine below_set ?_ GE250.out) | exact HB.out)⟩
              ·rw [if_neg c149] at H
               have c149b0 : decide (t252 < 0) = false := decide_eq_false c149
               clear c149
               by_cases c156 : t252 = t238
               ·rw [if_pos c156] at H
                have c156b0 : (t252 == t238) = true := beq_iff_eq.mpr c156
                have c156b1 : (t252 != t238) = false := bne_eq_false_iff_eq.mpr c156
                clear c156
                obtain rfl := Option.some.inj H
                have hnb157 := NB228_206.out
                have hnc157 := NB206_228.out
                have hnb158 := NB228_217.out
                have hnc158 := NB217_228.out
                have hnb159 := NB228_222.out
                have hnc159 := NB222_228.out
                have hnb160 := NB228_250.out
                have hnc160 := NB250_228.out
                have hcz161_0 : wc.cell? ⟨gb228, 0, none⟩ = some (.int .i64 t223) := (blk_cell BK228.out 0).trans rfl
                have hcz161_1 : wc.cell? ⟨gb228, 1, none⟩ = some (.slice Ao37 t239.length co37) := (blk_cell BK228.out 1).trans rfl
                have hfz161_0 := blk_frozen BK228.out 0
                have hfz161_1 := blk_frozen BK228.out 1
                go_wp2_with (first | ((with_reducible refine gate_callee (f := 41) rfl ?_); refine goesL_ (some 95) rfl rfl Try.func41 (by kernel_rfl) rfl #[.agg #[.int .i64 t223, .slice Ao37 t239.length co37], .int .i64 1] rfl (by (try simp only [List.map_toArray, List.map_cons, List.map_nil]); first | done | rfl | (simp only [List.length_drop, List.length_take]; rfl)) ?_; (with_reducible refine (laws_heldDiagram.calls kj103 t223 _ _ t239 1 t252 _ ?side1 ?side2 A148.out).mono ?_); (case side1 => repeat (first | exact (Kd.R_reads' HO_229001.out).2.2 | (with_reducible refine Kd.C_alloc ?_ _) | (with_reducible refine Kd.C_drewN ?_ _) | (with_reducible refine Kd.C_drew ?_))); (case side2 => exact (Kd.R_reads' HO_229001.out).2.1); rintro e w162 ⟨rfl, hb⟩; refine ⟨_, rfl, ?_⟩; have n0_ := Aside0.mk (Kd.R_below (by (with_reducible repeat (first | apply Kd.R_alloc | apply Kd.R_drewN | apply Kd.R_drew)); exact HO_218001.out) hb); have n1_ := Aside0.mk (Kd.R_below (by (with_reducible repeat (first | apply Kd.R_alloc | apply Kd.R_drewN | apply Kd.R_drew)); exact HO_223001.out) hb); have n2_ := Aside0.mk (Kd.R_below (by (with_reducible repeat (first | apply Kd.R_alloc | apply Kd.R_drewN | apply Kd.R_drew)); exact HO_229001.out) hb); have n3_ := Aside0.mk (Kd.R_below (by (with_reducible repeat (first | apply Kd.R_alloc | apply Kd.R_drewN | apply Kd.R_drew)); exact HO_251001.out) hb); have n4_ := Aside0.mk (blk_below (g := gb206) (o := .cells #[.int .i64 a0_0, .slice A0_1 l0_1.length c0_1] 59 (0, 0)) (by (with_reducible repeat (first | refine blk_drewN ?_ _ | refine blk_drew ?_ | refine blk_alloc ?_ _)); exact BK206.out) hb); have n5_ := Aside0.mk (blk_below (g := gb217) (o := .cells #[.int .i64 t212, .slice Ao23 t213.length co23] 48 (0, 0)) (by (with_reducible repeat (first | refine blk_drewN ?_ _ | refine blk_drew ?_ | refine blk_alloc ?_ _)); exact BK217.out) hb); have n6_ := Aside0.mk (blk_below (g := gb222) (o := .cells #[.int .i64 t218, .slice Ao30 t236.length co30] 48 (0, 0)) (by (with_reducible repeat (first | refine blk_drewN ?_ _ | refine blk_drew ?_ | refine blk_alloc ?_ _)); exact BK222.out) hb); have n7_ := Aside0.mk (blk_below (g := gb228) (o := .cells #[.int .i64 t223, .slice Ao37 t239.length co37] 48 (0, 0)) (by (with_reducible repeat (first | refine blk_drewN ?_ _ | refine blk_drew ?_ | refine blk_alloc ?_ _)); exact BK228.out) hb); have n8_ := Aside0.mk (blk_below (g := gb250) (o := .cells #[.int .i64 t245, .slice Ao124 t246.length co124] 48 (0, 0)) (by (with_reducible repeat (first | refine blk_drewN ?_ _ | refine blk_drew ?_ | refine blk_alloc ?_ _)); exact BK250.out) hb); have n9_ := Aside0.mk (below_step (by repeat (first | (with_reducible first | exact HB.out | apply bwA | apply bwN | apply bwD | refine below_set ?_ GE206.out | refine below_set ?_ GE217.out | refine below_set ?_ GE222.out | refine below_set ?_ GE228.out | refine below_set ?_ GE250.out) | exact HB.out)) hb); clear HO_218001; clear HO_223001; clear HO_229001; clear HO_251001; clear BK206; clear BK217; clear BK222; clear BK228; clear BK250; clear HB; have HO_218001 := n0_; have HO_223001 := n1_; have HO_229001 := n2_; have HO_251001 := n3_; have BK206 := n4_; have BK217 := n5_; have BK222 := n6_; have BK228 := n7_; have BK250 := n8_; have HB := n9_; clear n0_ n1_ n2_ n3_ n4_ n5_ n6_ n7_ n8_ n9_; (try clear hb); (try clear hb2); (try clear hk); (try clear hi)))
                go_ret
                exact ⟨by first | rfl | (simp [errW_none, errW_some] <;> rfl) | (simp [*, errW_none, errW_some] <;> rfl), by repeat (first | (with_reducible first | exact HB.out | apply bwA | apply bwN | apply bwD | refine below_set ?_ GE206.out | refine below_set ?_ GE217.out | refine below_set ?_ GE222.out | refine below_set ?_ GE228.out | refine below_set ?_ GE250.out) | exact HB.out)⟩
               ·rw [if_neg c156] at H
                have c156b0 : (t252 == t238) = false := beq_eq_false_iff_ne.mpr c156
                have c156b1 : (t252 != t238) = true := bne_iff_ne.mpr c156
                obtain rfl := Option.some.inj H
                have hnb163 := NB228_206.out
                have hnc163 := NB206_228.out
                have hnb164 := NB228_217.out
                have hnc164 := NB217_228.out
                have hnb165 := NB228_222.out
                have hnc165 := NB222_228.out
                have hnb166 := NB228_250.out
                have hnc166 := NB250_228.out
                have hcz167_0 : wc.cell? ⟨gb228, 0, none⟩ = some (.int .i64 t223) := (blk_cell BK228.out 0).trans rfl
                have hcz167_1 : wc.cell? ⟨gb228, 1, none⟩ = some (.slice Ao37 t239.length co37) := (blk_cell BK228.out 1).trans rfl
                have hfz167_0 := blk_frozen BK228.out 0
                have hfz167_1 := blk_frozen BK228.out 1
                go_wp2_with (first | ((with_reducible refine gate_callee (f := 41) rfl ?_); refine goesL_ (some 95) rfl rfl Try.func41 (by kernel_rfl) rfl #[.agg #[.int .i64 t223, .slice Ao37 t239.length co37], .int .i64 1] rfl (by (try simp only [List.map_toArray, List.map_cons, List.map_nil]); first | done | rfl | (simp only [List.length_drop, List.length_take]; rfl)) ?_; (with_reducible refine (laws_heldDiagram.calls kj103 t223 _ _ t239 1 t252 _ ?side1 ?side2 A148.out).mono ?_); (case side1 => repeat (first | exact (Kd.R_reads' HO_229001.out).2.2 | (with_reducible refine Kd.C_alloc ?_ _) | (with_reducible refine Kd.C_drewN ?_ _) | (with_reducible refine Kd.C_drew ?_))); (case side2 => exact (Kd.R_reads' HO_229001.out).2.1); rintro e w168 ⟨rfl, hb⟩; refine ⟨_, rfl, ?_⟩; have n0_ := Aside0.mk (Kd.R_below (by (with_reducible repeat (first | apply Kd.R_alloc | apply Kd.R_drewN | apply Kd.R_drew)); exact HO_218001.out) hb); have n1_ := Aside0.mk (Kd.R_below (by (with_reducible repeat (first | apply Kd.R_alloc | apply Kd.R_drewN | apply Kd.R_drew)); exact HO_223001.out) hb); have n2_ := Aside0.mk (Kd.R_below (by (with_reducible repeat (first | apply Kd.R_alloc | apply Kd.R_drewN | apply Kd.R_drew)); exact HO_229001.out) hb); have n3_ := Aside0.mk (Kd.R_below (by (with_reducible repeat (first | apply Kd.R_alloc | apply Kd.R_drewN | apply Kd.R_drew)); exact HO_251001.out) hb); have n4_ := Aside0.mk (blk_below (g := gb206) (o := .cells #[.int .i64 a0_0, .slice A0_1 l0_1.length c0_1] 59 (0, 0)) (by (with_reducible repeat (first | refine blk_drewN ?_ _ | refine blk_drew ?_ | refine blk_alloc ?_ _)); exact BK206.out) hb); have n5_ := Aside0.mk (blk_below (g := gb217) (o := .cells #[.int .i64 t212, .slice Ao23 t213.length co23] 48 (0, 0)) (by (with_reducible repeat (first | refine blk_drewN ?_ _ | refine blk_drew ?_ | refine blk_alloc ?_ _)); exact BK217.out) hb); have n6_ := Aside0.mk (blk_below (g := gb222) (o := .cells #[.int .i64 t218, .slice Ao30 t236.length co30] 48 (0, 0)) (by (with_reducible repeat (first | refine blk_drewN ?_ _ | refine blk_drew ?_ | refine blk_alloc ?_ _)); exact BK222.out) hb); have n7_ := Aside0.mk (blk_below (g := gb228) (o := .cells #[.int .i64 t223, .slice Ao37 t239.length co37] 48 (0, 0)) (by (with_reducible repeat (first | refine blk_drewN ?_ _ | refine blk_drew ?_ | refine blk_alloc ?_ _)); exact BK228.out) hb); have n8_ := Aside0.mk (blk_below (g := gb250) (o := .cells #[.int .i64 t245, .slice Ao124 t246.length co124] 48 (0, 0)) (by (with_reducible repeat (first | refine blk_drewN ?_ _ | refine blk_drew ?_ | refine blk_alloc ?_ _)); exact BK250.out) hb); have n9_ := Aside0.mk (below_step (by repeat (first | (with_reducible first | exact HB.out | apply bwA | apply bwN | apply bwD | refine below_set ?_ GE206.out | refine below_set ?_ GE217.out | refine below_set ?_ GE222.out | refine below_set ?_ GE228.out | refine below_set ?_ GE250.out) | exact HB.out)) hb); clear HO_218001; clear HO_223001; clear HO_229001; clear HO_251001; clear BK206; clear BK217; clear BK222; clear BK228; clear BK250; clear HB; have HO_218001 := n0_; have HO_223001 := n1_; have HO_229001 := n2_; have HO_251001 := n3_; have BK206 := n4_; have BK217 := n5_; have BK222 := n6_; have BK228 := n7_; have BK250 := n8_; have HB := n9_; clear n0_ n1_ n2_ n3_ n4_ n5_ n6_ n7_ n8_ n9_; (try clear hb); (try clear hb2); (try clear hk); (try clear hi)))
                go_ret
                exact ⟨by first | rfl | (simp [errW_none, errW_some] <;> rfl) | (simp [*, errW_none, errW_some] <;> rfl), by repeat (first | (with_reducible first | exact HB.out | apply bwA | apply bwN | apply bwD | refine below_set ?_ GE206.out | refine below_set ?_ GE217.out | refine below_set ?_ GE222.out | refine below_set ?_ GE228.out | refine below_set ?_ GE250.out) | exact HB.out)⟩
          ·rw [if_neg c101] at H
           have c101b0 : (t240 == t238) = false := beq_eq_false_iff_ne.mpr c101
           have c101b1 : (t240 != t238) = true := bne_iff_ne.mpr c101
           obtain rfl := Option.some.inj H
           have hnb169 := NB228_206.out
           have hnc169 := NB206_228.out
           have hnb170 := NB228_217.out
           have hnc170 := NB217_228.out
           have hnb171 := NB228_222.out
           have hnc171 := NB222_228.out
           have hcz172_0 : wc.cell? ⟨gb228, 0, none⟩ = some (.int .i64 t223) := (blk_cell BK228.out 0).trans rfl
           have hcz172_1 : wc.cell? ⟨gb228, 1, none⟩ = some (.slice Ao37 t224.length co37) := (blk_cell BK228.out 1).trans rfl
           have hfz172_0 := blk_frozen BK228.out 0
           have hfz172_1 := blk_frozen BK228.out 1
           go_wp2_with (first | ((with_reducible refine gate_callee (f := 40) rfl ?_); refine goesL_ (some 68) rfl rfl Try.func40 (by kernel_rfl) rfl #[.agg #[.int .i64 t223, .slice Ao37 t224.length co37], .int .i64 1] rfl (by (try simp only [List.map_toArray, List.map_cons, List.map_nil]); first | done | rfl | (simp only [List.length_drop, List.length_take]; rfl)) ?_; (with_reducible refine (laws_markDiagram.calls kj60 t223 (fun k_ => some k_ = (.slice Ao37 t224.length co37 : Value).ownBlock) (.slice Ao37 t224.length co37) t224 1 t238 t239 w _ ?side1 ?side2 A91.out).mono ?_); (case side1 => repeat (first | (with_reducible first | exact HB.out | apply bwA | apply bwN | apply bwD | refine below_set ?_ GE206.out | refine below_set ?_ GE217.out | refine below_set ?_ GE222.out | refine below_set ?_ GE228.out) | exact HB.out)); (case side2 => exact Kd.R_tight rfl HO_229001.out); rintro e w173 ⟨rfl, hy0, hb, hkp⟩; refine ⟨_, rfl, ?_⟩; have n0_ := Aside0.mk (Kd.R_mono (ok' := fun k_ => some k_ ≠ (.slice Ao30 t236.length co30 : Value).ownBlock ∧ some k_ ≠ (.slice Ao37 t224.length co37 : Value).ownBlock) (Kd.R_keptB (HO_218001.out) hkp (fun k_ hk_ hs_ => (hk_.2) hs_)) (fun k_ hk_ => ⟨hk_.1.1, hk_.1.2⟩)); have n1_ := Aside0.mk (Kd.R_mono (ok' := fun k_ => some k_ ≠ (.slice Ao23 t213.length co23 : Value).ownBlock ∧ some k_ ≠ (.slice Ao37 t224.length co37 : Value).ownBlock) (Kd.R_keptB (HO_223001.out) hkp (fun k_ hk_ hs_ => (hk_.2) hs_)) (fun k_ hk_ => ⟨hk_.1.1, hk_.1.2⟩)); have n2_ := Aside0.mk (Kd.R_reok rfl hy0 (fun k_ e_ => HO_229001.out.1 k_ e_)); have n3_ := Aside0.mk (blk_kept (by (with_reducible repeat (first | refine blk_drewN ?_ _ | refine blk_drew ?_ | refine blk_alloc ?_ _)); exact BK206.out) hkp (fun hs_ => (fun e_ => (Kd.R_ne HO_229001.out BK206.out (by decide)) e_) hs_)); have n4_ := Aside0.mk (blk_kept (by (with_reducible repeat (first | refine blk_drewN ?_ _ | refine blk_drew ?_ | refine blk_alloc ?_ _)); exact BK217.out) hkp (fun hs_ => (fun e_ => (Kd.R_ne HO_229001.out BK217.out (by decide)) e_) hs_)); have n5_ := Aside0.mk (blk_kept (by (with_reducible repeat (first | refine blk_drewN ?_ _ | refine blk_drew ?_ | refine blk_alloc ?_ _)); exact BK222.out) hkp (fun hs_ => (fun e_ => (Kd.R_ne HO_229001.out BK222.out (by decide)) e_) hs_)); have n6_ := Aside0.mk (blk_kept (by (with_reducible repeat (first | refine blk_drewN ?_ _ | refine blk_drew ?_ | refine blk_alloc ?_ _)); exact BK228.out) hkp (fun hs_ => (fun e_ => (Kd.R_ne HO_229001.out BK228.out (by decide)) e_) hs_)); have n7_ := Aside0.mk (hb); clear HO_218001; clear HO_223001; clear HO_229001; clear BK206; clear BK217; clear BK222; clear BK228; clear HB; have HO_218001 := n0_; have HO_223001 := n1_; have HO_229001 := n2_; have BK206 := n3_; have BK217 := n4_; have BK222 := n5_; have BK228 := n6_; have HB := n7_; clear n0_ n1_ n2_ n3_ n4_ n5_ n6_ n7_; (try clear hb); (try clear hkp); (try clear hy0); have hcz174_0 : w173.cell? ⟨gb228, 0, none⟩ = some (.int .i64 t223) := (blk_cell BK228.out 0).trans rfl; have hcz174_1 : w173.cell? ⟨gb228, 1, none⟩ = some (.slice Ao37 t224.length co37) := (blk_cell BK228.out 1).trans rfl; have hfz174_0 := blk_frozen BK228.out 0; have hfz174_1 := blk_frozen BK228.out 1) | ((with_reducible refine gate_callee (f := 41) rfl ?_); refine goesL_ (some 71) rfl rfl Try.func41 (by kernel_rfl) rfl #[.agg #[.int .i64 t223, .slice Ao37 t239.length co37], .int .i64 1] rfl (by (try simp only [List.map_toArray, List.map_cons, List.map_nil]); first | done | (rw [show t239.length = t224.length from (Kd.R_reads' HO_229001.out).1.symm] <;> rfl) | rfl | (simp only [List.length_drop, List.length_take]; rfl)) ?_; (with_reducible refine (laws_heldDiagram.calls kj60 t223 _ _ t239 1 t240 _ ?side1 ?side2 A92.out).mono ?_); (case side1 => repeat (first | exact (Kd.R_reads' HO_229001.out).2.2 | (with_reducible refine Kd.C_alloc ?_ _) | (with_reducible refine Kd.C_drewN ?_ _) | (with_reducible refine Kd.C_drew ?_))); (case side2 => rw [show t239.length = t224.length from (Kd.R_reads' HO_229001.out).1.symm]; exact (Kd.R_reads' HO_229001.out).2.1); rintro e w175 ⟨rfl, hb⟩; refine ⟨_, rfl, ?_⟩; have n0_ := Aside0.mk (Kd.R_below (by (with_reducible repeat (first | apply Kd.R_alloc | apply Kd.R_drewN | apply Kd.R_drew)); exact HO_218001.out) hb); have n1_ := Aside0.mk (Kd.R_below (by (with_reducible repeat (first | apply Kd.R_alloc | apply Kd.R_drewN | apply Kd.R_drew)); exact HO_223001.out) hb); have n2_ := Aside0.mk (Kd.R_below (by (with_reducible repeat (first | apply Kd.R_alloc | apply Kd.R_drewN | apply Kd.R_drew)); exact HO_229001.out) hb); have n3_ := Aside0.mk (blk_below (g := gb206) (o := .cells #[.int .i64 a0_0, .slice A0_1 l0_1.length c0_1] 59 (0, 0)) (by (with_reducible repeat (first | refine blk_drewN ?_ _ | refine blk_drew ?_ | refine blk_alloc ?_ _)); exact BK206.out) hb); have n4_ := Aside0.mk (blk_below (g := gb217) (o := .cells #[.int .i64 t212, .slice Ao23 t213.length co23] 48 (0, 0)) (by (with_reducible repeat (first | refine blk_drewN ?_ _ | refine blk_drew ?_ | refine blk_alloc ?_ _)); exact BK217.out) hb); have n5_ := Aside0.mk (blk_below (g := gb222) (o := .cells #[.int .i64 t218, .slice Ao30 t236.length co30] 48 (0, 0)) (by (with_reducible repeat (first | refine blk_drewN ?_ _ | refine blk_drew ?_ | refine blk_alloc ?_ _)); exact BK222.out) hb); have n6_ := Aside0.mk (blk_below (g := gb228) (o := .cells #[.int .i64 t223, .slice Ao37 t224.length co37] 48 (0, 0)) (by (with_reducible repeat (first | refine blk_drewN ?_ _ | refine blk_drew ?_ | refine blk_alloc ?_ _)); exact BK228.out) hb); have n7_ := Aside0.mk (below_step (by repeat (first | (with_reducible first | exact HB.out | apply bwA | apply bwN | apply bwD | refine below_set ?_ GE206.out | refine below_set ?_ GE217.out | refine below_set ?_ GE222.out | refine below_set ?_ GE228.out) | exact HB.out)) hb); clear HO_218001; clear HO_223001; clear HO_229001; clear BK206; clear BK217; clear BK222; clear BK228; clear HB; have HO_218001 := n0_; have HO_223001 := n1_; have HO_229001 := n2_; have BK206 := n3_; have BK217 := n4_; have BK222 := n5_; have BK228 := n6_; have HB := n7_; clear n0_ n1_ n2_ n3_ n4_ n5_ n6_ n7_; (try clear hb); (try clear hb2); (try clear hk); (try clear hi)))
           go_ret
           exact ⟨by first | rfl | (simp [errW_none, errW_some] <;> rfl) | (simp [*, errW_none, errW_some] <;> rfl), by repeat (first | (with_reducible first | exact HB.out | apply bwA | apply bwN | apply bwD | refine below_set ?_ GE206.out | refine below_set ?_ GE217.out | refine below_set ?_ GE222.out | refine below_set ?_ GE228.out) | exact HB.out)⟩
     ·replace c59 := Bool.eq_false_iff.mpr c59
      subst c59
      have H1 : (some false) = some r := by rw [if_neg (show ¬ (false = true) by decide)] at H; exact H
      clear H
      have H := H1
      clear H1
      obtain rfl := Option.some.inj H
      try go_wp2
      have n0_ := Aside0.mk (Kd.R_drew HO_218001.out)
      have n1_ := Aside0.mk (Kd.R_drew HO_223001.out)
      have n2_ := Aside0.mk (Kd.R_drew HO_229001.out)
      have n3_ := Aside0.mk (blk_drew BK206.out)
      have n4_ := Aside0.mk (blk_drew BK217.out)
      have n5_ := Aside0.mk (blk_drew BK222.out)
      have n6_ := Aside0.mk (blk_drew BK228.out)
      have n7_ := Aside0.mk (below_drew1 HB.out)
      clear HO_218001
      clear HO_223001
      clear HO_229001
      clear BK206
      clear BK217
      clear BK222
      clear BK228
      clear HB
      have HO_218001 := n0_
      have HO_223001 := n1_
      have HO_229001 := n2_
      have BK206 := n3_
      have BK217 := n4_
      have BK222 := n5_
      have BK228 := n6_
      have HB := n7_
      clear n0_ n1_ n2_ n3_ n4_ n5_ n6_ n7_
      refine start_ (n := 5) (S := fun w' => w'.cell? ⟨gb222, 0, none⟩ = some (.int .i64 t218) ∧ w'.cell? ⟨gb222, 1, none⟩ = some (.slice Ao30 t219.length co30) ∧ w'.cell? ⟨gb206, 0, none⟩ = some (.int .i64 a0_0) ∧ w'.cell? ⟨gb206, 1, none⟩ = some (.slice A0_1 l0_1.length c0_1)) (ds := []) #[false, false, false, false, false] (by kernel_rfl) rfl rfl ⟨(blk_cell BK222.out 0).trans rfl, (blk_cell BK222.out 1).trans rfl, (blk_cell BK206.out 0).trans rfl, (blk_cell BK206.out 1).trans rfl⟩ (fun hHeld => ?_)
      generalize wc.drew = w176 at HO_218001 HO_223001 HO_229001 BK206 BK217 BK222 BK228 HB hHeld ⊢
      refine take_ (i := 0) (N := some 45) (v := ?_) (a' := ?_) #[true, false, false, false, false] rfl rfl (by kernel_rfl) (fun _ _ _ h => h) (Or.inl ⟨by rfl, ?_⟩) hHeld ?_ ?_
      rotate_left
      ·rintro w' ⟨s0, s1, s2, s3⟩
       go_simp
       with_reducible rfl
      rotate_left
      ·simp only [Act.put, List.setIfInBounds_toArray, List.set_cons_zero, List.set_cons_succ, i64_w, i32_w]
       rfl
      refine take_ (i := 1) (N := some 46) (v := ?_) (a' := ?_) #[true, true, false, false, false] rfl rfl (by kernel_rfl) (fun _ _ _ h => h) (Or.inl ⟨by rfl, ?_⟩) hHeld ?_ ?_
      rotate_left
      ·rintro w' ⟨s0, s1, s2, s3⟩
       go_simp
       with_reducible rfl
      rotate_left
      ·simp only [Act.put, List.setIfInBounds_toArray, List.set_cons_zero, List.set_cons_succ, i64_w, i32_w]
       rfl
      refine one_ (i := 2) (N := some 47) #[true, true, true, false, false] rfl rfl (by kernel_rfl) (by decide) (fun K hK => ?_)
      refine goes_ Try.func38 (by kernel_rfl) rfl #[.agg #[.int .i64 a0_0, .slice A0_1 l0_1.length c0_1]] (by rfl) rfl rfl (by (try simp only [List.map_toArray, List.map_cons, List.map_nil]); first | done | rfl | (simp only [List.length_drop, List.length_take]; rfl)) ?_
      with_reducible refine (laws_toDiagram.calls kj11 a0_0 _ _ l0_1 t230 t231 _ ?side1 ?side2 A57.out).mono ?_
      (case side1 => repeat (first | exact (Kd.C_below HR0_1.out HB.out) | (with_reducible refine Kd.C_alloc ?_ _) | (with_reducible refine Kd.C_drewN ?_ _) | (with_reducible refine Kd.C_drew ?_)))
      (case side2 => exact HC0_1.out)
      rintro e w177 ⟨v232, rfl, ho0, hb⟩
      refine ⟨_, rfl, ?_⟩
      have n0_ := Aside0.mk (Kd.R_elder' (by (with_reducible repeat (first | apply Kd.R_alloc | apply Kd.R_drewN | apply Kd.R_drew)); exact HO_218001.out) (Kd.R_base ho0) hb)
      have n1_ := Aside0.mk (Kd.R_elder' (by (with_reducible repeat (first | apply Kd.R_alloc | apply Kd.R_drewN | apply Kd.R_drew)); exact HO_223001.out) (Kd.R_base ho0) hb)
      have n2_ := Aside0.mk (Kd.R_elder' (by (with_reducible repeat (first | apply Kd.R_alloc | apply Kd.R_drewN | apply Kd.R_drew)); exact HO_229001.out) (Kd.R_base ho0) hb)
      have n3_ := Aside0.mk (Kd.R_lower (Kd.R_new' (Kd.R_new' (Kd.R_new' ho0 (Kd.R_lt (by (with_reducible repeat (first | apply Kd.R_alloc | apply Kd.R_drewN | apply Kd.R_drew)); exact HO_218001.out))) (Kd.R_lt (by (with_reducible repeat (first | apply Kd.R_alloc | apply Kd.R_drewN | apply Kd.R_drew)); exact HO_223001.out))) (Kd.R_lt (by (with_reducible repeat (first | apply Kd.R_alloc | apply Kd.R_drewN | apply Kd.R_drew)); exact HO_229001.out))) (below_size (by repeat (first | (with_reducible first | exact HB.out | apply bwA | apply bwN | apply bwD | refine below_set ?_ GE206.out | refine below_set ?_ GE217.out | refine below_set ?_ GE222.out | refine below_set ?_ GE228.out) | exact HB.out))))
      have n4_ := Aside0.mk (blk_below (g := gb206) (o := .cells #[.int .i64 a0_0, .slice A0_1 l0_1.length c0_1] 59 (0, 0)) (by (with_reducible repeat (first | refine blk_drewN ?_ _ | refine blk_drew ?_ | refine blk_alloc ?_ _)); exact BK206.out) hb)
      have n5_ := Aside0.mk (blk_below (g := gb217) (o := .cells #[.int .i64 t212, .slice Ao23 t213.length co23] 48 (0, 0)) (by (with_reducible repeat (first | refine blk_drewN ?_ _ | refine blk_drew ?_ | refine blk_alloc ?_ _)); exact BK217.out) hb)
      have n6_ := Aside0.mk (blk_below (g := gb222) (o := .cells #[.int .i64 t218, .slice Ao30 t219.length co30] 48 (0, 0)) (by (with_reducible repeat (first | refine blk_drewN ?_ _ | refine blk_drew ?_ | refine blk_alloc ?_ _)); exact BK222.out) hb)
      have n7_ := Aside0.mk (blk_below (g := gb228) (o := .cells #[.int .i64 t223, .slice Ao37 t224.length co37] 48 (0, 0)) (by (with_reducible repeat (first | refine blk_drewN ?_ _ | refine blk_drew ?_ | refine blk_alloc ?_ _)); exact BK228.out) hb)
      have n8_ := Aside0.mk (below_step (by repeat (first | (with_reducible first | exact HB.out | apply bwA | apply bwN | apply bwD | refine below_set ?_ GE206.out | refine below_set ?_ GE217.out | refine below_set ?_ GE222.out | refine below_set ?_ GE228.out) | exact HB.out)) hb)
      clear HO_218001
      clear HO_223001
      clear HO_229001
      clear BK206
      clear BK217
      clear BK222
      clear BK228
      clear HB
      have HO_218001 := n0_
      have HO_223001 := n1_
      have HO_229001 := n2_
      have HO233 := n3_
      have BK206 := n4_
      have BK217 := n5_
      have BK222 := n6_
      have BK228 := n7_
      have HB := n8_
      clear n0_ n1_ n2_ n3_ n4_ n5_ n6_ n7_ n8_
      (try clear hb)
      (try clear hb2)
      (try clear hk)
      (try clear hi)
      (try clear ho0)
      obtain ⟨Ao178, co178, eo178⟩ := Kd.R_slice HO233.out
      (first | subst eo178 | (injection eo178 with f1_ f2_ f3_; have f4_ := f1_.symm; have f5_ := f3_.symm; clear f1_ f2_ f3_; subst f4_; subst f5_))
      refine hK.out _ _ ⟨(blk_cell BK222.out 0).trans rfl, (blk_cell BK222.out 1).trans rfl, (blk_cell BK206.out 0).trans rfl, (blk_cell BK206.out 1).trans rfl⟩ (fun hHeld => ?_)
      clear hK K
      refine norm_ (a' := ?_) ?_ ?_
      rotate_left
      ·show Act.put _ (some 47) _ = _
       simp only [Act.put, List.setIfInBounds_toArray, List.set_cons_zero, List.set_cons_succ, i64_w, i32_w]
       rfl
      refine one_ (i := 3) (N := some 48) #[true, true, true, true, false] rfl rfl (by kernel_rfl) (by decide) (fun K hK => ?_)
      refine goes_ Try.func39 (by kernel_rfl) rfl #[.agg #[.int .i64 t218, .slice Ao30 t219.length co30], .agg #[.int .i64 t230, .slice Ao178 t231.length co178]] (by rfl) rfl rfl (by (try simp only [List.map_toArray, List.map_cons, List.map_nil]); first | done | rfl | (simp only [List.length_drop, List.length_take]; rfl)) ?_
      with_reducible refine (laws_eqDiagram.calls kj11 t218 _ _ t219 t230 _ _ t231 false _ ?side1 ?side2 ?side3 ?side4 A58.out).mono ?_
      (case side1 => repeat (first | exact (Kd.R_reads' HO_223001.out).2.2 | (with_reducible refine Kd.C_alloc ?_ _) | (with_reducible refine Kd.C_drewN ?_ _) | (with_reducible refine Kd.C_drew ?_)))
      (case side2 => exact (Kd.R_reads' HO_223001.out).2.1)
      (case side3 => repeat (first | exact (Kd.R_reads' HO233.out).2.2 | (with_reducible refine Kd.C_alloc ?_ _) | (with_reducible refine Kd.C_drewN ?_ _) | (with_reducible refine Kd.C_drew ?_)))
      (case side4 => exact (Kd.R_reads' HO233.out).2.1)
      rintro e w179 ⟨rfl, hb⟩
      refine ⟨_, rfl, ?_⟩
      have n0_ := Aside0.mk (Kd.R_below (by (with_reducible repeat (first | apply Kd.R_alloc | apply Kd.R_drewN | apply Kd.R_drew)); exact HO_218001.out) hb)
      have n1_ := Aside0.mk (Kd.R_below (by (with_reducible repeat (first | apply Kd.R_alloc | apply Kd.R_drewN | apply Kd.R_drew)); exact HO_223001.out) hb)
      have n2_ := Aside0.mk (Kd.R_below (by (with_reducible repeat (first | apply Kd.R_alloc | apply Kd.R_drewN | apply Kd.R_drew)); exact HO_229001.out) hb)
      have n3_ := Aside0.mk (Kd.R_below (by (with_reducible repeat (first | apply Kd.R_alloc | apply Kd.R_drewN | apply Kd.R_drew)); exact HO233.out) hb)
      have n4_ := Aside0.mk (blk_below (g := gb206) (o := .cells #[.int .i64 a0_0, .slice A0_1 l0_1.length c0_1] 59 (0, 0)) (by (with_reducible repeat (first | refine blk_drewN ?_ _ | refine blk_drew ?_ | refine blk_alloc ?_ _)); exact BK206.out) hb)
      have n5_ := Aside0.mk (blk_below (g := gb217) (o := .cells #[.int .i64 t212, .slice Ao23 t213.length co23] 48 (0, 0)) (by (with_reducible repeat (first | refine blk_drewN ?_ _ | refine blk_drew ?_ | refine blk_alloc ?_ _)); exact BK217.out) hb)
      have n6_ := Aside0.mk (blk_below (g := gb222) (o := .cells #[.int .i64 t218, .slice Ao30 t219.length co30] 48 (0, 0)) (by (with_reducible repeat (first | refine blk_drewN ?_ _ | refine blk_drew ?_ | refine blk_alloc ?_ _)); exact BK222.out) hb)
      have n7_ := Aside0.mk (blk_below (g := gb228) (o := .cells #[.int .i64 t223, .slice Ao37 t224.length co37] 48 (0, 0)) (by (with_reducible repeat (first | refine blk_drewN ?_ _ | refine blk_drew ?_ | refine blk_alloc ?_ _)); exact BK228.out) hb)
      have n8_ := Aside0.mk (below_step (by repeat (first | (with_reducible first | exact HB.out | apply bwA | apply bwN | apply bwD | refine below_set ?_ GE206.out | refine below_set ?_ GE217.out | refine below_set ?_ GE222.out | refine below_set ?_ GE228.out) | exact HB.out)) hb)
      clear HO_218001
      clear HO_223001
      clear HO_229001
      clear HO233
      clear BK206
      clear BK217
      clear BK222
      clear BK228
      clear HB
      have HO_218001 := n0_
      have HO_223001 := n1_
      have HO_229001 := n2_
      have HO233 := n3_
      have BK206 := n4_
      have BK217 := n5_
      have BK222 := n6_
      have BK228 := n7_
      have HB := n8_
      clear n0_ n1_ n2_ n3_ n4_ n5_ n6_ n7_ n8_
      (try clear hb)
      (try clear hb2)
      (try clear hk)
      (try clear hi)
      refine hK.out _ _ ⟨(blk_cell BK222.out 0).trans rfl, (blk_cell BK222.out 1).trans rfl, (blk_cell BK206.out 0).trans rfl, (blk_cell BK206.out 1).trans rfl⟩ (fun hHeld => ?_)
      clear hK K
      refine norm_ (a' := ?_) ?_ ?_
      rotate_left
      ·show Act.put _ (some 48) _ = _
       simp only [Act.put, List.setIfInBounds_toArray, List.set_cons_zero, List.set_cons_succ, i64_w, i32_w]
       rfl
      refine pure_ (i := 4) (N := some 49) (v := ?_) (a' := ?_) #[true, true, true, true, true] rfl rfl (by kernel_rfl) (fun _ _ _ h => h) (Or.inl ⟨by rfl, ?_⟩) ?_ ?_
      rotate_left
      ·intro w'
       go_simp
       with_reducible rfl
      rotate_left
      ·simp only [Act.put, List.setIfInBounds_toArray, List.set_cons_zero, List.set_cons_succ, i64_w, i32_w]
       rfl
      refine done_ (by kernel_rfl) ?_
      try go_wp2
      go_ret
      exact ⟨by first | rfl | (simp [errW_none, errW_some] <;> rfl) | (simp [*, errW_none, errW_some] <;> rfl), by repeat (first | (with_reducible first | exact HB.out | apply bwA | apply bwN | apply bwD | refine below_set ?_ GE206.out | refine below_set ?_ GE217.out | refine below_set ?_ GE222.out | refine below_set ?_ GE228.out) | exact HB.out)⟩
def GoodIi64 (x : Int) : Prop := (Lit.int .i64 x).wf = true
def GoodS138 (x : S138) : Prop := GoodIi64 x.f0 ∧ GoodIi64 x.f1 ∧ GoodIi64 x.f2
def GoodL3 (x : List (S138)) : Prop := (x.length ≤ maxLen ∧ ∀ x_ ∈ x, GoodS138 x_)
/-- THE ONE PURE STATEMENT of laws_FnExactCompacted. -/
def laws_FnExactCompacted.Pure : Prop := ∀ (a0_0 : Int) (l0_1 : List (S138)) (a1 : Int), GoodIi64 a0_0 → GoodL3 l0_1 → GoodIi64 a1 → ∃ k, laws_FnExactCompacted.f k a0_0 l0_1 a1 = some true
theorem laws_FnExactCompacted.walk (P : laws_FnExactCompacted.Pure) (a0_0 : Int) (A0_1 : Option Addr) (c0_1 : Nat) (l0_1 : List (S138)) (a1 : Int) (w : World) (hr0_1 : Kd.C k138 w A0_1 l0_1.length l0_1) (hc0_1 : l0_1.length ≤ c0_1) (g0_0 : GoodIi64 a0_0) (g0_1 : GoodL3 l0_1) (g1 : GoodIi64 a1) :
  Calls Try.prog 8 #[.agg #[.int .i64 a0_0, .slice A0_1 l0_1.length c0_1], .int .i64 a1] w fun e w' => e = .returned (.bool true) ∧ Below w.heap.size w w' := by
 obtain ⟨k, h⟩ := P a0_0 l0_1 a1 g0_0 g0_1 g1
 refine (laws_FnExactCompacted.calls k a0_0 _ _ l0_1 a1 true w hr0_1 hc0_1 h).mono ?_
 rintro e w' ⟨rfl, hd⟩
 exact ⟨rfl, hd⟩

end Go.Proofs.Ytpcckoljocpchaa.QFnExactCompacted
