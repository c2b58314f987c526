-- Written by a program of this session (mk.py). Lean checks it.
import Derived.Test.YtpcckoljocpchaaQFnExactSwapOrderx0
import Derived.Test.YtpcckoljocpchaaQFnExactSwapOrderx2
import Derived.Test.YtpcckoljocpchaaQFnExactSwapOrderx3
import Derived.Test.YtpcckoljocpchaaQFnExactSwapOrderx9
import Derived.Test.YtpcckoljocpchaaQFnExactSwapOrderx12
namespace Go.Proofs.Ytpcckoljocpchaa.QFnExactSwapOrder
open Go.RowKit Go.Proofs.YtpcckoljocpchaaW.PrintWords Go.Proofs.YtpcckoljocpchaaW.PrintLast Go.Proofs.YtpcckoljocpchaaW.PrintMore
attribute [local go_sem] max2_int min2_int max_two min_two max_three min_three max_four min_four   -- for this text's walks alone
set_option linter.unusedVariables false
set_option linter.unusedSimpArgs false

/-! ### laws_FnExactSwapOrder: function 10 -/
mutual
def laws_FnExactSwapOrder.j0 : Nat → Int → Int → Int → Int → Bool → Int → List (S138) → Int → List (S56) → Int → List (S56) → Int → List (S56) → Option (Bool)
 | 0, _, _, _, _, _, _, _, _, _, _, _, _, _ => none
 | k + 1, x1, x2, x9, x12, x48, x264000, x264001, x275000, x275001, x280000, x280001, x286000, x286001 => if x48 = true then (some false) else ((laws_toDiagram.f k x264000 x264001).bind fun bt287 => ((laws_eqDiagram.f k x280000 x280001 bt287.1 bt287.2).bind fun t291 => (if t291 = true then ((laws_markDiagram.f k x280000 x280001 1).bind fun bt292 => (if bt292.1 < 0 then (laws_FnExactSwapOrder.j1 k x1 x2 x9 true x264000 x264001 x275000 x275001 x286000 x286001) else ((laws_eqDiagram.f k x286000 x286001 x275000 x275001).bind fun t294 => (if t294 = true then (laws_FnExactSwapOrder.j1 k x1 x2 x9 (x12 != x9) x264000 x264001 x275000 x275001 x286000 x286001) else (laws_FnExactSwapOrder.j1 k x1 x2 x9 true x264000 x264001 x275000 x275001 x286000 x286001))))) else (some false))))
def laws_FnExactSwapOrder.j1 : Nat → Int → Int → Int → Bool → Int → List (S138) → Int → List (S56) → Int → List (S56) → Option (Bool)
 | 0, _, _, _, _, _, _, _, _, _, _ => none
 | k + 1, x1, x2, x9, x69, x264000, x264001, x275000, x275001, x286000, x286001 => if x69 = true then (some false) else ((laws_markDiagram.f k x286000 x286001 1).bind fun bt295 => ((laws_heldDiagram.f k x286000 bt295.2 1).bind fun t297 => (if t297 < 0 then (some false) else (if t297 = bt295.1 then ((laws_toDiagram.f k x264000 x264001).bind fun bt298 => ((impl_SwapOrder.f k bt298.1 bt298.2 x1 x2).bind fun bt302 => ((laws_eqDiagram.f k bt302.1 bt302.2.1 x275000 x275001).bind fun t308 => (if t308 = true then (laws_FnExactSwapOrder.j2 k bt295.1 (bt302.2.2 != x9) x286000 bt295.2) else (laws_FnExactSwapOrder.j2 k bt295.1 true x286000 bt295.2))))) else (some false)))))
def laws_FnExactSwapOrder.j2 : Nat → Int → Bool → Int → List (S56) → Option (Bool)
 | 0, _, _, _, _ => none
 | k + 1, x14, x97, x286000, x286001 => if x97 = true then (some false) else ((laws_heldDiagram.f k x286000 x286001 1).bind fun t309 => (if t309 < 0 then (some false) else (if t309 = x14 then (some true) else (some false))))
end
def laws_FnExactSwapOrder.f (k : Nat) (a0_0 : Int) (l0_1 : List (S138)) (a1 : Int) (a2 : Int) : Option (Bool) := (laws_szDiagram.f a0_0 l0_1 1048576).bind fun t264 => (if t264 < 0 then (some true) else ((laws_toDiagram.f k a0_0 l0_1).bind fun bt265 => ((spec_SwapOrder.f k bt265.1 bt265.2 a1 a2).bind fun bt269 => ((laws_toDiagram.f k a0_0 l0_1).bind fun bt275 => ((impl_SwapOrder.f k bt275.1 bt275.2 a1 a2).bind fun bt280 => ((laws_eqDiagram.f k bt280.1 bt280.2.1 bt269.1 bt269.2.1).bind fun t286 => (if t286 = true then (laws_FnExactSwapOrder.j0 k a1 a2 bt269.2.2 bt280.2.2 (bt280.2.2 != bt269.2.2) a0_0 l0_1 bt269.1 bt269.2.1 bt275.1 bt275.2 bt280.1 bt280.2.1) else (laws_FnExactSwapOrder.j0 k a1 a2 bt269.2.2 bt280.2.2 true a0_0 l0_1 bt269.1 bt269.2.1 bt275.1 bt275.2 bt280.1 bt280.2.1))))))))
theorem laws_FnExactSwapOrder.mono_l : ∀ k, (∀ y0 y1 y2 y3 y4 y5 y6 y7 y8 y9 y10 y11 y12, LeO (laws_FnExactSwapOrder.j0 k y0 y1 y2 y3 y4 y5 y6 y7 y8 y9 y10 y11 y12) (laws_FnExactSwapOrder.j0 (k + 1) y0 y1 y2 y3 y4 y5 y6 y7 y8 y9 y10 y11 y12)) ∧ (∀ y0 y1 y2 y3 y4 y5 y6 y7 y8 y9, LeO (laws_FnExactSwapOrder.j1 k y0 y1 y2 y3 y4 y5 y6 y7 y8 y9) (laws_FnExactSwapOrder.j1 (k + 1) y0 y1 y2 y3 y4 y5 y6 y7 y8 y9)) ∧ (∀ y0 y1 y2 y3, LeO (laws_FnExactSwapOrder.j2 k y0 y1 y2 y3) (laws_FnExactSwapOrder.j2 (k + 1) y0 y1 y2 y3))
 | 0 => ⟨fun _ _ _ _ _ _ _ _ _ _ _ _ _ r h => by simp [laws_FnExactSwapOrder.j0] at h, fun _ _ _ _ _ _ _ _ _ _ r h => by simp [laws_FnExactSwapOrder.j1] at h, fun _ _ _ _ r h => by simp [laws_FnExactSwapOrder.j2] at h⟩
 | k + 1 => by
  obtain ⟨ih0, ih1, ih2⟩ := laws_FnExactSwapOrder.mono_l k
  refine ⟨?_, ?_, ?_⟩
  ·intro y0 y1 y2 y3 y4 y5 y6 y7 y8 y9 y10 y11 y12
   unfold laws_FnExactSwapOrder.j0
   repeat' first
   | (with_reducible exact ih0 _ _ _ _ _ _ _ _ _ _ _ _ _)
   | (with_reducible exact ih1 _ _ _ _ _ _ _ _ _ _)
   | (with_reducible exact ih2 _ _ _ _)
   | (with_reducible exact impl_SwapOrder.mono _ _ _ _ _)
   | (with_reducible exact laws_eqDiagram.mono _ _ _ _ _)
   | (with_reducible exact laws_heldDiagram.mono _ _ _ _)
   | (with_reducible exact laws_markDiagram.mono _ _ _ _)
   | (with_reducible exact laws_toDiagram.mono _ _ _)
   | (with_reducible exact spec_SwapOrder.mono _ _ _ _ _)
   | (with_reducible exact LeO.refl _)
   | (with_reducible exact LeO.none _)
   | (with_reducible refine LeO.ite ?_ ?_)
   | (with_reducible refine LeO.bind ?_ (fun _ => ?_))
   | exact ih0 _ _ _ _ _ _ _ _ _ _ _ _ _
   | exact ih1 _ _ _ _ _ _ _ _ _ _
   | exact ih2 _ _ _ _
   | exact impl_SwapOrder.mono _ _ _ _ _
   | exact laws_eqDiagram.mono _ _ _ _ _
   | exact laws_heldDiagram.mono _ _ _ _
   | exact laws_markDiagram.mono _ _ _ _
   | exact laws_toDiagram.mono _ _ _
   | exact spec_SwapOrder.mono _ _ _ _ _
   | exact LeO.none _
   | refine LeO.ite ?_ ?_
   | refine LeO.bind ?_ (fun _ => ?_)
  ·intro y0 y1 y2 y3 y4 y5 y6 y7 y8 y9
   unfold laws_FnExactSwapOrder.j1
   repeat' first
   | (with_reducible exact ih0 _ _ _ _ _ _ _ _ _ _ _ _ _)
   | (with_reducible exact ih1 _ _ _ _ _ _ _ _ _ _)
   | (with_reducible exact ih2 _ _ _ _)
   | (with_reducible exact impl_SwapOrder.mono _ _ _ _ _)
   | (with_reducible exact laws_eqDiagram.mono _ _ _ _ _)
   | (with_reducible exact laws_heldDiagram.mono _ _ _ _)
   | (with_reducible exact laws_markDiagram.mono _ _ _ _)
   | (with_reducible exact laws_toDiagram.mono _ _ _)
   | (with_reducible exact spec_SwapOrder.mono _ _ _ _ _)
   | (with_reducible exact LeO.refl _)
   | (with_reducible exact LeO.none _)
   | (with_reducible refine LeO.ite ?_ ?_)
   | (with_reducible refine LeO.bind ?_ (fun _ => ?_))
   | exact ih0 _ _ _ _ _ _ _ _ _ _ _ _ _
   | exact ih1 _ _ _ _ _ _ _ _ _ _
   | exact ih2 _ _ _ _
   | exact impl_SwapOrder.mono _ _ _ _ _
   | exact laws_eqDiagram.mono _ _ _ _ _
   | exact laws_heldDiagram.mono _ _ _ _
   | exact laws_markDiagram.mono _ _ _ _
   | exact laws_toDiagram.mono _ _ _
   | exact spec_SwapOrder.mono _ _ _ _ _
   | exact LeO.none _
   | refine LeO.ite ?_ ?_
   | refine LeO.bind ?_ (fun _ => ?_)
  ·intro y0 y1 y2 y3
   unfold laws_FnExactSwapOrder.j2
   repeat' first
   | (with_reducible exact ih0 _ _ _ _ _ _ _ _ _ _ _ _ _)
   | (with_reducible exact ih1 _ _ _ _ _ _ _ _ _ _)
   | (with_reducible exact ih2 _ _ _ _)
   | (with_reducible exact impl_SwapOrder.mono _ _ _ _ _)
   | (with_reducible exact laws_eqDiagram.mono _ _ _ _ _)
   | (with_reducible exact laws_heldDiagram.mono _ _ _ _)
   | (with_reducible exact laws_markDiagram.mono _ _ _ _)
   | (with_reducible exact laws_toDiagram.mono _ _ _)
   | (with_reducible exact spec_SwapOrder.mono _ _ _ _ _)
   | (with_reducible exact LeO.refl _)
   | (with_reducible exact LeO.none _)
   | (with_reducible refine LeO.ite ?_ ?_)
   | (with_reducible refine LeO.bind ?_ (fun _ => ?_))
   | exact ih0 _ _ _ _ _ _ _ _ _ _ _ _ _
   | exact ih1 _ _ _ _ _ _ _ _ _ _
   | exact ih2 _ _ _ _
   | exact impl_SwapOrder.mono _ _ _ _ _
   | exact laws_eqDiagram.mono _ _ _ _ _
   | exact laws_heldDiagram.mono _ _ _ _
   | exact laws_markDiagram.mono _ _ _ _
   | exact laws_toDiagram.mono _ _ _
   | exact spec_SwapOrder.mono _ _ _ _ _
   | exact LeO.none _
   | refine LeO.ite ?_ ?_
   | refine LeO.bind ?_ (fun _ => ?_)
theorem laws_FnExactSwapOrder.mono : ∀ a0 a1 a2 a3 k, LeO (laws_FnExactSwapOrder.f k a0 a1 a2 a3) (laws_FnExactSwapOrder.f (k + 1) a0 a1 a2 a3) := by
 intro a0 a1 a2 a3 k
 obtain ⟨ih0, ih1, ih2⟩ := laws_FnExactSwapOrder.mono_l k
 unfold laws_FnExactSwapOrder.f
 repeat' first
   | (with_reducible exact ih0 _ _ _ _ _ _ _ _ _ _ _ _ _)
   | (with_reducible exact ih1 _ _ _ _ _ _ _ _ _ _)
   | (with_reducible exact ih2 _ _ _ _)
   | (with_reducible exact impl_SwapOrder.mono _ _ _ _ _)
   | (with_reducible exact laws_eqDiagram.mono _ _ _ _ _)
   | (with_reducible exact laws_heldDiagram.mono _ _ _ _)
   | (with_reducible exact laws_markDiagram.mono _ _ _ _)
   | (with_reducible exact laws_toDiagram.mono _ _ _)
   | (with_reducible exact spec_SwapOrder.mono _ _ _ _ _)
   | (with_reducible exact LeO.refl _)
   | (with_reducible exact LeO.none _)
   | (with_reducible refine LeO.ite ?_ ?_)
   | (with_reducible refine LeO.bind ?_ (fun _ => ?_))
   | exact ih0 _ _ _ _ _ _ _ _ _ _ _ _ _
   | exact ih1 _ _ _ _ _ _ _ _ _ _
   | exact ih2 _ _ _ _
   | exact impl_SwapOrder.mono _ _ _ _ _
   | exact laws_eqDiagram.mono _ _ _ _ _
   | exact laws_heldDiagram.mono _ _ _ _
   | exact laws_markDiagram.mono _ _ _ _
   | exact laws_toDiagram.mono _ _ _
   | exact spec_SwapOrder.mono _ _ _ _ _
   | exact LeO.none _
   | refine LeO.ite ?_ ?_
   | refine LeO.bind ?_ (fun _ => ?_)
set_option maxHeartbeats 8000000 in
set_option maxRecDepth 100000 in
theorem laws_FnExactSwapOrder.calls (k : Nat) (a0_0 : Int) (A0_1 : Option Addr) (c0_1 : Nat) (l0_1 : List (S138)) (a1 : Int) (a2 : Int) (r : Bool) (w : World) (hr0_1 : Kd.C k138 w A0_1 l0_1.length l0_1) (hc0_1 : l0_1.length ≤ c0_1) (h : laws_FnExactSwapOrder.f k a0_0 l0_1 a1 a2 = some r) :
  Calls Try.prog 10 #[.agg #[.int .i64 a0_0, .slice A0_1 l0_1.length c0_1], .int .i64 a1, .int .i64 a2] w fun e w' => e = .returned (.bool r) ∧ Below w.heap.size w w' := by
 have hu59 := Try.underlying59
 have hu48 := Try.underlying48
 have HR0_1 := Aside0.mk hr0_1
 have HC0_1 := Aside0.mk hc0_1
 clear hr0_1 hc0_1
 have HB := Aside0.mk (Below.refl w.heap.size w)
 have H : ((laws_szDiagram.f a0_0 l0_1 1048576).bind fun t264 => (if t264 < 0 then (some true) else ((laws_toDiagram.f k a0_0 l0_1).bind fun bt265 => ((spec_SwapOrder.f k bt265.1 bt265.2 a1 a2).bind fun bt269 => ((laws_toDiagram.f k a0_0 l0_1).bind fun bt275 => ((impl_SwapOrder.f k bt275.1 bt275.2 a1 a2).bind fun bt280 => ((laws_eqDiagram.f k bt280.1 bt280.2.1 bt269.1 bt269.2.1).bind fun t286 => (if t286 = true then (laws_FnExactSwapOrder.j0 k a1 a2 bt269.2.2 bt280.2.2 (bt280.2.2 != bt269.2.2) a0_0 l0_1 bt269.1 bt269.2.1 bt275.1 bt275.2 bt280.1 bt280.2.1) else (laws_FnExactSwapOrder.j0 k a1 a2 bt269.2.2 bt280.2.2 true a0_0 l0_1 bt269.1 bt269.2.1 bt275.1 bt275.2 bt280.1 bt280.2.1))))))))) = some r := h
 clear h
 replace H := Option.bind_eq_some_iff.mp H
 obtain ⟨t264, A40, H⟩ := H
 replace H : (if t264 < 0 then (some true) else ((laws_toDiagram.f k a0_0 l0_1).bind fun bt265 => ((spec_SwapOrder.f k bt265.1 bt265.2 a1 a2).bind fun bt269 => ((laws_toDiagram.f k a0_0 l0_1).bind fun bt275 => ((impl_SwapOrder.f k bt275.1 bt275.2 a1 a2).bind fun bt280 => ((laws_eqDiagram.f k bt280.1 bt280.2.1 bt269.1 bt269.2.1).bind fun t286 => (if t286 = true then (laws_FnExactSwapOrder.j0 k a1 a2 bt269.2.2 bt280.2.2 (bt280.2.2 != bt269.2.2) a0_0 l0_1 bt269.1 bt269.2.1 bt275.1 bt275.2 bt280.1 bt280.2.1) else (laws_FnExactSwapOrder.j0 k a1 a2 bt269.2.2 bt280.2.2 true a0_0 l0_1 bt269.1 bt269.2.1 bt275.1 bt275.2 bt280.1 bt280.2.1)))))))) = some r := H
 have A4 := Aside0.mk A40
 clear A40
 by_cases c5 : t264 < 0
 ·rw [if_pos c5] at H
  have c5b0 : decide (t264 < 0) = true := decide_eq_true c5
  clear c5
  obtain rfl := Option.some.inj H
  go_enter Try.func10, Try.ntmps10
  go_wp2_with (first | ((with_reducible refine gate_dst (N := 3) rfl ?_); refine box_event ?hg (N := 3) ?hd (cs := #[.int .i64 a0_0, .slice A0_1 l0_1.length c0_1]) (t := 59) ?hr ?_; (case hd => rfl); (case hg => rfl); (case hr => first | (go_simp; done) | (go_simp; rfl)); intro gb263 hg w6 hbox hb; have n0_ := Aside0.mk (below_step (by repeat (first | (with_reducible first | exact HB.out | apply bwA | apply bwN | apply bwD) | exact HB.out)) hb); have n1_ := Aside0.mk (hbox); have n2_ := Aside0.mk ((by rw [hg]; exact (below_size (by repeat (first | (with_reducible first | exact HB.out | apply bwA | apply bwN | apply bwD) | exact HB.out))) : w.heap.size ≤ gb263)); have n3_ := Aside0.mk ((by rw [hg]; exact (below_size (by repeat (first | (with_reducible first | exact HB.out | apply bwA | apply bwN | apply bwD) | exact HB.out))) : w.heap.size ≤ gb263)); clear HB; have HB := n0_; have BK263 := n1_; have GW263 := n2_; have GE263 := n3_; clear n0_ n1_ n2_ n3_; clear hb hbox hg; have hcz7_0 : w6.cell? ⟨gb263, 0, none⟩ = some (.int .i64 a0_0) := (blk_cell BK263.out 0).trans rfl; have hcz7_1 : w6.cell? ⟨gb263, 1, none⟩ = some (.slice A0_1 l0_1.length c0_1) := (blk_cell BK263.out 1).trans rfl; have hfz7_0 := blk_frozen BK263.out 0; have hfz7_1 := blk_frozen BK263.out 1) | ((with_reducible refine gate_callee (f := 36) rfl ?_); refine goesL_ (some 20) rfl rfl Try.func36 (by kernel_rfl) rfl #[.agg #[.int .i64 a0_0, .slice A0_1 l0_1.length c0_1], .int .i64 1048576] rfl (by (try simp only [List.map_toArray, List.map_cons, List.map_nil]); first | done | rfl | (simp only [List.length_drop, List.length_take]; rfl)) ?_; (with_reducible refine (laws_szDiagram.calls a0_0 _ _ l0_1 1048576 t264 _ ?side1 ?side2 A4.out).mono ?_); (case side1 => repeat (first | exact (Kd.C_below HR0_1.out HB.out) | (with_reducible refine Kd.C_alloc ?_ _) | (with_reducible refine Kd.C_drewN ?_ _) | (with_reducible refine Kd.C_drew ?_))); (case side2 => exact HC0_1.out); rintro e w8 ⟨rfl, hb⟩; refine ⟨_, rfl, ?_⟩; have n0_ := Aside0.mk (blk_below (g := gb263) (o := .cells #[.int .i64 a0_0, .slice A0_1 l0_1.length c0_1] 59 (0, 0)) (by (with_reducible repeat (first | refine blk_drewN ?_ _ | refine blk_drew ?_ | refine blk_alloc ?_ _)); exact BK263.out) hb); have n1_ := Aside0.mk (below_step (by repeat (first | (with_reducible first | exact HB.out | apply bwA | apply bwN | apply bwD | refine below_set ?_ GE263.out) | exact HB.out)) hb); clear BK263; clear HB; have BK263 := n0_; have HB := n1_; clear n0_ n1_; (try clear hb); (try clear hb2); (try clear hk); (try clear hi)))
  go_ret
  exact ⟨by first | rfl | (simp [errW_none, errW_some] <;> rfl) | (simp [*, errW_none, errW_some] <;> rfl), by repeat (first | (with_reducible first | exact HB.out | apply bwA | apply bwN | apply bwD | refine below_set ?_ GE263.out) | exact HB.out)⟩
 ·rw [if_neg c5] at H
  have c5b0 : decide (t264 < 0) = false := decide_eq_false c5
  clear c5
  replace H := Option.bind_eq_some_iff.mp H
  obtain ⟨⟨t265, t266⟩, A90, H⟩ := H
  replace H : ((spec_SwapOrder.f k t265 t266 a1 a2).bind fun bt269 => ((laws_toDiagram.f k a0_0 l0_1).bind fun bt275 => ((impl_SwapOrder.f k bt275.1 bt275.2 a1 a2).bind fun bt280 => ((laws_eqDiagram.f k bt280.1 bt280.2.1 bt269.1 bt269.2.1).bind fun t286 => (if t286 = true then (laws_FnExactSwapOrder.j0 k a1 a2 bt269.2.2 bt280.2.2 (bt280.2.2 != bt269.2.2) a0_0 l0_1 bt269.1 bt269.2.1 bt275.1 bt275.2 bt280.1 bt280.2.1) else (laws_FnExactSwapOrder.j0 k a1 a2 bt269.2.2 bt280.2.2 true a0_0 l0_1 bt269.1 bt269.2.1 bt275.1 bt275.2 bt280.1 bt280.2.1)))))) = some r := H
  have A9 := Aside0.mk A90
  clear A90
  replace H := Option.bind_eq_some_iff.mp H
  obtain ⟨⟨t269, t270, t273⟩, A100, H⟩ := H
  replace H : ((laws_toDiagram.f k a0_0 l0_1).bind fun bt275 => ((impl_SwapOrder.f k bt275.1 bt275.2 a1 a2).bind fun bt280 => ((laws_eqDiagram.f k bt280.1 bt280.2.1 t269 t270).bind fun t286 => (if t286 = true then (laws_FnExactSwapOrder.j0 k a1 a2 t273 bt280.2.2 (bt280.2.2 != t273) a0_0 l0_1 t269 t270 bt275.1 bt275.2 bt280.1 bt280.2.1) else (laws_FnExactSwapOrder.j0 k a1 a2 t273 bt280.2.2 true a0_0 l0_1 t269 t270 bt275.1 bt275.2 bt280.1 bt280.2.1))))) = some r := H
  have A10 := Aside0.mk A100
  clear A100
  replace H := Option.bind_eq_some_iff.mp H
  obtain ⟨⟨t275, t276⟩, A110, H⟩ := H
  replace H : ((impl_SwapOrder.f k t275 t276 a1 a2).bind fun bt280 => ((laws_eqDiagram.f k bt280.1 bt280.2.1 t269 t270).bind fun t286 => (if t286 = true then (laws_FnExactSwapOrder.j0 k a1 a2 t273 bt280.2.2 (bt280.2.2 != t273) a0_0 l0_1 t269 t270 t275 t276 bt280.1 bt280.2.1) else (laws_FnExactSwapOrder.j0 k a1 a2 t273 bt280.2.2 true a0_0 l0_1 t269 t270 t275 t276 bt280.1 bt280.2.1)))) = some r := H
  have A11 := Aside0.mk A110
  clear A110
  replace H := Option.bind_eq_some_iff.mp H
  obtain ⟨⟨t280, t281, t284⟩, A120, H⟩ := H
  replace H : ((laws_eqDiagram.f k t280 t281 t269 t270).bind fun t286 => (if t286 = true then (laws_FnExactSwapOrder.j0 k a1 a2 t273 t284 (t284 != t273) a0_0 l0_1 t269 t270 t275 t276 t280 t281) else (laws_FnExactSwapOrder.j0 k a1 a2 t273 t284 true a0_0 l0_1 t269 t270 t275 t276 t280 t281))) = some r := H
  have A12 := Aside0.mk A120
  clear A120
  have HC13 := Aside0.mk H
  clear H
  go_enter Try.func10, Try.ntmps10
  go_upto_region 8 with (first | ((with_reducible refine gate_dst (N := 3) rfl ?_); refine box_event ?hg (N := 3) ?hd (cs := #[.int .i64 a0_0, .slice A0_1 l0_1.length c0_1]) (t := 59) ?hr ?_; (case hd => rfl); (case hg => rfl); (case hr => first | (go_simp; done) | (go_simp; rfl)); intro gb263 hg w14 hbox hb; have n0_ := Aside0.mk (below_step (by repeat (first | (with_reducible first | exact HB.out | apply bwA | apply bwN | apply bwD) | exact HB.out)) hb); have n1_ := Aside0.mk (hbox); have n2_ := Aside0.mk ((by rw [hg]; exact (below_size (by repeat (first | (with_reducible first | exact HB.out | apply bwA | apply bwN | apply bwD) | exact HB.out))) : w.heap.size ≤ gb263)); have n3_ := Aside0.mk ((by rw [hg]; exact (below_size (by repeat (first | (with_reducible first | exact HB.out | apply bwA | apply bwN | apply bwD) | exact HB.out))) : w.heap.size ≤ gb263)); clear HB; have HB := n0_; have BK263 := n1_; have GW263 := n2_; have GE263 := n3_; clear n0_ n1_ n2_ n3_; clear hb hbox hg; have hcz15_0 : w14.cell? ⟨gb263, 0, none⟩ = some (.int .i64 a0_0) := (blk_cell BK263.out 0).trans rfl; have hcz15_1 : w14.cell? ⟨gb263, 1, none⟩ = some (.slice A0_1 l0_1.length c0_1) := (blk_cell BK263.out 1).trans rfl; have hfz15_0 := blk_frozen BK263.out 0; have hfz15_1 := blk_frozen BK263.out 1) | ((with_reducible refine gate_callee (f := 36) rfl ?_); refine goesL_ (some 20) rfl rfl Try.func36 (by kernel_rfl) rfl #[.agg #[.int .i64 a0_0, .slice A0_1 l0_1.length c0_1], .int .i64 1048576] rfl (by (try simp only [List.map_toArray, List.map_cons, List.map_nil]); first | done | rfl | (simp only [List.length_drop, List.length_take]; rfl)) ?_; (with_reducible refine (laws_szDiagram.calls a0_0 _ _ l0_1 1048576 t264 _ ?side1 ?side2 A4.out).mono ?_); (case side1 => repeat (first | exact (Kd.C_below HR0_1.out HB.out) | (with_reducible refine Kd.C_alloc ?_ _) | (with_reducible refine Kd.C_drewN ?_ _) | (with_reducible refine Kd.C_drew ?_))); (case side2 => exact HC0_1.out); rintro e w16 ⟨rfl, hb⟩; refine ⟨_, rfl, ?_⟩; have n0_ := Aside0.mk (blk_below (g := gb263) (o := .cells #[.int .i64 a0_0, .slice A0_1 l0_1.length c0_1] 59 (0, 0)) (by (with_reducible repeat (first | refine blk_drewN ?_ _ | refine blk_drew ?_ | refine blk_alloc ?_ _)); exact BK263.out) hb); have n1_ := Aside0.mk (below_step (by repeat (first | (with_reducible first | exact HB.out | apply bwA | apply bwN | apply bwD | refine below_set ?_ GE263.out) | exact HB.out)) hb); clear BK263; clear HB; have BK263 := n0_; have HB := n1_; clear n0_ n1_; (try clear hb); (try clear hb2); (try clear hk); (try clear hi); have hcz17_0 : w16.cell? ⟨gb263, 0, none⟩ = some (.int .i64 a0_0) := (blk_cell BK263.out 0).trans rfl; have hcz17_1 : w16.cell? ⟨gb263, 1, none⟩ = some (.slice A0_1 l0_1.length c0_1) := (blk_cell BK263.out 1).trans rfl; have hfz17_0 := blk_frozen BK263.out 0; have hfz17_1 := blk_frozen BK263.out 1) | ((with_reducible refine gate_callee (f := 38) rfl ?_); refine goesL_ (some 25) rfl rfl Try.func38 (by kernel_rfl) rfl #[.agg #[.int .i64 a0_0, .slice A0_1 l0_1.length c0_1]] rfl (by (try simp only [List.map_toArray, List.map_cons, List.map_nil]); first | done | rfl | (simp only [List.length_drop, List.length_take]; rfl)) ?_; (with_reducible refine (laws_toDiagram.calls k a0_0 _ _ l0_1 t265 t266 _ ?side1 ?side2 A9.out).mono ?_); (case side1 => repeat (first | exact (Kd.C_below HR0_1.out HB.out) | (with_reducible refine Kd.C_alloc ?_ _) | (with_reducible refine Kd.C_drewN ?_ _) | (with_reducible refine Kd.C_drew ?_))); (case side2 => exact HC0_1.out); rintro e w18 ⟨v267, rfl, ho0, hb⟩; refine ⟨_, rfl, ?_⟩; have n0_ := Aside0.mk (Kd.R_lower ho0 (below_size (by repeat (first | (with_reducible first | exact HB.out | apply bwA | apply bwN | apply bwD | refine below_set ?_ GE263.out) | exact HB.out)))); have n1_ := Aside0.mk (blk_below (g := gb263) (o := .cells #[.int .i64 a0_0, .slice A0_1 l0_1.length c0_1] 59 (0, 0)) (by (with_reducible repeat (first | refine blk_drewN ?_ _ | refine blk_drew ?_ | refine blk_alloc ?_ _)); exact BK263.out) hb); have n2_ := Aside0.mk (below_step (by repeat (first | (with_reducible first | exact HB.out | apply bwA | apply bwN | apply bwD | refine below_set ?_ GE263.out) | exact HB.out)) hb); clear BK263; clear HB; have HO268 := n0_; have BK263 := n1_; have HB := n2_; clear n0_ n1_ n2_; (try clear hb); (try clear hb2); (try clear hk); (try clear hi); (try clear ho0); obtain ⟨Ao19, co19, eo19⟩ := Kd.R_slice HO268.out; subst eo19) | ((with_reducible refine gate_callee (f := 47) rfl ?_); refine goesL_ (some 28) rfl rfl Try.func47 (by kernel_rfl) rfl #[.agg #[.int .i64 t265, .slice Ao19 t266.length co19], .int .i64 a1, .int .i64 a2] rfl (by (try simp only [List.map_toArray, List.map_cons, List.map_nil]); first | done | rfl | (simp only [List.length_drop, List.length_take]; rfl)) ?_; (with_reducible refine (spec_SwapOrder.calls k t265 _ _ t266 a1 a2 t269 t270 t273 _ ?side1 ?side2 A10.out).mono ?_); (case side1 => repeat (first | exact (Kd.R_reads' HO268.out).2.2 | (with_reducible refine Kd.C_alloc ?_ _) | (with_reducible refine Kd.C_drewN ?_ _) | (with_reducible refine Kd.C_drew ?_))); (case side2 => exact (Kd.R_reads' HO268.out).2.1); rintro e w20 ⟨v271, rfl, ho0, hb⟩; refine ⟨_, rfl, ?_⟩; have n0_ := Aside0.mk (Kd.R_elder' (by (with_reducible repeat (first | apply Kd.R_alloc | apply Kd.R_drewN | apply Kd.R_drew)); exact HO268.out) (Kd.R_base ho0) hb); have n1_ := Aside0.mk (Kd.R_lower (Kd.R_new' ho0 (Kd.R_lt (by (with_reducible repeat (first | apply Kd.R_alloc | apply Kd.R_drewN | apply Kd.R_drew)); exact HO268.out))) (below_size (by repeat (first | (with_reducible first | exact HB.out | apply bwA | apply bwN | apply bwD | refine below_set ?_ GE263.out) | exact HB.out)))); have n2_ := Aside0.mk (blk_below (g := gb263) (o := .cells #[.int .i64 a0_0, .slice A0_1 l0_1.length c0_1] 59 (0, 0)) (by (with_reducible repeat (first | refine blk_drewN ?_ _ | refine blk_drew ?_ | refine blk_alloc ?_ _)); exact BK263.out) hb); have n3_ := Aside0.mk (below_step (by repeat (first | (with_reducible first | exact HB.out | apply bwA | apply bwN | apply bwD | refine below_set ?_ GE263.out) | exact HB.out)) hb); clear HO268; clear BK263; clear HB; have HO268 := n0_; have HO272 := n1_; have BK263 := n2_; have HB := n3_; clear n0_ n1_ n2_ n3_; (try clear hb); (try clear hb2); (try clear hk); (try clear hi); (try clear ho0)) | ((with_reducible refine gate_dst (N := 8) rfl ?_); refine box_event ?hg (N := 8) ?hd (cs := #[.int .i64 0, .slice none 0 0]) (t := 48) ?hr ?_; (case hd => rfl); (case hg => rfl); (case hr => first | (go_simp; done) | (go_simp; rfl)); intro gb274 hg w21 hbox hb; have n0_ := Aside0.mk (Kd.R_below (by (with_reducible repeat (first | apply Kd.R_alloc | apply Kd.R_drewN | apply Kd.R_drew)); exact HO268.out) hb); have n1_ := Aside0.mk (Kd.R_below (by (with_reducible repeat (first | apply Kd.R_alloc | apply Kd.R_drewN | apply Kd.R_drew)); exact HO272.out) hb); have n2_ := Aside0.mk (blk_below (g := gb263) (o := .cells #[.int .i64 a0_0, .slice A0_1 l0_1.length c0_1] 59 (0, 0)) (by (with_reducible repeat (first | refine blk_drewN ?_ _ | refine blk_drew ?_ | refine blk_alloc ?_ _)); exact BK263.out) hb); have n3_ := Aside0.mk (below_step (by repeat (first | (with_reducible first | exact HB.out | apply bwA | apply bwN | apply bwD | refine below_set ?_ GE263.out) | exact HB.out)) hb); have n4_ := Aside0.mk (hbox); have n5_ := Aside0.mk ((by rw [hg]; exact (below_size (by repeat (first | (with_reducible first | exact HB.out | apply bwA | apply bwN | apply bwD | refine below_set ?_ GE263.out) | exact HB.out))) : w.heap.size ≤ gb274)); have n6_ := Aside0.mk ((by rw [hg]; exact (below_size (by repeat (first | (with_reducible first | exact HB.out | apply bwA | apply bwN | apply bwD | refine below_set ?_ GE263.out) | exact HB.out))) : w.heap.size ≤ gb274)); have n7_ := Aside0.mk ((by rw [hg]; exact Nat.ne_of_lt (blk_lt (g := gb263) (o := .cells #[.int .i64 a0_0, .slice A0_1 l0_1.length c0_1] 59 (0, 0)) (by (with_reducible repeat (first | refine blk_drewN ?_ _ | refine blk_drew ?_ | refine blk_alloc ?_ _)); exact BK263.out)) : gb263 ≠ gb274)); have n8_ := Aside0.mk ((by rw [hg]; exact Nat.ne_of_gt (blk_lt (g := gb263) (o := .cells #[.int .i64 a0_0, .slice A0_1 l0_1.length c0_1] 59 (0, 0)) (by (with_reducible repeat (first | refine blk_drewN ?_ _ | refine blk_drew ?_ | refine blk_alloc ?_ _)); exact BK263.out)) : gb274 ≠ gb263)); clear HO268; clear HO272; clear BK263; clear HB; have HO268 := n0_; have HO272 := n1_; have BK263 := n2_; have HB := n3_; have BK274 := n4_; have GW274 := n5_; have GE274 := n6_; have NB263_274 := n7_; have NB274_263 := n8_; clear n0_ n1_ n2_ n3_ n4_ n5_ n6_ n7_ n8_; clear hb hbox hg; have hnb22 := NB274_263.out; have hnc22 := NB263_274.out; have hcz23_0 : w21.cell? ⟨gb274, 0, none⟩ = some (.int .i64 0) := (blk_cell BK274.out 0).trans rfl; have hcz23_1 : w21.cell? ⟨gb274, 1, none⟩ = some (.slice none 0 0) := (blk_cell BK274.out 1).trans rfl; have hfz23_0 := blk_frozen BK274.out 0; have hfz23_1 := blk_frozen BK274.out 1; obtain ⟨Ao24, co24, eo24⟩ := Kd.R_slice HO272.out; subst eo24; have hcz25_0 : w21.cell? ⟨gb263, 0, none⟩ = some (.int .i64 a0_0) := (blk_cell BK263.out 0).trans rfl; have hcz25_1 : w21.cell? ⟨gb263, 1, none⟩ = some (.slice A0_1 l0_1.length c0_1) := (blk_cell BK263.out 1).trans rfl; have hfz25_0 := blk_frozen BK263.out 0; have hfz25_1 := blk_frozen BK263.out 1) | ((with_reducible refine gate_callee (f := 38) rfl ?_); refine goesL_ (some 32) rfl rfl Try.func38 (by kernel_rfl) rfl #[.agg #[.int .i64 a0_0, .slice A0_1 l0_1.length c0_1]] rfl (by (try simp only [List.map_toArray, List.map_cons, List.map_nil]); first | done | rfl | (simp only [List.length_drop, List.length_take]; rfl)) ?_; (with_reducible refine (laws_toDiagram.calls k a0_0 _ _ l0_1 t275 t276 _ ?side1 ?side2 A11.out).mono ?_); (case side1 => exact Kd.C_below HR0_1.out (by repeat (first | (with_reducible first | exact HB.out | apply bwA | apply bwN | apply bwD | refine below_set ?_ GE263.out | refine below_set ?_ GE274.out) | exact HB.out))); (case side2 => exact HC0_1.out); rintro e w26 ⟨v277, rfl, ho0, hb⟩; refine ⟨_, rfl, ?_⟩; have n0_ := Aside0.mk (Kd.R_elder' (by (with_reducible repeat (first | apply Kd.R_alloc | apply Kd.R_drewN | apply Kd.R_drew)); exact (Kd.R_mono (Kd.R_far (p := ⟨gb274, 1, none⟩) (Kd.R_far (p := ⟨gb274, 0, none⟩) (Kd.R_types HO268.out BK274.out (by decide)) (fun _ hk => hk.2) (.int .i64 t269)) (fun _ hk => hk.2) (.slice Ao24 t270.length co24)) (fun _ h_ => h_.1))) (Kd.R_base ho0) hb); have n1_ := Aside0.mk (Kd.R_elder' (by (with_reducible repeat (first | apply Kd.R_alloc | apply Kd.R_drewN | apply Kd.R_drew)); exact (Kd.R_mono (Kd.R_far (p := ⟨gb274, 1, none⟩) (Kd.R_far (p := ⟨gb274, 0, none⟩) (Kd.R_types HO272.out BK274.out (by decide)) (fun _ hk => hk.2) (.int .i64 t269)) (fun _ hk => hk.2) (.slice Ao24 t270.length co24)) (fun _ h_ => h_.1))) (Kd.R_base ho0) hb); have n2_ := Aside0.mk (Kd.R_lower (Kd.R_new' (Kd.R_new' ho0 (Kd.R_lt (by (with_reducible repeat (first | apply Kd.R_alloc | apply Kd.R_drewN | apply Kd.R_drew)); exact (Kd.R_mono (Kd.R_far (p := ⟨gb274, 1, none⟩) (Kd.R_far (p := ⟨gb274, 0, none⟩) (Kd.R_types HO268.out BK274.out (by decide)) (fun _ hk => hk.2) (.int .i64 t269)) (fun _ hk => hk.2) (.slice Ao24 t270.length co24)) (fun _ h_ => h_.1))))) (Kd.R_lt (by (with_reducible repeat (first | apply Kd.R_alloc | apply Kd.R_drewN | apply Kd.R_drew)); exact (Kd.R_mono (Kd.R_far (p := ⟨gb274, 1, none⟩) (Kd.R_far (p := ⟨gb274, 0, none⟩) (Kd.R_types HO272.out BK274.out (by decide)) (fun _ hk => hk.2) (.int .i64 t269)) (fun _ hk => hk.2) (.slice Ao24 t270.length co24)) (fun _ h_ => h_.1))))) (below_size (by repeat (first | (with_reducible first | exact HB.out | apply bwA | apply bwN | apply bwD | refine below_set ?_ GE263.out | refine below_set ?_ GE274.out) | exact HB.out)))); have n3_ := Aside0.mk (blk_below (g := gb263) (o := .cells #[.int .i64 a0_0, .slice A0_1 l0_1.length c0_1] 59 (0, 0)) (by (with_reducible repeat (first | refine blk_drewN ?_ _ | refine blk_drew ?_ | refine blk_alloc ?_ _)); refine blk_far ?_ NB263_274.out _; (with_reducible repeat (first | refine blk_drewN ?_ _ | refine blk_drew ?_ | refine blk_alloc ?_ _)); refine blk_far ?_ NB263_274.out _; (with_reducible repeat (first | refine blk_drewN ?_ _ | refine blk_drew ?_ | refine blk_alloc ?_ _)); exact BK263.out) hb); have n4_ := Aside0.mk (blk_below (g := gb274) (o := .cells #[.int .i64 t269, .slice Ao24 t270.length co24] 48 (0, 0)) (by (with_reducible repeat (first | refine blk_drewN ?_ _ | refine blk_drew ?_ | refine blk_alloc ?_ _)); refine blk_put (cs := #[.int .i64 t269, .slice none 0 0]) ?_ 1 _ rfl; (with_reducible repeat (first | refine blk_drewN ?_ _ | refine blk_drew ?_ | refine blk_alloc ?_ _)); refine blk_put (cs := #[.int .i64 0, .slice none 0 0]) ?_ 0 _ rfl; (with_reducible repeat (first | refine blk_drewN ?_ _ | refine blk_drew ?_ | refine blk_alloc ?_ _)); exact BK274.out) hb); have n5_ := Aside0.mk (below_step (by repeat (first | (with_reducible first | exact HB.out | apply bwA | apply bwN | apply bwD | refine below_set ?_ GE263.out | refine below_set ?_ GE274.out) | exact HB.out)) hb); clear HO268; clear HO272; clear BK263; clear BK274; clear HB; have HO268 := n0_; have HO272 := n1_; have HO278 := n2_; have BK263 := n3_; have BK274 := n4_; have HB := n5_; clear n0_ n1_ n2_ n3_ n4_ n5_; (try clear hb); (try clear hb2); (try clear hk); (try clear hi); (try clear ho0)) | ((with_reducible refine gate_dst (N := 10) rfl ?_); refine box_event ?hg (N := 10) ?hd (cs := #[.int .i64 0, .slice none 0 0]) (t := 48) ?hr ?_; (case hd => rfl); (case hg => rfl); (case hr => first | (go_simp; done) | (go_simp; rfl)); intro gb279 hg w27 hbox hb; have n0_ := Aside0.mk (Kd.R_below (by (with_reducible repeat (first | apply Kd.R_alloc | apply Kd.R_drewN | apply Kd.R_drew)); exact HO268.out) hb); have n1_ := Aside0.mk (Kd.R_below (by (with_reducible repeat (first | apply Kd.R_alloc | apply Kd.R_drewN | apply Kd.R_drew)); exact HO272.out) hb); have n2_ := Aside0.mk (Kd.R_below (by (with_reducible repeat (first | apply Kd.R_alloc | apply Kd.R_drewN | apply Kd.R_drew)); exact HO278.out) hb); have n3_ := Aside0.mk (blk_below (g := gb263) (o := .cells #[.int .i64 a0_0, .slice A0_1 l0_1.length c0_1] 59 (0, 0)) (by (with_reducible repeat (first | refine blk_drewN ?_ _ | refine blk_drew ?_ | refine blk_alloc ?_ _)); exact BK263.out) hb); have n4_ := Aside0.mk (blk_below (g := gb274) (o := .cells #[.int .i64 t269, .slice Ao24 t270.length co24] 48 (0, 0)) (by (with_reducible repeat (first | refine blk_drewN ?_ _ | refine blk_drew ?_ | refine blk_alloc ?_ _)); exact BK274.out) hb); have n5_ := Aside0.mk (below_step (by repeat (first | (with_reducible first | exact HB.out | apply bwA | apply bwN | apply bwD | refine below_set ?_ GE263.out | refine below_set ?_ GE274.out) | exact HB.out)) hb); have n6_ := Aside0.mk (hbox); have n7_ := Aside0.mk ((by rw [hg]; exact (below_size (by repeat (first | (with_reducible first | exact HB.out | apply bwA | apply bwN | apply bwD | refine below_set ?_ GE263.out | refine below_set ?_ GE274.out) | exact HB.out))) : w.heap.size ≤ gb279)); have n8_ := Aside0.mk ((by rw [hg]; exact (below_size (by repeat (first | (with_reducible first | exact HB.out | apply bwA | apply bwN | apply bwD | refine below_set ?_ GE263.out | refine below_set ?_ GE274.out) | exact HB.out))) : w.heap.size ≤ gb279)); have n9_ := Aside0.mk ((by rw [hg]; exact Nat.ne_of_lt (blk_lt (g := gb263) (o := .cells #[.int .i64 a0_0, .slice A0_1 l0_1.length c0_1] 59 (0, 0)) (by (with_reducible repeat (first | refine blk_drewN ?_ _ | refine blk_drew ?_ | refine blk_alloc ?_ _)); exact BK263.out)) : gb263 ≠ gb279)); have n10_ := Aside0.mk ((by rw [hg]; exact Nat.ne_of_gt (blk_lt (g := gb263) (o := .cells #[.int .i64 a0_0, .slice A0_1 l0_1.length c0_1] 59 (0, 0)) (by (with_reducible repeat (first | refine blk_drewN ?_ _ | refine blk_drew ?_ | refine blk_alloc ?_ _)); exact BK263.out)) : gb279 ≠ gb263)); have n11_ := Aside0.mk ((by rw [hg]; exact Nat.ne_of_lt (blk_lt (g := gb274) (o := .cells #[.int .i64 t269, .slice Ao24 t270.length co24] 48 (0, 0)) (by (with_reducible repeat (first | refine blk_drewN ?_ _ | refine blk_drew ?_ | refine blk_alloc ?_ _)); exact BK274.out)) : gb274 ≠ gb279)); have n12_ := Aside0.mk ((by rw [hg]; exact Nat.ne_of_gt (blk_lt (g := gb274) (o := .cells #[.int .i64 t269, .slice Ao24 t270.length co24] 48 (0, 0)) (by (with_reducible repeat (first | refine blk_drewN ?_ _ | refine blk_drew ?_ | refine blk_alloc ?_ _)); exact BK274.out)) : gb279 ≠ gb274)); clear HO268; clear HO272; clear HO278; clear BK263; clear BK274; clear HB; have HO268 := n0_; have HO272 := n1_; have HO278 := n2_; have BK263 := n3_; have BK274 := n4_; have HB := n5_; have BK279 := n6_; have GW279 := n7_; have GE279 := n8_; have NB263_279 := n9_; have NB279_263 := n10_; have NB274_279 := n11_; have NB279_274 := n12_; clear n0_ n1_ n2_ n3_ n4_ n5_ n6_ n7_ n8_ n9_ n10_ n11_ n12_; clear hb hbox hg; have hnb28 := NB279_263.out; have hnc28 := NB263_279.out; have hnb29 := NB279_274.out; have hnc29 := NB274_279.out; have hcz30_0 : w27.cell? ⟨gb279, 0, none⟩ = some (.int .i64 0) := (blk_cell BK279.out 0).trans rfl; have hcz30_1 : w27.cell? ⟨gb279, 1, none⟩ = some (.slice none 0 0) := (blk_cell BK279.out 1).trans rfl; have hfz30_0 := blk_frozen BK279.out 0; have hfz30_1 := blk_frozen BK279.out 1; obtain ⟨Ao31, co31, eo31⟩ := Kd.R_slice HO278.out; subst eo31) | ((with_reducible refine gate_callee (f := 48) rfl ?_); refine goesL_ (some 37) rfl rfl Try.func48 (by kernel_rfl) rfl #[.agg #[.int .i64 t275, .slice Ao31 t276.length co31], .int .i64 a1, .int .i64 a2] rfl (by (try simp only [List.map_toArray, List.map_cons, List.map_nil]); first | done | rfl | (simp only [List.length_drop, List.length_take]; rfl)) ?_; (with_reducible refine (impl_SwapOrder.calls k t275 _ _ t276 a1 a2 t280 t281 t284 _ ?side1 ?side2 A12.out).mono ?_); (case side1 => refine (Kd.R_reads' (e := 56) (base := w.heap.size) (ok := fun k_ => ((True ∧ some k_ ≠ (.slice Ao19 t266.length co19 : Value).ownBlock) ∧ some k_ ≠ (.slice Ao24 t270.length co24 : Value).ownBlock)) (n := t276.length) (c := co31) ?_).2.2; exact (by (with_reducible repeat (first | apply Kd.R_alloc | apply Kd.R_drewN | apply Kd.R_drew)); exact (Kd.R_mono (Kd.R_far (p := ⟨gb279, 1, none⟩) (Kd.R_far (p := ⟨gb279, 0, none⟩) (Kd.R_types HO278.out BK279.out (by decide)) (fun _ hk => hk.2) (.int .i64 t275)) (fun _ hk => hk.2) (.slice Ao31 t276.length co31)) (fun _ h_ => h_.1)))); (case side2 => exact (Kd.R_reads' HO278.out).2.1); rintro e w32 ⟨v282, rfl, ho0, hb⟩; refine ⟨_, rfl, ?_⟩; have n0_ := Aside0.mk (Kd.R_elder' (by (with_reducible repeat (first | apply Kd.R_alloc | apply Kd.R_drewN | apply Kd.R_drew)); exact (Kd.R_mono (Kd.R_far (p := ⟨gb279, 1, none⟩) (Kd.R_far (p := ⟨gb279, 0, none⟩) (Kd.R_types HO268.out BK279.out (by decide)) (fun _ hk => hk.2) (.int .i64 t275)) (fun _ hk => hk.2) (.slice Ao31 t276.length co31)) (fun _ h_ => h_.1))) (Kd.R_base ho0) hb); have n1_ := Aside0.mk (Kd.R_elder' (by (with_reducible repeat (first | apply Kd.R_alloc | apply Kd.R_drewN | apply Kd.R_drew)); exact (Kd.R_mono (Kd.R_far (p := ⟨gb279, 1, none⟩) (Kd.R_far (p := ⟨gb279, 0, none⟩) (Kd.R_types HO272.out BK279.out (by decide)) (fun _ hk => hk.2) (.int .i64 t275)) (fun _ hk => hk.2) (.slice Ao31 t276.length co31)) (fun _ h_ => h_.1))) (Kd.R_base ho0) hb); have n2_ := Aside0.mk (Kd.R_elder' (by (with_reducible repeat (first | apply Kd.R_alloc | apply Kd.R_drewN | apply Kd.R_drew)); exact (Kd.R_mono (Kd.R_far (p := ⟨gb279, 1, none⟩) (Kd.R_far (p := ⟨gb279, 0, none⟩) (Kd.R_types HO278.out BK279.out (by decide)) (fun _ hk => hk.2) (.int .i64 t275)) (fun _ hk => hk.2) (.slice Ao31 t276.length co31)) (fun _ h_ => h_.1))) (Kd.R_base ho0) hb); have n3_ := Aside0.mk (Kd.R_lower (Kd.R_new' (Kd.R_new' (Kd.R_new' ho0 (Kd.R_lt (by (with_reducible repeat (first | apply Kd.R_alloc | apply Kd.R_drewN | apply Kd.R_drew)); exact (Kd.R_mono (Kd.R_far (p := ⟨gb279, 1, none⟩) (Kd.R_far (p := ⟨gb279, 0, none⟩) (Kd.R_types HO268.out BK279.out (by decide)) (fun _ hk => hk.2) (.int .i64 t275)) (fun _ hk => hk.2) (.slice Ao31 t276.length co31)) (fun _ h_ => h_.1))))) (Kd.R_lt (by (with_reducible repeat (first | apply Kd.R_alloc | apply Kd.R_drewN | apply Kd.R_drew)); exact (Kd.R_mono (Kd.R_far (p := ⟨gb279, 1, none⟩) (Kd.R_far (p := ⟨gb279, 0, none⟩) (Kd.R_types HO272.out BK279.out (by decide)) (fun _ hk => hk.2) (.int .i64 t275)) (fun _ hk => hk.2) (.slice Ao31 t276.length co31)) (fun _ h_ => h_.1))))) (Kd.R_lt (by (with_reducible repeat (first | apply Kd.R_alloc | apply Kd.R_drewN | apply Kd.R_drew)); exact (Kd.R_mono (Kd.R_far (p := ⟨gb279, 1, none⟩) (Kd.R_far (p := ⟨gb279, 0, none⟩) (Kd.R_types HO278.out BK279.out (by decide)) (fun _ hk => hk.2) (.int .i64 t275)) (fun _ hk => hk.2) (.slice Ao31 t276.length co31)) (fun _ h_ => h_.1))))) (below_size (by repeat (first | (with_reducible first | exact HB.out | apply bwA | apply bwN | apply bwD | refine below_set ?_ GE263.out | refine below_set ?_ GE274.out | refine below_set ?_ GE279.out) | exact HB.out)))); have n4_ := Aside0.mk (blk_below (g := gb263) (o := .cells #[.int .i64 a0_0, .slice A0_1 l0_1.length c0_1] 59 (0, 0)) (by (with_reducible repeat (first | refine blk_drewN ?_ _ | refine blk_drew ?_ | refine blk_alloc ?_ _)); refine blk_far ?_ NB263_279.out _; (with_reducible repeat (first | refine blk_drewN ?_ _ | refine blk_drew ?_ | refine blk_alloc ?_ _)); refine blk_far ?_ NB263_279.out _; (with_reducible repeat (first | refine blk_drewN ?_ _ | refine blk_drew ?_ | refine blk_alloc ?_ _)); exact BK263.out) hb); have n5_ := Aside0.mk (blk_below (g := gb274) (o := .cells #[.int .i64 t269, .slice Ao24 t270.length co24] 48 (0, 0)) (by (with_reducible repeat (first | refine blk_drewN ?_ _ | refine blk_drew ?_ | refine blk_alloc ?_ _)); refine blk_far ?_ NB274_279.out _; (with_reducible repeat (first | refine blk_drewN ?_ _ | refine blk_drew ?_ | refine blk_alloc ?_ _)); refine blk_far ?_ NB274_279.out _; (with_reducible repeat (first | refine blk_drewN ?_ _ | refine blk_drew ?_ | refine blk_alloc ?_ _)); exact BK274.out) hb); have n6_ := Aside0.mk (blk_below (g := gb279) (o := .cells #[.int .i64 t275, .slice Ao31 t276.length co31] 48 (0, 0)) (by (with_reducible repeat (first | refine blk_drewN ?_ _ | refine blk_drew ?_ | refine blk_alloc ?_ _)); refine blk_put (cs := #[.int .i64 t275, .slice none 0 0]) ?_ 1 _ rfl; (with_reducible repeat (first | refine blk_drewN ?_ _ | refine blk_drew ?_ | refine blk_alloc ?_ _)); refine blk_put (cs := #[.int .i64 0, .slice none 0 0]) ?_ 0 _ rfl; (with_reducible repeat (first | refine blk_drewN ?_ _ | refine blk_drew ?_ | refine blk_alloc ?_ _)); exact BK279.out) hb); have n7_ := Aside0.mk (below_step (by repeat (first | (with_reducible first | exact HB.out | apply bwA | apply bwN | apply bwD | refine below_set ?_ GE263.out | refine below_set ?_ GE274.out | refine below_set ?_ GE279.out) | exact HB.out)) hb); clear HO268; clear HO272; clear HO278; clear BK263; clear BK274; clear BK279; clear HB; have HO268 := n0_; have HO272 := n1_; have HO278 := n2_; have HO283 := n3_; have BK263 := n4_; have BK274 := n5_; have BK279 := n6_; have HB := n7_; clear n0_ n1_ n2_ n3_ n4_ n5_ n6_ n7_; (try clear hb); (try clear hb2); (try clear hk); (try clear hi); (try clear ho0)) | ((with_reducible refine gate_dst (N := 11) rfl ?_); refine box_event ?hg (N := 11) ?hd (cs := #[.int .i64 0, .slice none 0 0]) (t := 48) ?hr ?_; (case hd => rfl); (case hg => rfl); (case hr => first | (go_simp; done) | (go_simp; rfl)); intro gb285 hg w33 hbox hb; have n0_ := Aside0.mk (Kd.R_below (by (with_reducible repeat (first | apply Kd.R_alloc | apply Kd.R_drewN | apply Kd.R_drew)); exact HO268.out) hb); have n1_ := Aside0.mk (Kd.R_below (by (with_reducible repeat (first | apply Kd.R_alloc | apply Kd.R_drewN | apply Kd.R_drew)); exact HO272.out) hb); have n2_ := Aside0.mk (Kd.R_below (by (with_reducible repeat (first | apply Kd.R_alloc | apply Kd.R_drewN | apply Kd.R_drew)); exact HO278.out) hb); have n3_ := Aside0.mk (Kd.R_below (by (with_reducible repeat (first | apply Kd.R_alloc | apply Kd.R_drewN | apply Kd.R_drew)); exact HO283.out) hb); have n4_ := Aside0.mk (blk_below (g := gb263) (o := .cells #[.int .i64 a0_0, .slice A0_1 l0_1.length c0_1] 59 (0, 0)) (by (with_reducible repeat (first | refine blk_drewN ?_ _ | refine blk_drew ?_ | refine blk_alloc ?_ _)); exact BK263.out) hb); have n5_ := Aside0.mk (blk_below (g := gb274) (o := .cells #[.int .i64 t269, .slice Ao24 t270.length co24] 48 (0, 0)) (by (with_reducible repeat (first | refine blk_drewN ?_ _ | refine blk_drew ?_ | refine blk_alloc ?_ _)); exact BK274.out) hb); have n6_ := Aside0.mk (blk_below (g := gb279) (o := .cells #[.int .i64 t275, .slice Ao31 t276.length co31] 48 (0, 0)) (by (with_reducible repeat (first | refine blk_drewN ?_ _ | refine blk_drew ?_ | refine blk_alloc ?_ _)); exact BK279.out) hb); have n7_ := Aside0.mk (below_step (by repeat (first | (with_reducible first | exact HB.out | apply bwA | apply bwN | apply bwD | refine below_set ?_ GE263.out | refine below_set ?_ GE274.out | refine below_set ?_ GE279.out) | exact HB.out)) hb); have n8_ := Aside0.mk (hbox); have n9_ := Aside0.mk ((by rw [hg]; exact (below_size (by repeat (first | (with_reducible first | exact HB.out | apply bwA | apply bwN | apply bwD | refine below_set ?_ GE263.out | refine below_set ?_ GE274.out | refine below_set ?_ GE279.out) | exact HB.out))) : w.heap.size ≤ gb285)); have n10_ := Aside0.mk ((by rw [hg]; exact (below_size (by repeat (first | (with_reducible first | exact HB.out | apply bwA | apply bwN | apply bwD | refine below_set ?_ GE263.out | refine below_set ?_ GE274.out | refine below_set ?_ GE279.out) | exact HB.out))) : w.heap.size ≤ gb285)); have n11_ := Aside0.mk ((by rw [hg]; exact Nat.ne_of_lt (blk_lt (g := gb263) (o := .cells #[.int .i64 a0_0, .slice A0_1 l0_1.length c0_1] 59 (0, 0)) (by (with_reducible repeat (first | refine blk_drewN ?_ _ | refine blk_drew ?_ | refine blk_alloc ?_ _)); exact BK263.out)) : gb263 ≠ gb285)); have n12_ := Aside0.mk ((by rw [hg]; exact Nat.ne_of_gt (blk_lt (g := gb263) (o := .cells #[.int .i64 a0_0, .slice A0_1 l0_1.length c0_1] 59 (0, 0)) (by (with_reducible repeat (first | refine blk_drewN ?_ _ | refine blk_drew ?_ | refine blk_alloc ?_ _)); exact BK263.out)) : gb285 ≠ gb263)); have n13_ := Aside0.mk ((by rw [hg]; exact Nat.ne_of_lt (blk_lt (g := gb274) (o := .cells #[.int .i64 t269, .slice Ao24 t270.length co24] 48 (0, 0)) (by (with_reducible repeat (first | refine blk_drewN ?_ _ | refine blk_drew ?_ | refine blk_alloc ?_ _)); exact BK274.out)) : gb274 ≠ gb285)); have n14_ := Aside0.mk ((by rw [hg]; exact Nat.ne_of_gt (blk_lt (g := gb274) (o := .cells #[.int .i64 t269, .slice Ao24 t270.length co24] 48 (0, 0)) (by (with_reducible repeat (first | refine blk_drewN ?_ _ | refine blk_drew ?_ | refine blk_alloc ?_ _)); exact BK274.out)) : gb285 ≠ gb274)); have n15_ := Aside0.mk ((by rw [hg]; exact Nat.ne_of_lt (blk_lt (g := gb279) (o := .cells #[.int .i64 t275, .slice Ao31 t276.length co31] 48 (0, 0)) (by (with_reducible repeat (first | refine blk_drewN ?_ _ | refine blk_drew ?_ | refine blk_alloc ?_ _)); exact BK279.out)) : gb279 ≠ gb285)); have n16_ := Aside0.mk ((by rw [hg]; exact Nat.ne_of_gt (blk_lt (g := gb279) (o := .cells #[.int .i64 t275, .slice Ao31 t276.length co31] 48 (0, 0)) (by (with_reducible repeat (first | refine blk_drewN ?_ _ | refine blk_drew ?_ | refine blk_alloc ?_ _)); exact BK279.out)) : gb285 ≠ gb279)); clear HO268; clear HO272; clear HO278; clear HO283; clear BK263; clear BK274; clear BK279; clear HB; have HO268 := n0_; have HO272 := n1_; have HO278 := n2_; have HO283 := n3_; have BK263 := n4_; have BK274 := n5_; have BK279 := n6_; have HB := n7_; have BK285 := n8_; have GW285 := n9_; have GE285 := n10_; have NB263_285 := n11_; have NB285_263 := n12_; have NB274_285 := n13_; have NB285_274 := n14_; have NB279_285 := n15_; have NB285_279 := n16_; clear n0_ n1_ n2_ n3_ n4_ n5_ n6_ n7_ n8_ n9_ n10_ n11_ n12_ n13_ n14_ n15_ n16_; clear hb hbox hg; have hnb34 := NB285_263.out; have hnc34 := NB263_285.out; have hnb35 := NB285_274.out; have hnc35 := NB274_285.out; have hnb36 := NB285_279.out; have hnc36 := NB279_285.out; have hcz37_0 : w33.cell? ⟨gb285, 0, none⟩ = some (.int .i64 0) := (blk_cell BK285.out 0).trans rfl; have hcz37_1 : w33.cell? ⟨gb285, 1, none⟩ = some (.slice none 0 0) := (blk_cell BK285.out 1).trans rfl; have hfz37_0 := blk_frozen BK285.out 0; have hfz37_1 := blk_frozen BK285.out 1; obtain ⟨Ao38, co38, eo38⟩ := Kd.R_slice HO283.out; subst eo38))
  (try simp only [Act.put, List.setIfInBounds_toArray, List.set_cons_zero, List.set_cons_succ])
  go_cut [48] (fun v48 wc => ∃ (kq : Nat) (x48_12 : Bool), v48 = .bool x48_12 ∧ Aside0 (laws_FnExactSwapOrder.j0 kq a1 a2 t273 t284 x48_12 a0_0 l0_1 t269 t270 t275 t276 t280 t281 = some r) ∧ Aside0 (kq ≤ k) ∧ Aside0 (Kd.R k56 56 wc w.heap.size (fun k_ => some k_ ≠ ((.slice Ao31 t276.length co31) : Value).ownBlock ∧ some k_ ≠ ((.slice Ao38 t281.length co38) : Value).ownBlock) (.slice Ao24 t270.length co24) t270) ∧ Aside0 (Kd.R k56 56 wc w.heap.size (fun k_ => some k_ ≠ ((.slice Ao24 t270.length co24) : Value).ownBlock ∧ some k_ ≠ ((.slice Ao38 t281.length co38) : Value).ownBlock) (.slice Ao31 t276.length co31) t276) ∧ Aside0 (Kd.R k56 56 wc w.heap.size (fun k_ => some k_ ≠ ((.slice Ao24 t270.length co24) : Value).ownBlock ∧ some k_ ≠ ((.slice Ao31 t276.length co31) : Value).ownBlock) (.slice Ao38 t281.length co38) t281) ∧ Aside0 (wc.heap[gb263]? = some (.cells #[.int .i64 a0_0, (.slice A0_1 l0_1.length c0_1)] 59 (0, 0))) ∧ Aside0 (wc.heap[gb274]? = some (.cells #[.int .i64 t269, (.slice Ao24 t270.length co24)] 48 (0, 0))) ∧ Aside0 (wc.heap[gb279]? = some (.cells #[.int .i64 t275, (.slice Ao31 t276.length co31)] 48 (0, 0))) ∧ Aside0 (wc.heap[gb285]? = some (.cells #[.int .i64 t280, (.slice Ao38 t281.length co38)] 48 (0, 0))) ∧ Aside0 (Below w.heap.size w wc))
  case first =>
   have H := HC13.out
   clear HC13
   replace H := Option.bind_eq_some_iff.mp H
   obtain ⟨t286, A390, H⟩ := H
   replace H : (if t286 = true then (laws_FnExactSwapOrder.j0 k a1 a2 t273 t284 (t284 != t273) a0_0 l0_1 t269 t270 t275 t276 t280 t281) else (laws_FnExactSwapOrder.j0 k a1 a2 t273 t284 true a0_0 l0_1 t269 t270 t275 t276 t280 t281)) = some r := H
   have A39 := Aside0.mk A390
   clear A390
   by_cases c40 : t286 = true
   ·subst c40
    have H1 : (laws_FnExactSwapOrder.j0 k a1 a2 t273 t284 (t284 != t273) a0_0 l0_1 t269 t270 t275 t276 t280 t281) = some r := by rw [if_pos rfl] at H; exact H
    clear H
    have H := H1
    clear H1
    have H' := Aside0.mk H
    clear H
    have hnb41 := NB285_263.out
    have hnc41 := NB263_285.out
    have hnb42 := NB285_274.out
    have hnc42 := NB274_285.out
    have hnb43 := NB285_279.out
    have hnc43 := NB279_285.out
    have hcz44_0 : w33.cell? ⟨gb285, 0, none⟩ = some (.int .i64 0) := (blk_cell BK285.out 0).trans rfl
    have hcz44_1 : w33.cell? ⟨gb285, 1, none⟩ = some (.slice none 0 0) := (blk_cell BK285.out 1).trans rfl
    have hfz44_0 := blk_frozen BK285.out 0
    have hfz44_1 := blk_frozen BK285.out 1
    have hnb45 := NB274_263.out
    have hnc45 := NB263_274.out
    have hnb46 := NB274_279.out
    have hnc46 := NB279_274.out
    have hcz47_0 : w33.cell? ⟨gb274, 0, none⟩ = some (.int .i64 t269) := (blk_cell BK274.out 0).trans rfl
    have hcz47_1 : w33.cell? ⟨gb274, 1, none⟩ = some (.slice Ao24 t270.length co24) := (blk_cell BK274.out 1).trans rfl
    have hfz47_0 := blk_frozen BK274.out 0
    have hfz47_1 := blk_frozen BK274.out 1
    go_wp2_with (first | ((with_reducible refine gate_callee (f := 39) rfl ?_); refine goesL_ (some 42) rfl rfl Try.func39 (by kernel_rfl) rfl #[.agg #[.int .i64 t280, .slice Ao38 t281.length co38], .agg #[.int .i64 t269, .slice Ao24 t270.length co24]] rfl (by (try simp only [List.map_toArray, List.map_cons, List.map_nil]); first | done | rfl | (simp only [List.length_drop, List.length_take]; rfl)) ?_; (with_reducible refine (laws_eqDiagram.calls k t280 _ _ t281 t269 _ _ t270 true _ ?side1 ?side2 ?side3 ?side4 A39.out).mono ?_); (case side1 => refine (Kd.R_reads' (e := 56) (base := w.heap.size) (ok := fun k_ => (((True ∧ some k_ ≠ (.slice Ao19 t266.length co19 : Value).ownBlock) ∧ some k_ ≠ (.slice Ao24 t270.length co24 : Value).ownBlock) ∧ some k_ ≠ (.slice Ao31 t276.length co31 : Value).ownBlock)) (n := t281.length) (c := co38) ?_).2.2; exact (by (with_reducible repeat (first | apply Kd.R_alloc | apply Kd.R_drewN | apply Kd.R_drew)); exact (Kd.R_mono (Kd.R_far (p := ⟨gb285, 1, none⟩) (Kd.R_far (p := ⟨gb285, 0, none⟩) (Kd.R_types HO283.out BK285.out (by decide)) (fun _ hk => hk.2) (.int .i64 t280)) (fun _ hk => hk.2) (.slice Ao38 t281.length co38)) (fun _ h_ => h_.1)))); (case side2 => exact (Kd.R_reads' HO283.out).2.1); (case side3 => refine (Kd.R_reads' (e := 56) (base := w.heap.size) (ok := fun k_ => (((True ∧ some k_ ≠ (.slice Ao19 t266.length co19 : Value).ownBlock) ∧ some k_ ≠ (.slice Ao31 t276.length co31 : Value).ownBlock) ∧ some k_ ≠ (.slice Ao38 t281.length co38 : Value).ownBlock)) (n := t270.length) (c := co24) ?_).2.2; exact (by (with_reducible repeat (first | apply Kd.R_alloc | apply Kd.R_drewN | apply Kd.R_drew)); exact (Kd.R_mono (Kd.R_far (p := ⟨gb285, 1, none⟩) (Kd.R_far (p := ⟨gb285, 0, none⟩) (Kd.R_types HO272.out BK285.out (by decide)) (fun _ hk => hk.2) (.int .i64 t280)) (fun _ hk => hk.2) (.slice Ao38 t281.length co38)) (fun _ h_ => h_.1)))); (case side4 => exact (Kd.R_reads' HO272.out).2.1); rintro e w48 ⟨rfl, hb⟩; refine ⟨_, rfl, ?_⟩; have n0_ := Aside0.mk (Kd.R_below (by (with_reducible repeat (first | apply Kd.R_alloc | apply Kd.R_drewN | apply Kd.R_drew)); exact (Kd.R_mono (Kd.R_far (p := ⟨gb285, 1, none⟩) (Kd.R_far (p := ⟨gb285, 0, none⟩) (Kd.R_types HO268.out BK285.out (by decide)) (fun _ hk => hk.2) (.int .i64 t280)) (fun _ hk => hk.2) (.slice Ao38 t281.length co38)) (fun _ h_ => h_.1))) hb); have n1_ := Aside0.mk (Kd.R_below (by (with_reducible repeat (first | apply Kd.R_alloc | apply Kd.R_drewN | apply Kd.R_drew)); exact (Kd.R_mono (Kd.R_far (p := ⟨gb285, 1, none⟩) (Kd.R_far (p := ⟨gb285, 0, none⟩) (Kd.R_types HO272.out BK285.out (by decide)) (fun _ hk => hk.2) (.int .i64 t280)) (fun _ hk => hk.2) (.slice Ao38 t281.length co38)) (fun _ h_ => h_.1))) hb); have n2_ := Aside0.mk (Kd.R_below (by (with_reducible repeat (first | apply Kd.R_alloc | apply Kd.R_drewN | apply Kd.R_drew)); exact (Kd.R_mono (Kd.R_far (p := ⟨gb285, 1, none⟩) (Kd.R_far (p := ⟨gb285, 0, none⟩) (Kd.R_types HO278.out BK285.out (by decide)) (fun _ hk => hk.2) (.int .i64 t280)) (fun _ hk => hk.2) (.slice Ao38 t281.length co38)) (fun _ h_ => h_.1))) hb); have n3_ := Aside0.mk (Kd.R_below (by (with_reducible repeat (first | apply Kd.R_alloc | apply Kd.R_drewN | apply Kd.R_drew)); exact (Kd.R_mono (Kd.R_far (p := ⟨gb285, 1, none⟩) (Kd.R_far (p := ⟨gb285, 0, none⟩) (Kd.R_types HO283.out BK285.out (by decide)) (fun _ hk => hk.2) (.int .i64 t280)) (fun _ hk => hk.2) (.slice Ao38 t281.length co38)) (fun _ h_ => h_.1))) hb); have n4_ := Aside0.mk (blk_below (g := gb263) (o := .cells #[.int .i64 a0_0, .slice A0_1 l0_1.length c0_1] 59 (0, 0)) (by (with_reducible repeat (first | refine blk_drewN ?_ _ | refine blk_drew ?_ | refine blk_alloc ?_ _)); refine blk_far ?_ NB263_285.out _; (with_reducible repeat (first | refine blk_drewN ?_ _ | refine blk_drew ?_ | refine blk_alloc ?_ _)); refine blk_far ?_ NB263_285.out _; (with_reducible repeat (first | refine blk_drewN ?_ _ | refine blk_drew ?_ | refine blk_alloc ?_ _)); exact BK263.out) hb); have n5_ := Aside0.mk (blk_below (g := gb274) (o := .cells #[.int .i64 t269, .slice Ao24 t270.length co24] 48 (0, 0)) (by (with_reducible repeat (first | refine blk_drewN ?_ _ | refine blk_drew ?_ | refine blk_alloc ?_ _)); refine blk_far ?_ NB274_285.out _; (with_reducible repeat (first | refine blk_drewN ?_ _ | refine blk_drew ?_ | refine blk_alloc ?_ _)); refine blk_far ?_ NB274_285.out _; (with_reducible repeat (first | refine blk_drewN ?_ _ | refine blk_drew ?_ | refine blk_alloc ?_ _)); exact BK274.out) hb); have n6_ := Aside0.mk (blk_below (g := gb279) (o := .cells #[.int .i64 t275, .slice Ao31 t276.length co31] 48 (0, 0)) (by (with_reducible repeat (first | refine blk_drewN ?_ _ | refine blk_drew ?_ | refine blk_alloc ?_ _)); refine blk_far ?_ NB279_285.out _; (with_reducible repeat (first | refine blk_drewN ?_ _ | refine blk_drew ?_ | refine blk_alloc ?_ _)); refine blk_far ?_ NB279_285.out _; (with_reducible repeat (first | refine blk_drewN ?_ _ | refine blk_drew ?_ | refine blk_alloc ?_ _)); exact BK279.out) hb); have n7_ := Aside0.mk (blk_below (g := gb285) (o := .cells #[.int .i64 t280, .slice Ao38 t281.length co38] 48 (0, 0)) (by (with_reducible repeat (first | refine blk_drewN ?_ _ | refine blk_drew ?_ | refine blk_alloc ?_ _)); refine blk_put (cs := #[.int .i64 t280, .slice none 0 0]) ?_ 1 _ rfl; (with_reducible repeat (first | refine blk_drewN ?_ _ | refine blk_drew ?_ | refine blk_alloc ?_ _)); refine blk_put (cs := #[.int .i64 0, .slice none 0 0]) ?_ 0 _ rfl; (with_reducible repeat (first | refine blk_drewN ?_ _ | refine blk_drew ?_ | refine blk_alloc ?_ _)); exact BK285.out) hb); have n8_ := Aside0.mk (below_step (by repeat (first | (with_reducible first | exact HB.out | apply bwA | apply bwN | apply bwD | refine below_set ?_ GE263.out | refine below_set ?_ GE274.out | refine below_set ?_ GE279.out | refine below_set ?_ GE285.out) | exact HB.out)) hb); clear HO268; clear HO272; clear HO278; clear HO283; clear BK263; clear BK274; clear BK279; clear BK285; clear HB; have HO268 := n0_; have HO272 := n1_; have HO278 := n2_; have HO283 := n3_; have BK263 := n4_; have BK274 := n5_; have BK279 := n6_; have BK285 := n7_; have HB := n8_; clear n0_ n1_ n2_ n3_ n4_ n5_ n6_ n7_ n8_; (try clear hb); (try clear hb2); (try clear hk); (try clear hi)))
    go_meet
    case rel => exact ⟨_, ((t284 != t273)), (by first | rfl | (simp; done) | (simp [*]; done)), H', ⟨by first | omega | exact Nat.le_refl _⟩, ⟨by (with_reducible repeat (first | apply Kd.R_alloc | apply Kd.R_drewN | apply Kd.R_drew)); exact Kd.R_mono HO272.out (fun _ hk => ⟨hk.1.2, hk.2⟩)⟩, ⟨by (with_reducible repeat (first | apply Kd.R_alloc | apply Kd.R_drewN | apply Kd.R_drew)); exact Kd.R_mono HO278.out (fun _ hk => ⟨hk.1.2, hk.2⟩)⟩, ⟨by (with_reducible repeat (first | apply Kd.R_alloc | apply Kd.R_drewN | apply Kd.R_drew)); exact Kd.R_mono HO283.out (fun _ hk => ⟨hk.1.2, hk.2⟩)⟩, ⟨by (with_reducible repeat (first | refine blk_drewN ?_ _ | refine blk_drew ?_ | refine blk_alloc ?_ _)); exact BK263.out⟩, ⟨by (with_reducible repeat (first | refine blk_drewN ?_ _ | refine blk_drew ?_ | refine blk_alloc ?_ _)); exact BK274.out⟩, ⟨by (with_reducible repeat (first | refine blk_drewN ?_ _ | refine blk_drew ?_ | refine blk_alloc ?_ _)); exact BK279.out⟩, ⟨by (with_reducible repeat (first | refine blk_drewN ?_ _ | refine blk_drew ?_ | refine blk_alloc ?_ _)); exact BK285.out⟩, ⟨by repeat (first | (with_reducible first | exact HB.out | apply bwA | apply bwN | apply bwD | refine below_set ?_ GE263.out | refine below_set ?_ GE274.out | refine below_set ?_ GE279.out | refine below_set ?_ GE285.out) | exact HB.out)⟩⟩
   ·replace c40 := Bool.eq_false_iff.mpr c40
    subst c40
    have H1 : (laws_FnExactSwapOrder.j0 k a1 a2 t273 t284 true a0_0 l0_1 t269 t270 t275 t276 t280 t281) = some r := by rw [if_neg (show ¬ (false = true) by decide)] at H; exact H
    clear H
    have H := H1
    clear H1
    have H' := Aside0.mk H
    clear H
    have hnb49 := NB285_263.out
    have hnc49 := NB263_285.out
    have hnb50 := NB285_274.out
    have hnc50 := NB274_285.out
    have hnb51 := NB285_279.out
    have hnc51 := NB279_285.out
    have hcz52_0 : w33.cell? ⟨gb285, 0, none⟩ = some (.int .i64 0) := (blk_cell BK285.out 0).trans rfl
    have hcz52_1 : w33.cell? ⟨gb285, 1, none⟩ = some (.slice none 0 0) := (blk_cell BK285.out 1).trans rfl
    have hfz52_0 := blk_frozen BK285.out 0
    have hfz52_1 := blk_frozen BK285.out 1
    have hnb53 := NB274_263.out
    have hnc53 := NB263_274.out
    have hnb54 := NB274_279.out
    have hnc54 := NB279_274.out
    have hcz55_0 : w33.cell? ⟨gb274, 0, none⟩ = some (.int .i64 t269) := (blk_cell BK274.out 0).trans rfl
    have hcz55_1 : w33.cell? ⟨gb274, 1, none⟩ = some (.slice Ao24 t270.length co24) := (blk_cell BK274.out 1).trans rfl
    have hfz55_0 := blk_frozen BK274.out 0
    have hfz55_1 := blk_frozen BK274.out 1
    go_wp2_with (first | ((with_reducible refine gate_callee (f := 39) rfl ?_); refine goesL_ (some 42) rfl rfl Try.func39 (by kernel_rfl) rfl #[.agg #[.int .i64 t280, .slice Ao38 t281.length co38], .agg #[.int .i64 t269, .slice Ao24 t270.length co24]] rfl (by (try simp only [List.map_toArray, List.map_cons, List.map_nil]); first | done | rfl | (simp only [List.length_drop, List.length_take]; rfl)) ?_; (with_reducible refine (laws_eqDiagram.calls k t280 _ _ t281 t269 _ _ t270 false _ ?side1 ?side2 ?side3 ?side4 A39.out).mono ?_); (case side1 => refine (Kd.R_reads' (e := 56) (base := w.heap.size) (ok := fun k_ => (((True ∧ some k_ ≠ (.slice Ao19 t266.length co19 : Value).ownBlock) ∧ some k_ ≠ (.slice Ao24 t270.length co24 : Value).ownBlock) ∧ some k_ ≠ (.slice Ao31 t276.length co31 : Value).ownBlock)) (n := t281.length) (c := co38) ?_).2.2; exact (by (with_reducible repeat (first | apply Kd.R_alloc | apply Kd.R_drewN | apply Kd.R_drew)); exact (Kd.R_mono (Kd.R_far (p := ⟨gb285, 1, none⟩) (Kd.R_far (p := ⟨gb285, 0, none⟩) (Kd.R_types HO283.out BK285.out (by decide)) (fun _ hk => hk.2) (.int .i64 t280)) (fun _ hk => hk.2) (.slice Ao38 t281.length co38)) (fun _ h_ => h_.1)))); (case side2 => exact (Kd.R_reads' HO283.out).2.1); (case side3 => refine (Kd.R_reads' (e := 56) (base := w.heap.size) (ok := fun k_ => (((True ∧ some k_ ≠ (.slice Ao19 t266.length co19 : Value).ownBlock) ∧ some k_ ≠ (.slice Ao31 t276.length co31 : Value).ownBlock) ∧ some k_ ≠ (.slice Ao38 t281.length co38 : Value).ownBlock)) (n := t270.length) (c := co24) ?_).2.2; exact (by (with_reducible repeat (first | apply Kd.R_alloc | apply Kd.R_drewN | apply Kd.R_drew)); exact (Kd.R_mono (Kd.R_far (p := ⟨gb285, 1, none⟩) (Kd.R_far (p := ⟨gb285, 0, none⟩) (Kd.R_types HO272.out BK285.out (by decide)) (fun _ hk => hk.2) (.int .i64 t280)) (fun _ hk => hk.2) (.slice Ao38 t281.length co38)) (fun _ h_ => h_.1)))); (case side4 => exact (Kd.R_reads' HO272.out).2.1); rintro e w56 ⟨rfl, hb⟩; refine ⟨_, rfl, ?_⟩; have n0_ := Aside0.mk (Kd.R_below (by (with_reducible repeat (first | apply Kd.R_alloc | apply Kd.R_drewN | apply Kd.R_drew)); exact (Kd.R_mono (Kd.R_far (p := ⟨gb285, 1, none⟩) (Kd.R_far (p := ⟨gb285, 0, none⟩) (Kd.R_types HO268.out BK285.out (by decide)) (fun _ hk => hk.2) (.int .i64 t280)) (fun _ hk => hk.2) (.slice Ao38 t281.length co38)) (fun _ h_ => h_.1))) hb); have n1_ := Aside0.mk (Kd.R_below (by (with_reducible repeat (first | apply Kd.R_alloc | apply Kd.R_drewN | apply Kd.R_drew)); exact (Kd.R_mono (Kd.R_far (p := ⟨gb285, 1, none⟩) (Kd.R_far (p := ⟨gb285, 0, none⟩) (Kd.R_types HO272.out BK285.out (by decide)) (fun _ hk => hk.2) (.int .i64 t280)) (fun _ hk => hk.2) (.slice Ao38 t281.length co38)) (fun _ h_ => h_.1))) hb); have n2_ := Aside0.mk (Kd.R_below (by (with_reducible repeat (first | apply Kd.R_alloc | apply Kd.R_drewN | apply Kd.R_drew)); exact (Kd.R_mono (Kd.R_far (p := ⟨gb285, 1, none⟩) (Kd.R_far (p := ⟨gb285, 0, none⟩) (Kd.R_types HO278.out BK285.out (by decide)) (fun _ hk => hk.2) (.int .i64 t280)) (fun _ hk => hk.2) (.slice Ao38 t281.length co38)) (fun _ h_ => h_.1))) hb); have n3_ := Aside0.mk (Kd.R_below (by (with_reducible repeat (first | apply Kd.R_alloc | apply Kd.R_drewN | apply Kd.R_drew)); exact (Kd.R_mono (Kd.R_far (p := ⟨gb285, 1, none⟩) (Kd.R_far (p := ⟨gb285, 0, none⟩) (Kd.R_types HO283.out BK285.out (by decide)) (fun _ hk => hk.2) (.int .i64 t280)) (fun _ hk => hk.2) (.slice Ao38 t281.length co38)) (fun _ h_ => h_.1))) hb); have n4_ := Aside0.mk (blk_below (g := gb263) (o := .cells #[.int .i64 a0_0, .slice A0_1 l0_1.length c0_1] 59 (0, 0)) (by (with_reducible repeat (first | refine blk_drewN ?_ _ | refine blk_drew ?_ | refine blk_alloc ?_ _)); refine blk_far ?_ NB263_285.out _; (with_reducible repeat (first | refine blk_drewN ?_ _ | refine blk_drew ?_ | refine blk_alloc ?_ _)); refine blk_far ?_ NB263_285.out _; (with_reducible repeat (first | refine blk_drewN ?_ _ | refine blk_drew ?_ | refine blk_alloc ?_ _)); exact BK263.out) hb); have n5_ := Aside0.mk (blk_below (g := gb274) (o := .cells #[.int .i64 t269, .slice Ao24 t270.length co24] 48 (0, 0)) (by (with_reducible repeat (first | refine blk_drewN ?_ _ | refine blk_drew ?_ | refine blk_alloc ?_ _)); refine blk_far ?_ NB274_285.out _; (with_reducible repeat (first | refine blk_drewN ?_ _ | refine blk_drew ?_ | refine blk_alloc ?_ _)); refine blk_far ?_ NB274_285.out _; (with_reducible repeat (first | refine blk_drewN ?_ _ | refine blk_drew ?_ | refine blk_alloc ?_ _)); exact BK274.out) hb); have n6_ := Aside0.mk (blk_below (g := gb279) (o := .cells #[.int .i64 t275, .slice Ao31 t276.length co31] 48 (0, 0)) (by (with_reducible repeat (first | refine blk_drewN ?_ _ | refine blk_drew ?_ | refine blk_alloc ?_ _)); refine blk_far ?_ NB279_285.out _; (with_reducible repeat (first | refine blk_drewN ?_ _ | refine blk_drew ?_ | refine blk_alloc ?_ _)); refine blk_far ?_ NB279_285.out _; (with_reducible repeat (first | refine blk_drewN ?_ _ | refine blk_drew ?_ | refine blk_alloc ?_ _)); exact BK279.out) hb); have n7_ := Aside0.mk (blk_below (g := gb285) (o := .cells #[.int .i64 t280, .slice Ao38 t281.length co38] 48 (0, 0)) (by (with_reducible repeat (first | refine blk_drewN ?_ _ | refine blk_drew ?_ | refine blk_alloc ?_ _)); refine blk_put (cs := #[.int .i64 t280, .slice none 0 0]) ?_ 1 _ rfl; (with_reducible repeat (first | refine blk_drewN ?_ _ | refine blk_drew ?_ | refine blk_alloc ?_ _)); refine blk_put (cs := #[.int .i64 0, .slice none 0 0]) ?_ 0 _ rfl; (with_reducible repeat (first | refine blk_drewN ?_ _ | refine blk_drew ?_ | refine blk_alloc ?_ _)); exact BK285.out) hb); have n8_ := Aside0.mk (below_step (by repeat (first | (with_reducible first | exact HB.out | apply bwA | apply bwN | apply bwD | refine below_set ?_ GE263.out | refine below_set ?_ GE274.out | refine below_set ?_ GE279.out | refine below_set ?_ GE285.out) | exact HB.out)) hb); clear HO268; clear HO272; clear HO278; clear HO283; clear BK263; clear BK274; clear BK279; clear BK285; clear HB; have HO268 := n0_; have HO272 := n1_; have HO278 := n2_; have HO283 := n3_; have BK263 := n4_; have BK274 := n5_; have BK279 := n6_; have BK285 := n7_; have HB := n8_; clear n0_ n1_ n2_ n3_ n4_ n5_ n6_ n7_ n8_; (try clear hb); (try clear hb2); (try clear hk); (try clear hi)))
    go_meet
    case rel => exact ⟨_, (true), (by first | rfl | (simp; done) | (simp [*]; done)), H', ⟨by first | omega | exact Nat.le_refl _⟩, ⟨by (with_reducible repeat (first | apply Kd.R_alloc | apply Kd.R_drewN | apply Kd.R_drew)); exact Kd.R_mono HO272.out (fun _ hk => ⟨hk.1.2, hk.2⟩)⟩, ⟨by (with_reducible repeat (first | apply Kd.R_alloc | apply Kd.R_drewN | apply Kd.R_drew)); exact Kd.R_mono HO278.out (fun _ hk => ⟨hk.1.2, hk.2⟩)⟩, ⟨by (with_reducible repeat (first | apply Kd.R_alloc | apply Kd.R_drewN | apply Kd.R_drew)); exact Kd.R_mono HO283.out (fun _ hk => ⟨hk.1.2, hk.2⟩)⟩, ⟨by (with_reducible repeat (first | refine blk_drewN ?_ _ | refine blk_drew ?_ | refine blk_alloc ?_ _)); exact BK263.out⟩, ⟨by (with_reducible repeat (first | refine blk_drewN ?_ _ | refine blk_drew ?_ | refine blk_alloc ?_ _)); exact BK274.out⟩, ⟨by (with_reducible repeat (first | refine blk_drewN ?_ _ | refine blk_drew ?_ | refine blk_alloc ?_ _)); exact BK279.out⟩, ⟨by (with_reducible repeat (first | refine blk_drewN ?_ _ | refine blk_drew ?_ | refine blk_alloc ?_ _)); exact BK285.out⟩, ⟨by repeat (first | (with_reducible first | exact HB.out | apply bwA | apply bwN | apply bwD | refine below_set ?_ GE263.out | refine below_set ?_ GE274.out | refine below_set ?_ GE279.out | refine below_set ?_ GE285.out) | exact HB.out)⟩⟩
  case rest =>
   clear HC13
   try clear c1
   try clear c2
   try clear p2
   try clear c3
   try clear c4
   try clear c5
   try clear c5b0
   try clear c10
   try clear c22
   try clear c28
   try clear c29
   try clear c34
   try clear c35
   try clear c36
   try clear c38
   try clear c39
   try clear c40
   try clear c41
   try clear c42
   try clear c43
   try clear c45
   try clear c46
   try clear c47
   try clear c48
   try clear c49
   try clear c50
   try clear c51
   try clear c53
   try clear c54
   try clear hcz15_0
   try clear hcz15_1
   try clear hcz17_0
   try clear hcz17_1
   try clear hcz23_0
   try clear hcz23_1
   try clear hcz25_0
   try clear hcz25_1
   try clear hcz30_0
   try clear hcz30_1
   try clear hcz37_0
   try clear hcz37_1
   try clear hcz44_0
   try clear hcz44_1
   try clear hcz47_0
   try clear hcz47_1
   try clear hcz52_0
   try clear hcz52_1
   try clear hcz55_0
   try clear hcz55_1
   try clear hcz7_0
   try clear hcz7_1
   try clear hfz15_0
   try clear hfz15_1
   try clear hfz17_0
   try clear hfz17_1
   try clear hfz23_0
   try clear hfz23_1
   try clear hfz25_0
   try clear hfz25_1
   try clear hfz30_0
   try clear hfz30_1
   try clear hfz37_0
   try clear hfz37_1
   try clear hfz44_0
   try clear hfz44_1
   try clear hfz47_0
   try clear hfz47_1
   try clear hfz52_0
   try clear hfz52_1
   try clear hfz55_0
   try clear hfz55_1
   try clear hfz7_0
   try clear hfz7_1
   obtain ⟨kq, x48_12, rfl, HA, HJ12, HO_275001, HO_280001, HO_286001, BK263, BK274, BK279, BK285, HB⟩ := hcut
   cases kq with
   | zero => exact absurd HA.out (by simp [laws_FnExactSwapOrder.j0])
   | succ kj12 =>
    have H := HA.out
    clear HA
    simp only [laws_FnExactSwapOrder.j0] at H
    by_cases c57 : x48_12 = true
    ·subst c57
     have H1 : (some false) = some r := by rw [if_pos rfl] at H; exact H
     clear H
     have H := H1
     clear H1
     obtain rfl := Option.some.inj H
     go_wp2
     go_ret
     exact ⟨by first | rfl | (simp [errW_none, errW_some] <;> rfl) | (simp [*, errW_none, errW_some] <;> rfl), by repeat (first | (with_reducible first | exact HB.out | apply bwA | apply bwN | apply bwD | refine below_set ?_ GE263.out | refine below_set ?_ GE274.out | refine below_set ?_ GE279.out | refine below_set ?_ GE285.out) | exact HB.out)⟩
    ·replace c57 := Bool.eq_false_iff.mpr c57
     subst c57
     have H1 : ((laws_toDiagram.f kj12 a0_0 l0_1).bind fun bt287 => ((laws_eqDiagram.f kj12 t275 t276 bt287.1 bt287.2).bind fun t291 => (if t291 = true then ((laws_markDiagram.f kj12 t275 t276 1).bind fun bt292 => (if bt292.1 < 0 then (laws_FnExactSwapOrder.j1 kj12 a1 a2 t273 true a0_0 l0_1 t269 t270 t280 t281) else ((laws_eqDiagram.f kj12 t280 t281 t269 t270).bind fun t294 => (if t294 = true then (laws_FnExactSwapOrder.j1 kj12 a1 a2 t273 (t284 != t273) a0_0 l0_1 t269 t270 t280 t281) else (laws_FnExactSwapOrder.j1 kj12 a1 a2 t273 true a0_0 l0_1 t269 t270 t280 t281))))) else (some false)))) = some r := by rw [if_neg (show ¬ (false = true) by decide)] at H; exact H
     clear H
     have H := H1
     clear H1
     replace H := Option.bind_eq_some_iff.mp H
     obtain ⟨⟨t287, t288⟩, A580, H⟩ := H
     replace H : ((laws_eqDiagram.f kj12 t275 t276 t287 t288).bind fun t291 => (if t291 = true then ((laws_markDiagram.f kj12 t275 t276 1).bind fun bt292 => (if bt292.1 < 0 then (laws_FnExactSwapOrder.j1 kj12 a1 a2 t273 true a0_0 l0_1 t269 t270 t280 t281) else ((laws_eqDiagram.f kj12 t280 t281 t269 t270).bind fun t294 => (if t294 = true then (laws_FnExactSwapOrder.j1 kj12 a1 a2 t273 (t284 != t273) a0_0 l0_1 t269 t270 t280 t281) else (laws_FnExactSwapOrder.j1 kj12 a1 a2 t273 true a0_0 l0_1 t269 t270 t280 t281))))) else (some false))) = some r := H
     have A58 := Aside0.mk A580
     clear A580
     replace H := Option.bind_eq_some_iff.mp H
     obtain ⟨t291, A590, H⟩ := H
     replace H : (if t291 = true then ((laws_markDiagram.f kj12 t275 t276 1).bind fun bt292 => (if bt292.1 < 0 then (laws_FnExactSwapOrder.j1 kj12 a1 a2 t273 true a0_0 l0_1 t269 t270 t280 t281) else ((laws_eqDiagram.f kj12 t280 t281 t269 t270).bind fun t294 => (if t294 = true then (laws_FnExactSwapOrder.j1 kj12 a1 a2 t273 (t284 != t273) a0_0 l0_1 t269 t270 t280 t281) else (laws_FnExactSwapOrder.j1 kj12 a1 a2 t273 true a0_0 l0_1 t269 t270 t280 t281))))) else (some false)) = some r := H
     have A59 := Aside0.mk A590
     clear A590
     by_cases c60 : t291 = true
     ·subst c60
      have H1 : ((laws_markDiagram.f kj12 t275 t276 1).bind fun bt292 => (if bt292.1 < 0 then (laws_FnExactSwapOrder.j1 kj12 a1 a2 t273 true a0_0 l0_1 t269 t270 t280 t281) else ((laws_eqDiagram.f kj12 t280 t281 t269 t270).bind fun t294 => (if t294 = true then (laws_FnExactSwapOrder.j1 kj12 a1 a2 t273 (t284 != t273) a0_0 l0_1 t269 t270 t280 t281) else (laws_FnExactSwapOrder.j1 kj12 a1 a2 t273 true a0_0 l0_1 t269 t270 t280 t281))))) = some r := by rw [if_pos rfl] at H; exact H
      clear H
      have H := H1
      clear H1
      replace H := Option.bind_eq_some_iff.mp H
      obtain ⟨⟨t292, t293⟩, A610, H⟩ := H
      replace H : (if t292 < 0 then (laws_FnExactSwapOrder.j1 kj12 a1 a2 t273 true a0_0 l0_1 t269 t270 t280 t281) else ((laws_eqDiagram.f kj12 t280 t281 t269 t270).bind fun t294 => (if t294 = true then (laws_FnExactSwapOrder.j1 kj12 a1 a2 t273 (t284 != t273) a0_0 l0_1 t269 t270 t280 t281) else (laws_FnExactSwapOrder.j1 kj12 a1 a2 t273 true a0_0 l0_1 t269 t270 t280 t281)))) = some r := H
      have A61 := Aside0.mk A610
      clear A610
      have HC62 := Aside0.mk H
      clear H
      try go_wp2
      have n0_ := Aside0.mk (Kd.R_drew HO_275001.out)
      have n1_ := Aside0.mk (Kd.R_drew HO_280001.out)
      have n2_ := Aside0.mk (Kd.R_drew HO_286001.out)
      have n3_ := Aside0.mk (blk_drew BK263.out)
      have n4_ := Aside0.mk (blk_drew BK274.out)
      have n5_ := Aside0.mk (blk_drew BK279.out)
      have n6_ := Aside0.mk (blk_drew BK285.out)
      have n7_ := Aside0.mk (below_drew1 HB.out)
      clear HO_275001
      clear HO_280001
      clear HO_286001
      clear BK263
      clear BK274
      clear BK279
      clear BK285
      clear HB
      have HO_275001 := n0_
      have HO_280001 := n1_
      have HO_286001 := n2_
      have BK263 := n3_
      have BK274 := n4_
      have BK279 := n5_
      have BK285 := n6_
      have HB := n7_
      clear n0_ n1_ n2_ n3_ n4_ n5_ n6_ n7_
      refine start_ (n := 5) (S := fun w' => w'.cell? ⟨gb279, 0, none⟩ = some (.int .i64 t275) ∧ w'.cell? ⟨gb279, 1, none⟩ = some (.slice Ao31 t276.length co31) ∧ w'.cell? ⟨gb263, 0, none⟩ = some (.int .i64 a0_0) ∧ w'.cell? ⟨gb263, 1, none⟩ = some (.slice A0_1 l0_1.length c0_1)) (ds := []) #[false, false, false, false, false] (by kernel_rfl) rfl rfl ⟨(blk_cell BK279.out 0).trans rfl, (blk_cell BK279.out 1).trans rfl, (blk_cell BK263.out 0).trans rfl, (blk_cell BK263.out 1).trans rfl⟩ (fun hHeld => ?_)
      generalize wc.drew = w63 at HO_275001 HO_280001 HO_286001 BK263 BK274 BK279 BK285 HB hHeld ⊢
      refine take_ (i := 0) (N := some 49) (v := ?_) (a' := ?_) #[true, false, false, false, false] rfl rfl (by kernel_rfl) (fun _ _ _ h => h) (Or.inl ⟨by rfl, ?_⟩) hHeld ?_ ?_
      rotate_left
      ·rintro w' ⟨s0, s1, s2, s3⟩
       go_simp
       with_reducible rfl
      rotate_left
      ·simp only [Act.put, List.setIfInBounds_toArray, List.set_cons_zero, List.set_cons_succ, i64_w, i32_w]
       rfl
      refine take_ (i := 1) (N := some 50) (v := ?_) (a' := ?_) #[true, true, false, false, false] rfl rfl (by kernel_rfl) (fun _ _ _ h => h) (Or.inl ⟨by rfl, ?_⟩) hHeld ?_ ?_
      rotate_left
      ·rintro w' ⟨s0, s1, s2, s3⟩
       go_simp
       with_reducible rfl
      rotate_left
      ·simp only [Act.put, List.setIfInBounds_toArray, List.set_cons_zero, List.set_cons_succ, i64_w, i32_w]
       rfl
      refine one_ (i := 2) (N := some 51) #[true, true, true, false, false] rfl rfl (by kernel_rfl) (by decide) (fun K hK => ?_)
      refine goes_ Try.func38 (by kernel_rfl) rfl #[.agg #[.int .i64 a0_0, .slice A0_1 l0_1.length c0_1]] (by rfl) rfl rfl (by (try simp only [List.map_toArray, List.map_cons, List.map_nil]); first | done | rfl | (simp only [List.length_drop, List.length_take]; rfl)) ?_
      with_reducible refine (laws_toDiagram.calls kj12 a0_0 _ _ l0_1 t287 t288 _ ?side1 ?side2 A58.out).mono ?_
      (case side1 => repeat (first | exact (Kd.C_below HR0_1.out HB.out) | (with_reducible refine Kd.C_alloc ?_ _) | (with_reducible refine Kd.C_drewN ?_ _) | (with_reducible refine Kd.C_drew ?_)))
      (case side2 => exact HC0_1.out)
      rintro e w64 ⟨v289, rfl, ho0, hb⟩
      refine ⟨_, rfl, ?_⟩
      have n0_ := Aside0.mk (Kd.R_elder' (by (with_reducible repeat (first | apply Kd.R_alloc | apply Kd.R_drewN | apply Kd.R_drew)); exact HO_275001.out) (Kd.R_base ho0) hb)
      have n1_ := Aside0.mk (Kd.R_elder' (by (with_reducible repeat (first | apply Kd.R_alloc | apply Kd.R_drewN | apply Kd.R_drew)); exact HO_280001.out) (Kd.R_base ho0) hb)
      have n2_ := Aside0.mk (Kd.R_elder' (by (with_reducible repeat (first | apply Kd.R_alloc | apply Kd.R_drewN | apply Kd.R_drew)); exact HO_286001.out) (Kd.R_base ho0) hb)
      have n3_ := Aside0.mk (Kd.R_lower (Kd.R_new' (Kd.R_new' (Kd.R_new' ho0 (Kd.R_lt (by (with_reducible repeat (first | apply Kd.R_alloc | apply Kd.R_drewN | apply Kd.R_drew)); exact HO_275001.out))) (Kd.R_lt (by (with_reducible repeat (first | apply Kd.R_alloc | apply Kd.R_drewN | apply Kd.R_drew)); exact HO_280001.out))) (Kd.R_lt (by (with_reducible repeat (first | apply Kd.R_alloc | apply Kd.R_drewN | apply Kd.R_drew)); exact HO_286001.out))) (below_size (by repeat (first | (with_reducible first | exact HB.out | apply bwA | apply bwN | apply bwD | refine below_set ?_ GE263.out | refine below_set ?_ GE274.out | refine below_set ?_ GE279.out | refine below_set ?_ GE285.out) | exact HB.out))))
      have n4_ := Aside0.mk (blk_below (g := gb263) (o := .cells #[.int .i64 a0_0, .slice A0_1 l0_1.length c0_1] 59 (0, 0)) (by (with_reducible repeat (first | refine blk_drewN ?_ _ | refine blk_drew ?_ | refine blk_alloc ?_ _)); exact BK263.out) hb)
      have n5_ := Aside0.mk (blk_below (g := gb274) (o := .cells #[.int .i64 t269, .slice Ao24 t270.length co24] 48 (0, 0)) (by (with_reducible repeat (first | refine blk_drewN ?_ _ | refine blk_drew ?_ | refine blk_alloc ?_ _)); exact BK274.out) hb)
      have n6_ := Aside0.mk (blk_below (g := gb279) (o := .cells #[.int .i64 t275, .slice Ao31 t276.length co31] 48 (0, 0)) (by (with_reducible repeat (first | refine blk_drewN ?_ _ | refine blk_drew ?_ | refine blk_alloc ?_ _)); exact BK279.out) hb)
      have n7_ := Aside0.mk (blk_below (g := gb285) (o := .cells #[.int .i64 t280, .slice Ao38 t281.length co38] 48 (0, 0)) (by (with_reducible repeat (first | refine blk_drewN ?_ _ | refine blk_drew ?_ | refine blk_alloc ?_ _)); exact BK285.out) hb)
      have n8_ := Aside0.mk (below_step (by repeat (first | (with_reducible first | exact HB.out | apply bwA | apply bwN | apply bwD | refine below_set ?_ GE263.out | refine below_set ?_ GE274.out | refine below_set ?_ GE279.out | refine below_set ?_ GE285.out) | exact HB.out)) hb)
      clear HO_275001
      clear HO_280001
      clear HO_286001
      clear BK263
      clear BK274
      clear BK279
      clear BK285
      clear HB
      have HO_275001 := n0_
      have HO_280001 := n1_
      have HO_286001 := n2_
      have HO290 := n3_
      have BK263 := n4_
      have BK274 := n5_
      have BK279 := n6_
      have BK285 := n7_
      have HB := n8_
      clear n0_ n1_ n2_ n3_ n4_ n5_ n6_ n7_ n8_
      (try clear hb)
      (try clear hb2)
      (try clear hk)
      (try clear hi)
      (try clear ho0)
      obtain ⟨Ao65, co65, eo65⟩ := Kd.R_slice HO290.out
      (first | subst eo65 | (injection eo65 with f1_ f2_ f3_; have f4_ := f1_.symm; have f5_ := f3_.symm; clear f1_ f2_ f3_; subst f4_; subst f5_))
      refine hK.out _ _ ⟨(blk_cell BK279.out 0).trans rfl, (blk_cell BK279.out 1).trans rfl, (blk_cell BK263.out 0).trans rfl, (blk_cell BK263.out 1).trans rfl⟩ (fun hHeld => ?_)
      clear hK K
      refine norm_ (a' := ?_) ?_ ?_
      rotate_left
      ·show Act.put _ (some 51) _ = _
       simp only [Act.put, List.setIfInBounds_toArray, List.set_cons_zero, List.set_cons_succ, i64_w, i32_w]
       rfl
      refine one_ (i := 3) (N := some 52) #[true, true, true, true, false] rfl rfl (by kernel_rfl) (by decide) (fun K hK => ?_)
      refine goes_ Try.func39 (by kernel_rfl) rfl #[.agg #[.int .i64 t275, .slice Ao31 t276.length co31], .agg #[.int .i64 t287, .slice Ao65 t288.length co65]] (by rfl) rfl rfl (by (try simp only [List.map_toArray, List.map_cons, List.map_nil]); first | done | rfl | (simp only [List.length_drop, List.length_take]; rfl)) ?_
      with_reducible refine (laws_eqDiagram.calls kj12 t275 _ _ t276 t287 _ _ t288 true _ ?side1 ?side2 ?side3 ?side4 A59.out).mono ?_
      (case side1 => repeat (first | exact (Kd.R_reads' HO_280001.out).2.2 | (with_reducible refine Kd.C_alloc ?_ _) | (with_reducible refine Kd.C_drewN ?_ _) | (with_reducible refine Kd.C_drew ?_)))
      (case side2 => exact (Kd.R_reads' HO_280001.out).2.1)
      (case side3 => repeat (first | exact (Kd.R_reads' HO290.out).2.2 | (with_reducible refine Kd.C_alloc ?_ _) | (with_reducible refine Kd.C_drewN ?_ _) | (with_reducible refine Kd.C_drew ?_)))
      (case side4 => exact (Kd.R_reads' HO290.out).2.1)
      rintro e w66 ⟨rfl, hb⟩
      refine ⟨_, rfl, ?_⟩
      have n0_ := Aside0.mk (Kd.R_below (by (with_reducible repeat (first | apply Kd.R_alloc | apply Kd.R_drewN | apply Kd.R_drew)); exact HO_275001.out) hb)
      have n1_ := Aside0.mk (Kd.R_below (by (with_reducible repeat (first | apply Kd.R_alloc | apply Kd.R_drewN | apply Kd.R_drew)); exact HO_280001.out) hb)
      have n2_ := Aside0.mk (Kd.R_below (by (with_reducible repeat (first | apply Kd.R_alloc | apply Kd.R_drewN | apply Kd.R_drew)); exact HO_286001.out) hb)
      have n3_ := Aside0.mk (Kd.R_below (by (with_reducible repeat (first | apply Kd.R_alloc | apply Kd.R_drewN | apply Kd.R_drew)); exact HO290.out) hb)
      have n4_ := Aside0.mk (blk_below (g := gb263) (o := .cells #[.int .i64 a0_0, .slice A0_1 l0_1.length c0_1] 59 (0, 0)) (by (with_reducible repeat (first | refine blk_drewN ?_ _ | refine blk_drew ?_ | refine blk_alloc ?_ _)); exact BK263.out) hb)
      have n5_ := Aside0.mk (blk_below (g := gb274) (o := .cells #[.int .i64 t269, .slice Ao24 t270.length co24] 48 (0, 0)) (by (with_reducible repeat (first | refine blk_drewN ?_ _ | refine blk_drew ?_ | refine blk_alloc ?_ _)); exact BK274.out) hb)
      have n6_ := Aside0.mk (blk_below (g := gb279) (o := .cells #[.int .i64 t275, .slice Ao31 t276.length co31] 48 (0, 0)) (by (with_reducible repeat (first | refine blk_drewN ?_ _ | refine blk_drew ?_ | refine blk_alloc ?_ _)); exact BK279.out) hb)
      have n7_ := Aside0.mk (blk_below (g := gb285) (o := .cells #[.int .i64 t280, .slice Ao38 t281.length co38] 48 (0, 0)) (by (with_reducible repeat (first | refine blk_drewN ?_ _ | refine blk_drew ?_ | refine blk_alloc ?_ _)); exact BK285.out) hb)
      have n8_ := Aside0.mk (below_step (by repeat (first | (with_reducible first | exact HB.out | apply bwA | apply bwN | apply bwD | refine below_set ?_ GE263.out | refine below_set ?_ GE274.out | refine below_set ?_ GE279.out | refine below_set ?_ GE285.out) | exact HB.out)) hb)
      clear HO_275001
      clear HO_280001
      clear HO_286001
      clear HO290
      clear BK263
      clear BK274
      clear BK279
      clear BK285
      clear HB
      have HO_275001 := n0_
      have HO_280001 := n1_
      have HO_286001 := n2_
      have HO290 := n3_
      have BK263 := n4_
      have BK274 := n5_
      have BK279 := n6_
      have BK285 := n7_
      have HB := n8_
      clear n0_ n1_ n2_ n3_ n4_ n5_ n6_ n7_ n8_
      (try clear hb)
      (try clear hb2)
      (try clear hk)
      (try clear hi)
      refine hK.out _ _ ⟨(blk_cell BK279.out 0).trans rfl, (blk_cell BK279.out 1).trans rfl, (blk_cell BK263.out 0).trans rfl, (blk_cell BK263.out 1).trans rfl⟩ (fun hHeld => ?_)
      clear hK K
      refine norm_ (a' := ?_) ?_ ?_
      rotate_left
      ·show Act.put _ (some 52) _ = _
       simp only [Act.put, List.setIfInBounds_toArray, List.set_cons_zero, List.set_cons_succ, i64_w, i32_w]
       rfl
      refine pure_ (i := 4) (N := some 53) (v := ?_) (a' := ?_) #[true, true, true, true, true] rfl rfl (by kernel_rfl) (fun _ _ _ h => h) (Or.inl ⟨by rfl, ?_⟩) ?_ ?_
      rotate_left
      ·intro w'
       go_simp
       with_reducible rfl
      rotate_left
      ·simp only [Act.put, List.setIfInBounds_toArray, List.set_cons_zero, List.set_cons_succ, i64_w, i32_w]
       rfl
      refine done_ (by kernel_rfl) ?_
      have hnb67 := NB279_263.out
      have hnc67 := NB263_279.out
      have hnb68 := NB279_274.out
      have hnc68 := NB274_279.out
      have hnb69 := NB279_285.out
      have hnc69 := NB285_279.out
      have hcz70_0 : w66.cell? ⟨gb279, 0, none⟩ = some (.int .i64 t275) := (blk_cell BK279.out 0).trans rfl
      have hcz70_1 : w66.cell? ⟨gb279, 1, none⟩ = some (.slice Ao31 t276.length co31) := (blk_cell BK279.out 1).trans rfl
      have hfz70_0 := blk_frozen BK279.out 0
      have hfz70_1 := blk_frozen BK279.out 1
      go_upto_region 14 with (first | ((with_reducible refine gate_callee (f := 40) rfl ?_); refine goesL_ (some 56) rfl rfl Try.func40 (by kernel_rfl) rfl #[.agg #[.int .i64 t275, .slice Ao31 t276.length co31], .int .i64 1] rfl (by (try simp only [List.map_toArray, List.map_cons, List.map_nil]); first | done | rfl | (simp only [List.length_drop, List.length_take]; rfl)) ?_; (with_reducible refine (laws_markDiagram.calls kj12 t275 (fun k_ => some k_ = (.slice Ao31 t276.length co31 : Value).ownBlock) (.slice Ao31 t276.length co31) t276 1 t292 t293 w _ ?side1 ?side2 A61.out).mono ?_); (case side1 => repeat (first | (with_reducible first | exact HB.out | apply bwA | apply bwN | apply bwD | refine below_set ?_ GE263.out | refine below_set ?_ GE274.out | refine below_set ?_ GE279.out | refine below_set ?_ GE285.out) | exact HB.out)); (case side2 => exact Kd.R_tight rfl HO_280001.out); rintro e w71 ⟨rfl, hy0, hb, hkp⟩; refine ⟨_, rfl, ?_⟩; have n0_ := Aside0.mk (Kd.R_mono (ok' := fun k_ => some k_ ≠ (.slice Ao31 t276.length co31 : Value).ownBlock ∧ some k_ ≠ (.slice Ao38 t281.length co38 : Value).ownBlock ∧ some k_ ≠ (.slice Ao65 t288.length co65 : Value).ownBlock) (Kd.R_keptB (HO_275001.out) hkp (fun k_ hk_ hs_ => (hk_.1.1) hs_)) (fun k_ hk_ => ⟨hk_.1.1.1, hk_.1.1.2, hk_.1.2⟩)); have n1_ := Aside0.mk (Kd.R_reok rfl hy0 (fun k_ e_ => HO_280001.out.1 k_ e_)); have n2_ := Aside0.mk (Kd.R_mono (ok' := fun k_ => some k_ ≠ (.slice Ao24 t270.length co24 : Value).ownBlock ∧ some k_ ≠ (.slice Ao31 t276.length co31 : Value).ownBlock ∧ some k_ ≠ (.slice Ao65 t288.length co65 : Value).ownBlock) (Kd.R_keptB (HO_286001.out) hkp (fun k_ hk_ hs_ => (hk_.1.2) hs_)) (fun k_ hk_ => ⟨hk_.1.1.1, hk_.1.1.2, hk_.1.2⟩)); have n3_ := Aside0.mk (blk_kept (by (with_reducible repeat (first | refine blk_drewN ?_ _ | refine blk_drew ?_ | refine blk_alloc ?_ _)); exact BK263.out) hkp (fun hs_ => (fun e_ => (Kd.R_ne HO_280001.out BK263.out (by decide)) e_) hs_)); have n4_ := Aside0.mk (blk_kept (by (with_reducible repeat (first | refine blk_drewN ?_ _ | refine blk_drew ?_ | refine blk_alloc ?_ _)); exact BK274.out) hkp (fun hs_ => (fun e_ => (Kd.R_ne HO_280001.out BK274.out (by decide)) e_) hs_)); have n5_ := Aside0.mk (blk_kept (by (with_reducible repeat (first | refine blk_drewN ?_ _ | refine blk_drew ?_ | refine blk_alloc ?_ _)); exact BK279.out) hkp (fun hs_ => (fun e_ => (Kd.R_ne HO_280001.out BK279.out (by decide)) e_) hs_)); have n6_ := Aside0.mk (blk_kept (by (with_reducible repeat (first | refine blk_drewN ?_ _ | refine blk_drew ?_ | refine blk_alloc ?_ _)); exact BK285.out) hkp (fun hs_ => (fun e_ => (Kd.R_ne HO_280001.out BK285.out (by decide)) e_) hs_)); have n7_ := Aside0.mk (Kd.R_mono (ok' := fun k_ => some k_ ≠ (.slice Ao24 t270.length co24 : Value).ownBlock ∧ some k_ ≠ (.slice Ao31 t276.length co31 : Value).ownBlock ∧ some k_ ≠ (.slice Ao38 t281.length co38 : Value).ownBlock) (Kd.R_keptB (HO290.out) hkp (fun k_ hk_ hs_ => (hk_.1.2) hs_)) (fun k_ hk_ => ⟨hk_.1.1.1.2, hk_.1.1.2, hk_.1.2⟩)); have n8_ := Aside0.mk (hb); clear HO_275001; clear HO_280001; clear HO_286001; clear BK263; clear BK274; clear BK279; clear BK285; clear HO290; clear HB; have HO_275001 := n0_; have HO_280001 := n1_; have HO_286001 := n2_; have BK263 := n3_; have BK274 := n4_; have BK279 := n5_; have BK285 := n6_; have HO290 := n7_; have HB := n8_; clear n0_ n1_ n2_ n3_ n4_ n5_ n6_ n7_ n8_; (try clear hb); (try clear hkp); (try clear hy0)))
      (try simp only [Act.put, List.setIfInBounds_toArray, List.set_cons_zero, List.set_cons_succ])
      go_cut [69] (fun v69 wc => ∃ (kq : Nat) (x69_61 : Bool), v69 = .bool x69_61 ∧ Aside0 (laws_FnExactSwapOrder.j1 kq a1 a2 t273 x69_61 a0_0 l0_1 t269 t270 t280 t281 = some r) ∧ Aside0 (kq ≤ kj12) ∧ Aside0 (Kd.R k56 56 wc w.heap.size (fun k_ => some k_ ≠ ((.slice Ao31 t276.length co31) : Value).ownBlock ∧ some k_ ≠ ((.slice Ao38 t281.length co38) : Value).ownBlock) (.slice Ao24 t270.length co24) t270) ∧ Aside0 (Kd.R k56 56 wc w.heap.size (fun k_ => some k_ ≠ ((.slice Ao24 t270.length co24) : Value).ownBlock ∧ some k_ ≠ ((.slice Ao38 t281.length co38) : Value).ownBlock) (.slice Ao31 t276.length co31) t293) ∧ Aside0 (Kd.R k56 56 wc w.heap.size (fun k_ => some k_ ≠ ((.slice Ao24 t270.length co24) : Value).ownBlock ∧ some k_ ≠ ((.slice Ao31 t276.length co31) : Value).ownBlock) (.slice Ao38 t281.length co38) t281) ∧ Aside0 (wc.heap[gb263]? = some (.cells #[.int .i64 a0_0, (.slice A0_1 l0_1.length c0_1)] 59 (0, 0))) ∧ Aside0 (wc.heap[gb274]? = some (.cells #[.int .i64 t269, (.slice Ao24 t270.length co24)] 48 (0, 0))) ∧ Aside0 (wc.heap[gb279]? = some (.cells #[.int .i64 t275, (.slice Ao31 t276.length co31)] 48 (0, 0))) ∧ Aside0 (wc.heap[gb285]? = some (.cells #[.int .i64 t280, (.slice Ao38 t281.length co38)] 48 (0, 0))) ∧ Aside0 (Below w.heap.size w wc))
      case first =>
       have H := HC62.out
       clear HC62
       by_cases c72 : t292 < 0
       ·rw [if_pos c72] at H
        have c72b0 : decide (t292 < 0) = true := decide_eq_true c72
        clear c72
        (first | rw [c72b0] | (simp only [i64_w, i32_w]; rw [c72b0]) | skip)
        have H' := Aside0.mk H
        clear H
        go_wp2
        go_meet
        case rel => exact ⟨_, (true), (by first | rfl | (simp; done) | (simp [*]; done)), H', ⟨by have := HJ12.out; first | omega | exact Nat.le_refl _⟩, ⟨by (with_reducible repeat (first | apply Kd.R_alloc | apply Kd.R_drewN | apply Kd.R_drew)); exact Kd.R_mono HO_275001.out (fun _ hk => ⟨hk.1, hk.2.1⟩)⟩, ⟨by (with_reducible repeat (first | apply Kd.R_alloc | apply Kd.R_drewN | apply Kd.R_drew)); exact Kd.R_mono HO_280001.out (fun _ hk => ⟨hk.1.1, hk.1.2⟩)⟩, ⟨by (with_reducible repeat (first | apply Kd.R_alloc | apply Kd.R_drewN | apply Kd.R_drew)); exact Kd.R_mono HO_286001.out (fun _ hk => ⟨hk.1, hk.2.1⟩)⟩, ⟨by (with_reducible repeat (first | refine blk_drewN ?_ _ | refine blk_drew ?_ | refine blk_alloc ?_ _)); exact BK263.out⟩, ⟨by (with_reducible repeat (first | refine blk_drewN ?_ _ | refine blk_drew ?_ | refine blk_alloc ?_ _)); exact BK274.out⟩, ⟨by (with_reducible repeat (first | refine blk_drewN ?_ _ | refine blk_drew ?_ | refine blk_alloc ?_ _)); exact BK279.out⟩, ⟨by (with_reducible repeat (first | refine blk_drewN ?_ _ | refine blk_drew ?_ | refine blk_alloc ?_ _)); exact BK285.out⟩, ⟨by repeat (first | (with_reducible first | exact HB.out | apply bwA | apply bwN | apply bwD | refine below_set ?_ GE263.out | refine below_set ?_ GE274.out | refine below_set ?_ GE279.out | refine below_set ?_ GE285.out) | exact HB.out)⟩⟩
       ·rw [if_neg c72] at H
        have c72b0 : decide (t292 < 0) = false := decide_eq_false c72
        clear c72
        (first | rw [c72b0] | (simp only [i64_w, i32_w]; rw [c72b0]) | skip)
        replace H := Option.bind_eq_some_iff.mp H
        obtain ⟨t294, A730, H⟩ := H
        replace H : (if t294 = true then (laws_FnExactSwapOrder.j1 kj12 a1 a2 t273 (t284 != t273) a0_0 l0_1 t269 t270 t280 t281) else (laws_FnExactSwapOrder.j1 kj12 a1 a2 t273 true a0_0 l0_1 t269 t270 t280 t281)) = some r := H
        have A73 := Aside0.mk A730
        clear A730
        by_cases c74 : t294 = true
        ·subst c74
         have H1 : (laws_FnExactSwapOrder.j1 kj12 a1 a2 t273 (t284 != t273) a0_0 l0_1 t269 t270 t280 t281) = some r := by rw [if_pos rfl] at H; exact H
         clear H
         have H := H1
         clear H1
         have H' := Aside0.mk H
         clear H
         have hnb75 := NB285_263.out
         have hnc75 := NB263_285.out
         have hnb76 := NB285_274.out
         have hnc76 := NB274_285.out
         have hnb77 := NB285_279.out
         have hnc77 := NB279_285.out
         have hcz78_0 : w71.cell? ⟨gb285, 0, none⟩ = some (.int .i64 t280) := (blk_cell BK285.out 0).trans rfl
         have hcz78_1 : w71.cell? ⟨gb285, 1, none⟩ = some (.slice Ao38 t281.length co38) := (blk_cell BK285.out 1).trans rfl
         have hfz78_0 := blk_frozen BK285.out 0
         have hfz78_1 := blk_frozen BK285.out 1
         have hnb79 := NB274_263.out
         have hnc79 := NB263_274.out
         have hnb80 := NB274_279.out
         have hnc80 := NB279_274.out
         have hcz81_0 : w71.cell? ⟨gb274, 0, none⟩ = some (.int .i64 t269) := (blk_cell BK274.out 0).trans rfl
         have hcz81_1 : w71.cell? ⟨gb274, 1, none⟩ = some (.slice Ao24 t270.length co24) := (blk_cell BK274.out 1).trans rfl
         have hfz81_0 := blk_frozen BK274.out 0
         have hfz81_1 := blk_frozen BK274.out 1
         go_wp2_with (first | (go_at_call 39; (with_reducible refine (laws_eqDiagram.calls kj12 t280 _ _ t281 t269 _ _ t270 true _ ?side1 ?side2 ?side3 ?side4 A73.out).mono ?_); (case side1 => repeat (first | exact (Kd.R_reads' HO_286001.out).2.2 | (with_reducible refine Kd.C_alloc ?_ _) | (with_reducible refine Kd.C_drewN ?_ _) | (with_reducible refine Kd.C_drew ?_))); (case side2 => exact (Kd.R_reads' HO_286001.out).2.1); (case side3 => repeat (first | exact (Kd.R_reads' HO_275001.out).2.2 | (with_reducible refine Kd.C_alloc ?_ _) | (with_reducible refine Kd.C_drewN ?_ _) | (with_reducible refine Kd.C_drew ?_))); (case side4 => exact (Kd.R_reads' HO_275001.out).2.1); rintro e w82 ⟨rfl, hb⟩; have n0_ := Aside0.mk (Kd.R_below (by (with_reducible repeat (first | apply Kd.R_alloc | apply Kd.R_drewN | apply Kd.R_drew)); exact HO_275001.out) hb); have n1_ := Aside0.mk (Kd.R_below (by (with_reducible repeat (first | apply Kd.R_alloc | apply Kd.R_drewN | apply Kd.R_drew)); exact HO_280001.out) hb); have n2_ := Aside0.mk (Kd.R_below (by (with_reducible repeat (first | apply Kd.R_alloc | apply Kd.R_drewN | apply Kd.R_drew)); exact HO_286001.out) hb); have n3_ := Aside0.mk (Kd.R_below (by (with_reducible repeat (first | apply Kd.R_alloc | apply Kd.R_drewN | apply Kd.R_drew)); exact HO290.out) hb); have n4_ := Aside0.mk (blk_below (g := gb263) (o := .cells #[.int .i64 a0_0, .slice A0_1 l0_1.length c0_1] 59 (0, 0)) (by (with_reducible repeat (first | refine blk_drewN ?_ _ | refine blk_drew ?_ | refine blk_alloc ?_ _)); exact BK263.out) hb); have n5_ := Aside0.mk (blk_below (g := gb274) (o := .cells #[.int .i64 t269, .slice Ao24 t270.length co24] 48 (0, 0)) (by (with_reducible repeat (first | refine blk_drewN ?_ _ | refine blk_drew ?_ | refine blk_alloc ?_ _)); exact BK274.out) hb); have n6_ := Aside0.mk (blk_below (g := gb279) (o := .cells #[.int .i64 t275, .slice Ao31 t276.length co31] 48 (0, 0)) (by (with_reducible repeat (first | refine blk_drewN ?_ _ | refine blk_drew ?_ | refine blk_alloc ?_ _)); exact BK279.out) hb); have n7_ := Aside0.mk (blk_below (g := gb285) (o := .cells #[.int .i64 t280, .slice Ao38 t281.length co38] 48 (0, 0)) (by (with_reducible repeat (first | refine blk_drewN ?_ _ | refine blk_drew ?_ | refine blk_alloc ?_ _)); exact BK285.out) hb); have n8_ := Aside0.mk (below_step (by repeat (first | (with_reducible first | exact HB.out | apply bwA | apply bwN | apply bwD | refine below_set ?_ GE263.out | refine below_set ?_ GE274.out | refine below_set ?_ GE279.out | refine below_set ?_ GE285.out) | exact HB.out)) hb); clear HO_275001; clear HO_280001; clear HO_286001; clear HO290; clear BK263; clear BK274; clear BK279; clear BK285; clear HB; have HO_275001 := n0_; have HO_280001 := n1_; have HO_286001 := n2_; have HO290 := n3_; have BK263 := n4_; have BK274 := n5_; have BK279 := n6_; have BK285 := n7_; have HB := n8_; clear n0_ n1_ n2_ n3_ n4_ n5_ n6_ n7_ n8_; (try clear hb); (try clear hb2); (try clear hk); (try clear hi)))
         go_meet
         case rel => exact ⟨_, ((t284 != t273)), (by first | rfl | (simp; done) | (simp [*]; done)), H', ⟨by have := HJ12.out; first | omega | exact Nat.le_refl _⟩, ⟨by (with_reducible repeat (first | apply Kd.R_alloc | apply Kd.R_drewN | apply Kd.R_drew)); exact Kd.R_mono HO_275001.out (fun _ hk => ⟨hk.1, hk.2.1⟩)⟩, ⟨by (with_reducible repeat (first | apply Kd.R_alloc | apply Kd.R_drewN | apply Kd.R_drew)); exact Kd.R_mono HO_280001.out (fun _ hk => ⟨hk.1.1, hk.1.2⟩)⟩, ⟨by (with_reducible repeat (first | apply Kd.R_alloc | apply Kd.R_drewN | apply Kd.R_drew)); exact Kd.R_mono HO_286001.out (fun _ hk => ⟨hk.1, hk.2.1⟩)⟩, ⟨by (with_reducible repeat (first | refine blk_drewN ?_ _ | refine blk_drew ?_ | refine blk_alloc ?_ _)); exact BK263.out⟩, ⟨by (with_reducible repeat (first | refine blk_drewN ?_ _ | refine blk_drew ?_ | refine blk_alloc ?_ _)); exact BK274.out⟩, ⟨by (with_reducible repeat (first | refine blk_drewN ?_ _ | refine blk_drew ?_ | refine blk_alloc ?_ _)); exact BK279.out⟩, ⟨by (with_reducible repeat (first | refine blk_drewN ?_ _ | refine blk_drew ?_ | refine blk_alloc ?_ _)); exact BK285.out⟩, ⟨by repeat (first | (with_reducible first | exact HB.out | apply bwA | apply bwN | apply bwD | refine below_set ?_ GE263.out | refine below_set ?_ GE274.out | refine below_set ?_ GE279.out | refine below_set ?_ GE285.out) | exact HB.out)⟩⟩
        ·replace c74 := Bool.eq_false_iff.mpr c74
         subst c74
         have H1 : (laws_FnExactSwapOrder.j1 kj12 a1 a2 t273 true a0_0 l0_1 t269 t270 t280 t281) = some r := by rw [if_neg (show ¬ (false = true) by decide)] at H; exact H
         clear H
         have H := H1
         clear H1
         have H' := Aside0.mk H
         clear H
         have hnb83 := NB285_263.out
         have hnc83 := NB263_285.out
         have hnb84 := NB285_274.out
         have hnc84 := NB274_285.out
         have hnb85 := NB285_279.out
         have hnc85 := NB279_285.out
         have hcz86_0 : w71.cell? ⟨gb285, 0, none⟩ = some (.int .i64 t280) := (blk_cell BK285.out 0).trans rfl
         have hcz86_1 : w71.cell? ⟨gb285, 1, none⟩ = some (.slice Ao38 t281.length co38) := (blk_cell BK285.out 1).trans rfl
         have hfz86_0 := blk_frozen BK285.out 0
         have hfz86_1 := blk_frozen BK285.out 1
         have hnb87 := NB274_263.out
         have hnc87 := NB263_274.out
         have hnb88 := NB274_279.out
         have hnc88 := NB279_274.out
         have hcz89_0 : w71.cell? ⟨gb274, 0, none⟩ = some (.int .i64 t269) := (blk_cell BK274.out 0).trans rfl
         have hcz89_1 : w71.cell? ⟨gb274, 1, none⟩ = some (.slice Ao24 t270.length co24) := (blk_cell BK274.out 1).trans rfl
         have hfz89_0 := blk_frozen BK274.out 0
         have hfz89_1 := blk_frozen BK274.out 1
         go_wp2_with (first | (go_at_call 39; (with_reducible refine (laws_eqDiagram.calls kj12 t280 _ _ t281 t269 _ _ t270 false _ ?side1 ?side2 ?side3 ?side4 A73.out).mono ?_); (case side1 => repeat (first | exact (Kd.R_reads' HO_286001.out).2.2 | (with_reducible refine Kd.C_alloc ?_ _) | (with_reducible refine Kd.C_drewN ?_ _) | (with_reducible refine Kd.C_drew ?_))); (case side2 => exact (Kd.R_reads' HO_286001.out).2.1); (case side3 => repeat (first | exact (Kd.R_reads' HO_275001.out).2.2 | (with_reducible refine Kd.C_alloc ?_ _) | (with_reducible refine Kd.C_drewN ?_ _) | (with_reducible refine Kd.C_drew ?_))); (case side4 => exact (Kd.R_reads' HO_275001.out).2.1); rintro e w90 ⟨rfl, hb⟩; have n0_ := Aside0.mk (Kd.R_below (by (with_reducible repeat (first | apply Kd.R_alloc | apply Kd.R_drewN | apply Kd.R_drew)); exact HO_275001.out) hb); have n1_ := Aside0.mk (Kd.R_below (by (with_reducible repeat (first | apply Kd.R_alloc | apply Kd.R_drewN | apply Kd.R_drew)); exact HO_280001.out) hb); have n2_ := Aside0.mk (Kd.R_below (by (with_reducible repeat (first | apply Kd.R_alloc | apply Kd.R_drewN | apply Kd.R_drew)); exact HO_286001.out) hb); have n3_ := Aside0.mk (Kd.R_below (by (with_reducible repeat (first | apply Kd.R_alloc | apply Kd.R_drewN | apply Kd.R_drew)); exact HO290.out) hb); have n4_ := Aside0.mk (blk_below (g := gb263) (o := .cells #[.int .i64 a0_0, .slice A0_1 l0_1.length c0_1] 59 (0, 0)) (by (with_reducible repeat (first | refine blk_drewN ?_ _ | refine blk_drew ?_ | refine blk_alloc ?_ _)); exact BK263.out) hb); have n5_ := Aside0.mk (blk_below (g := gb274) (o := .cells #[.int .i64 t269, .slice Ao24 t270.length co24] 48 (0, 0)) (by (with_reducible repeat (first | refine blk_drewN ?_ _ | refine blk_drew ?_ | refine blk_alloc ?_ _)); exact BK274.out) hb); have n6_ := Aside0.mk (blk_below (g := gb279) (o := .cells #[.int .i64 t275, .slice Ao31 t276.length co31] 48 (0, 0)) (by (with_reducible repeat (first | refine blk_drewN ?_ _ | refine blk_drew ?_ | refine blk_alloc ?_ _)); exact BK279.out) hb); have n7_ := Aside0.mk (blk_below (g := gb285) (o := .cells #[.int .i64 t280, .slice Ao38 t281.length co38] 48 (0, 0)) (by (with_reducible repeat (first | refine blk_drewN ?_ _ | refine blk_drew ?_ | refine blk_alloc ?_ _)); exact BK285.out) hb); have n8_ := Aside0.mk (below_step (by repeat (first | (with_reducible first | exact HB.out | apply bwA | apply bwN | apply bwD | refine below_set ?_ GE263.out | refine below_set ?_ GE274.out | refine below_set ?_ GE279.out | refine below_set ?_ GE285.out) | exact HB.out)) hb); clear HO_275001; clear HO_280001; clear HO_286001; clear HO290; clear BK263; clear BK274; clear BK279; clear BK285; clear HB; have HO_275001 := n0_; have HO_280001 := n1_; have HO_286001 := n2_; have HO290 := n3_; have BK263 := n4_; have BK274 := n5_; have BK279 := n6_; have BK285 := n7_; have HB := n8_; clear n0_ n1_ n2_ n3_ n4_ n5_ n6_ n7_ n8_; (try clear hb); (try clear hb2); (try clear hk); (try clear hi)))
         go_meet
         case rel => exact ⟨_, (true), (by first | rfl | (simp; done) | (simp [*]; done)), H', ⟨by have := HJ12.out; first | omega | exact Nat.le_refl _⟩, ⟨by (with_reducible repeat (first | apply Kd.R_alloc | apply Kd.R_drewN | apply Kd.R_drew)); exact Kd.R_mono HO_275001.out (fun _ hk => ⟨hk.1, hk.2.1⟩)⟩, ⟨by (with_reducible repeat (first | apply Kd.R_alloc | apply Kd.R_drewN | apply Kd.R_drew)); exact Kd.R_mono HO_280001.out (fun _ hk => ⟨hk.1.1, hk.1.2⟩)⟩, ⟨by (with_reducible repeat (first | apply Kd.R_alloc | apply Kd.R_drewN | apply Kd.R_drew)); exact Kd.R_mono HO_286001.out (fun _ hk => ⟨hk.1, hk.2.1⟩)⟩, ⟨by (with_reducible repeat (first | refine blk_drewN ?_ _ | refine blk_drew ?_ | refine blk_alloc ?_ _)); exact BK263.out⟩, ⟨by (with_reducible repeat (first | refine blk_drewN ?_ _ | refine blk_drew ?_ | refine blk_alloc ?_ _)); exact BK274.out⟩, ⟨by (with_reducible repeat (first | refine blk_drewN ?_ _ | refine blk_drew ?_ | refine blk_alloc ?_ _)); exact BK279.out⟩, ⟨by (with_reducible repeat (first | refine blk_drewN ?_ _ | refine blk_drew ?_ | refine blk_alloc ?_ _)); exact BK285.out⟩, ⟨by repeat (first | (with_reducible first | exact HB.out | apply bwA | apply bwN | apply bwD | refine below_set ?_ GE263.out | refine below_set ?_ GE274.out | refine below_set ?_ GE279.out | refine below_set ?_ GE285.out) | exact HB.out)⟩⟩
      case rest =>
       clear HC62
       try clear c1
       try clear c2
       try clear p2
       try clear c3
       try clear c4
       try clear c5
       try clear c5b0
       try clear c6
       try clear c7
       try clear c8
       try clear c10
       try clear c22
       try clear c28
       try clear c29
       try clear c34
       try clear c35
       try clear c36
       try clear c38
       try clear c39
       try clear c40
       try clear c41
       try clear c42
       try clear c43
       try clear c45
       try clear c46
       try clear c47
       try clear c48
       try clear c49
       try clear c50
       try clear c51
       try clear c53
       try clear c54
       try clear c57
       try clear c60
       try clear c67
       try clear c68
       try clear c69
       try clear c72
       try clear c72b0
       try clear c74
       try clear c75
       try clear c76
       try clear c77
       try clear c79
       try clear c80
       try clear c83
       try clear c84
       try clear c85
       try clear c87
       try clear c88
       try clear hcz15_0
       try clear hcz15_1
       try clear hcz17_0
       try clear hcz17_1
       try clear hcz23_0
       try clear hcz23_1
       try clear hcz25_0
       try clear hcz25_1
       try clear hcz30_0
       try clear hcz30_1
       try clear hcz37_0
       try clear hcz37_1
       try clear hcz44_0
       try clear hcz44_1
       try clear hcz47_0
       try clear hcz47_1
       try clear hcz52_0
       try clear hcz52_1
       try clear hcz55_0
       try clear hcz55_1
       try clear hcz70_0
       try clear hcz70_1
       try clear hcz78_0
       try clear hcz78_1
       try clear hcz7_0
       try clear hcz7_1
       try clear hcz81_0
       try clear hcz81_1
       try clear hcz86_0
       try clear hcz86_1
       try clear hcz89_0
       try clear hcz89_1
       try clear hfz15_0
       try clear hfz15_1
       try clear hfz17_0
       try clear hfz17_1
       try clear hfz23_0
       try clear hfz23_1
       try clear hfz25_0
       try clear hfz25_1
       try clear hfz30_0
       try clear hfz30_1
       try clear hfz37_0
       try clear hfz37_1
       try clear hfz44_0
       try clear hfz44_1
       try clear hfz47_0
       try clear hfz47_1
       try clear hfz52_0
       try clear hfz52_1
       try clear hfz55_0
       try clear hfz55_1
       try clear hfz70_0
       try clear hfz70_1
       try clear hfz78_0
       try clear hfz78_1
       try clear hfz7_0
       try clear hfz7_1
       try clear hfz81_0
       try clear hfz81_1
       try clear hfz86_0
       try clear hfz86_1
       try clear hfz89_0
       try clear hfz89_1
       try clear p2
       obtain ⟨kq, x69_61, rfl, HA, HJ61, HO_275001, HO_280001, HO_286001, BK263, BK274, BK279, BK285, HB⟩ := hcut
       have hl280001_61 := (Kd.R_reads' HO_280001.out).1
       rw [hl280001_61] at HO_280001
       (try simp only [hl280001_61])
       (try simp only [hl280001_61] at BK263)
       (try simp only [hl280001_61] at BK274)
       (try simp only [hl280001_61] at BK279)
       (try simp only [hl280001_61] at BK285)
       (try simp only [hl280001_61] at HO_275001)
       (try simp only [hl280001_61] at HO_286001)
       cases kq with
       | zero => exact absurd HA.out (by simp [laws_FnExactSwapOrder.j1])
       | succ kj61 =>
        have H := HA.out
        clear HA
        simp only [laws_FnExactSwapOrder.j1] at H
        by_cases c91 : x69_61 = true
        ·subst c91
         have H1 : (some false) = some r := by rw [if_pos rfl] at H; exact H
         clear H
         have H := H1
         clear H1
         obtain rfl := Option.some.inj H
         go_wp2
         go_ret
         exact ⟨by first | rfl | (simp [errW_none, errW_some] <;> rfl) | (simp [*, errW_none, errW_some] <;> rfl), by repeat (first | (with_reducible first | exact HB.out | apply bwA | apply bwN | apply bwD | refine below_set ?_ GE263.out | refine below_set ?_ GE274.out | refine below_set ?_ GE279.out | refine below_set ?_ GE285.out) | exact HB.out)⟩
        ·replace c91 := Bool.eq_false_iff.mpr c91
         subst c91
         have H1 : ((laws_markDiagram.f kj61 t280 t281 1).bind fun bt295 => ((laws_heldDiagram.f kj61 t280 bt295.2 1).bind fun t297 => (if t297 < 0 then (some false) else (if t297 = bt295.1 then ((laws_toDiagram.f kj61 a0_0 l0_1).bind fun bt298 => ((impl_SwapOrder.f kj61 bt298.1 bt298.2 a1 a2).bind fun bt302 => ((laws_eqDiagram.f kj61 bt302.1 bt302.2.1 t269 t270).bind fun t308 => (if t308 = true then (laws_FnExactSwapOrder.j2 kj61 bt295.1 (bt302.2.2 != t273) t280 bt295.2) else (laws_FnExactSwapOrder.j2 kj61 bt295.1 true t280 bt295.2))))) else (some false))))) = some r := by rw [if_neg (show ¬ (false = true) by decide)] at H; exact H
         clear H
         have H := H1
         clear H1
         replace H := Option.bind_eq_some_iff.mp H
         obtain ⟨⟨t295, t296⟩, A920, H⟩ := H
         replace H : ((laws_heldDiagram.f kj61 t280 t296 1).bind fun t297 => (if t297 < 0 then (some false) else (if t297 = t295 then ((laws_toDiagram.f kj61 a0_0 l0_1).bind fun bt298 => ((impl_SwapOrder.f kj61 bt298.1 bt298.2 a1 a2).bind fun bt302 => ((laws_eqDiagram.f kj61 bt302.1 bt302.2.1 t269 t270).bind fun t308 => (if t308 = true then (laws_FnExactSwapOrder.j2 kj61 t295 (bt302.2.2 != t273) t280 t296) else (laws_FnExactSwapOrder.j2 kj61 t295 true t280 t296))))) else (some false)))) = some r := H
         have A92 := Aside0.mk A920
         clear A920
         replace H := Option.bind_eq_some_iff.mp H
         obtain ⟨t297, A930, H⟩ := H
         replace H : (if t297 < 0 then (some false) else (if t297 = t295 then ((laws_toDiagram.f kj61 a0_0 l0_1).bind fun bt298 => ((impl_SwapOrder.f kj61 bt298.1 bt298.2 a1 a2).bind fun bt302 => ((laws_eqDiagram.f kj61 bt302.1 bt302.2.1 t269 t270).bind fun t308 => (if t308 = true then (laws_FnExactSwapOrder.j2 kj61 t295 (bt302.2.2 != t273) t280 t296) else (laws_FnExactSwapOrder.j2 kj61 t295 true t280 t296))))) else (some false))) = some r := H
         have A93 := Aside0.mk A930
         clear A930
         by_cases c94 : t297 < 0
         ·rw [if_pos c94] at H
          have c94b0 : decide (t297 < 0) = true := decide_eq_true c94
          clear c94
          obtain rfl := Option.some.inj H
          have hnb95 := NB285_263.out
          have hnc95 := NB263_285.out
          have hnb96 := NB285_274.out
          have hnc96 := NB274_285.out
          have hnb97 := NB285_279.out
          have hnc97 := NB279_285.out
          have hcz98_0 : wc.cell? ⟨gb285, 0, none⟩ = some (.int .i64 t280) := (blk_cell BK285.out 0).trans rfl
          have hcz98_1 : wc.cell? ⟨gb285, 1, none⟩ = some (.slice Ao38 t281.length co38) := (blk_cell BK285.out 1).trans rfl
          have hfz98_0 := blk_frozen BK285.out 0
          have hfz98_1 := blk_frozen BK285.out 1
          go_wp2_with (first | ((with_reducible refine gate_callee (f := 40) rfl ?_); refine goesL_ (some 72) rfl rfl Try.func40 (by kernel_rfl) rfl #[.agg #[.int .i64 t280, .slice Ao38 t281.length co38], .int .i64 1] rfl (by (try simp only [List.map_toArray, List.map_cons, List.map_nil]); first | done | rfl | (simp only [List.length_drop, List.length_take]; rfl)) ?_; (with_reducible refine (laws_markDiagram.calls kj61 t280 (fun k_ => some k_ = (.slice Ao38 t281.length co38 : Value).ownBlock) (.slice Ao38 t281.length co38) t281 1 t295 t296 w _ ?side1 ?side2 A92.out).mono ?_); (case side1 => repeat (first | (with_reducible first | exact HB.out | apply bwA | apply bwN | apply bwD | refine below_set ?_ GE263.out | refine below_set ?_ GE274.out | refine below_set ?_ GE279.out | refine below_set ?_ GE285.out) | exact HB.out)); (case side2 => exact Kd.R_tight rfl HO_286001.out); rintro e w99 ⟨rfl, hy0, hb, hkp⟩; refine ⟨_, rfl, ?_⟩; have n0_ := Aside0.mk (Kd.R_mono (ok' := fun k_ => some k_ ≠ (.slice Ao31 t293.length co31 : Value).ownBlock ∧ some k_ ≠ (.slice Ao38 t281.length co38 : Value).ownBlock) (Kd.R_keptB (HO_275001.out) hkp (fun k_ hk_ hs_ => (hk_.2) hs_)) (fun k_ hk_ => ⟨hk_.1.1, hk_.1.2⟩)); have n1_ := Aside0.mk (Kd.R_mono (ok' := fun k_ => some k_ ≠ (.slice Ao24 t270.length co24 : Value).ownBlock ∧ some k_ ≠ (.slice Ao38 t281.length co38 : Value).ownBlock) (Kd.R_keptB (HO_280001.out) hkp (fun k_ hk_ hs_ => (hk_.2) hs_)) (fun k_ hk_ => ⟨hk_.1.1, hk_.1.2⟩)); have n2_ := Aside0.mk (Kd.R_reok rfl hy0 (fun k_ e_ => HO_286001.out.1 k_ e_)); have n3_ := Aside0.mk (blk_kept (by (with_reducible repeat (first | refine blk_drewN ?_ _ | refine blk_drew ?_ | refine blk_alloc ?_ _)); exact BK263.out) hkp (fun hs_ => (fun e_ => (Kd.R_ne HO_286001.out BK263.out (by decide)) e_) hs_)); have n4_ := Aside0.mk (blk_kept (by (with_reducible repeat (first | refine blk_drewN ?_ _ | refine blk_drew ?_ | refine blk_alloc ?_ _)); exact BK274.out) hkp (fun hs_ => (fun e_ => (Kd.R_ne HO_286001.out BK274.out (by decide)) e_) hs_)); have n5_ := Aside0.mk (blk_kept (by (with_reducible repeat (first | refine blk_drewN ?_ _ | refine blk_drew ?_ | refine blk_alloc ?_ _)); exact BK279.out) hkp (fun hs_ => (fun e_ => (Kd.R_ne HO_286001.out BK279.out (by decide)) e_) hs_)); have n6_ := Aside0.mk (blk_kept (by (with_reducible repeat (first | refine blk_drewN ?_ _ | refine blk_drew ?_ | refine blk_alloc ?_ _)); exact BK285.out) hkp (fun hs_ => (fun e_ => (Kd.R_ne HO_286001.out BK285.out (by decide)) e_) hs_)); have n7_ := Aside0.mk (hb); clear HO_275001; clear HO_280001; clear HO_286001; clear BK263; clear BK274; clear BK279; clear BK285; clear HB; have HO_275001 := n0_; have HO_280001 := n1_; have HO_286001 := n2_; have BK263 := n3_; have BK274 := n4_; have BK279 := n5_; have BK285 := n6_; have HB := n7_; clear n0_ n1_ n2_ n3_ n4_ n5_ n6_ n7_; (try clear hb); (try clear hkp); (try clear hy0); have hcz100_0 : w99.cell? ⟨gb285, 0, none⟩ = some (.int .i64 t280) := (blk_cell BK285.out 0).trans rfl; have hcz100_1 : w99.cell? ⟨gb285, 1, none⟩ = some (.slice Ao38 t281.length co38) := (blk_cell BK285.out 1).trans rfl; have hfz100_0 := blk_frozen BK285.out 0; have hfz100_1 := blk_frozen BK285.out 1) | ((with_reducible refine gate_callee (f := 41) rfl ?_); refine goesL_ (some 75) rfl rfl Try.func41 (by kernel_rfl) rfl #[.agg #[.int .i64 t280, .slice Ao38 t296.length co38], .int .i64 1] rfl (by (try simp only [List.map_toArray, List.map_cons, List.map_nil]); first | done | (rw [show t296.length = t281.length from (Kd.R_reads' HO_286001.out).1.symm] <;> rfl) | rfl | (simp only [List.length_drop, List.length_take]; rfl)) ?_; (with_reducible refine (laws_heldDiagram.calls kj61 t280 _ _ t296 1 t297 _ ?side1 ?side2 A93.out).mono ?_); (case side1 => repeat (first | exact (Kd.R_reads' HO_286001.out).2.2 | (with_reducible refine Kd.C_alloc ?_ _) | (with_reducible refine Kd.C_drewN ?_ _) | (with_reducible refine Kd.C_drew ?_))); (case side2 => rw [show t296.length = t281.length from (Kd.R_reads' HO_286001.out).1.symm]; exact (Kd.R_reads' HO_286001.out).2.1); rintro e w101 ⟨rfl, hb⟩; refine ⟨_, rfl, ?_⟩; have n0_ := Aside0.mk (Kd.R_below (by (with_reducible repeat (first | apply Kd.R_alloc | apply Kd.R_drewN | apply Kd.R_drew)); exact HO_275001.out) hb); have n1_ := Aside0.mk (Kd.R_below (by (with_reducible repeat (first | apply Kd.R_alloc | apply Kd.R_drewN | apply Kd.R_drew)); exact HO_280001.out) hb); have n2_ := Aside0.mk (Kd.R_below (by (with_reducible repeat (first | apply Kd.R_alloc | apply Kd.R_drewN | apply Kd.R_drew)); exact HO_286001.out) hb); have n3_ := Aside0.mk (blk_below (g := gb263) (o := .cells #[.int .i64 a0_0, .slice A0_1 l0_1.length c0_1] 59 (0, 0)) (by (with_reducible repeat (first | refine blk_drewN ?_ _ | refine blk_drew ?_ | refine blk_alloc ?_ _)); exact BK263.out) hb); have n4_ := Aside0.mk (blk_below (g := gb274) (o := .cells #[.int .i64 t269, .slice Ao24 t270.length co24] 48 (0, 0)) (by (with_reducible repeat (first | refine blk_drewN ?_ _ | refine blk_drew ?_ | refine blk_alloc ?_ _)); exact BK274.out) hb); have n5_ := Aside0.mk (blk_below (g := gb279) (o := .cells #[.int .i64 t275, .slice Ao31 t293.length co31] 48 (0, 0)) (by (with_reducible repeat (first | refine blk_drewN ?_ _ | refine blk_drew ?_ | refine blk_alloc ?_ _)); exact BK279.out) hb); have n6_ := Aside0.mk (blk_below (g := gb285) (o := .cells #[.int .i64 t280, .slice Ao38 t281.length co38] 48 (0, 0)) (by (with_reducible repeat (first | refine blk_drewN ?_ _ | refine blk_drew ?_ | refine blk_alloc ?_ _)); exact BK285.out) hb); have n7_ := Aside0.mk (below_step (by repeat (first | (with_reducible first | exact HB.out | apply bwA | apply bwN | apply bwD | refine below_set ?_ GE263.out | refine below_set ?_ GE274.out | refine below_set ?_ GE279.out | refine below_set ?_ GE285.out) | exact HB.out)) hb); clear HO_275001; clear HO_280001; clear HO_286001; clear BK263; clear BK274; clear BK279; clear BK285; clear HB; have HO_275001 := n0_; have HO_280001 := n1_; have HO_286001 := n2_; have BK263 := n3_; have BK274 := n4_; have BK279 := n5_; have BK285 := n6_; have HB := n7_; clear n0_ n1_ n2_ n3_ n4_ n5_ n6_ n7_; (try clear hb); (try clear hb2); (try clear hk); (try clear hi)))
          go_ret
          exact ⟨by first | rfl | (simp [errW_none, errW_some] <;> rfl) | (simp [*, errW_none, errW_some] <;> rfl), by repeat (first | (with_reducible first | exact HB.out | apply bwA | apply bwN | apply bwD | refine below_set ?_ GE263.out | refine below_set ?_ GE274.out | refine below_set ?_ GE279.out | refine below_set ?_ GE285.out) | exact HB.out)⟩
         ·rw [if_neg c94] at H
          have c94b0 : decide (t297 < 0) = false := decide_eq_false c94
          clear c94
          by_cases c102 : t297 = t295
          ·rw [if_pos c102] at H
           have c102b0 : (t297 == t295) = true := beq_iff_eq.mpr c102
           have c102b1 : (t297 != t295) = false := bne_eq_false_iff_eq.mpr c102
           clear c102
           replace H := Option.bind_eq_some_iff.mp H
           obtain ⟨⟨t298, t299⟩, A1030, H⟩ := H
           replace H : ((impl_SwapOrder.f kj61 t298 t299 a1 a2).bind fun bt302 => ((laws_eqDiagram.f kj61 bt302.1 bt302.2.1 t269 t270).bind fun t308 => (if t308 = true then (laws_FnExactSwapOrder.j2 kj61 t295 (bt302.2.2 != t273) t280 t296) else (laws_FnExactSwapOrder.j2 kj61 t295 true t280 t296)))) = some r := H
           have A103 := Aside0.mk A1030
           clear A1030
           replace H := Option.bind_eq_some_iff.mp H
           obtain ⟨⟨t302, t303, t306⟩, A1040, H⟩ := H
           replace H : ((laws_eqDiagram.f kj61 t302 t303 t269 t270).bind fun t308 => (if t308 = true then (laws_FnExactSwapOrder.j2 kj61 t295 (t306 != t273) t280 t296) else (laws_FnExactSwapOrder.j2 kj61 t295 true t280 t296))) = some r := H
           have A104 := Aside0.mk A1040
           clear A1040
           have HC105 := Aside0.mk H
           clear H
           have hnb106 := NB285_263.out
           have hnc106 := NB263_285.out
           have hnb107 := NB285_274.out
           have hnc107 := NB274_285.out
           have hnb108 := NB285_279.out
           have hnc108 := NB279_285.out
           have hcz109_0 : wc.cell? ⟨gb285, 0, none⟩ = some (.int .i64 t280) := (blk_cell BK285.out 0).trans rfl
           have hcz109_1 : wc.cell? ⟨gb285, 1, none⟩ = some (.slice Ao38 t281.length co38) := (blk_cell BK285.out 1).trans rfl
           have hfz109_0 := blk_frozen BK285.out 0
           have hfz109_1 := blk_frozen BK285.out 1
           go_upto_region 25 with (first | ((with_reducible refine gate_callee (f := 40) rfl ?_); refine goesL_ (some 72) rfl rfl Try.func40 (by kernel_rfl) rfl #[.agg #[.int .i64 t280, .slice Ao38 t281.length co38], .int .i64 1] rfl (by (try simp only [List.map_toArray, List.map_cons, List.map_nil]); first | done | rfl | (simp only [List.length_drop, List.length_take]; rfl)) ?_; (with_reducible refine (laws_markDiagram.calls kj61 t280 (fun k_ => some k_ = (.slice Ao38 t281.length co38 : Value).ownBlock) (.slice Ao38 t281.length co38) t281 1 t295 t296 w _ ?side1 ?side2 A92.out).mono ?_); (case side1 => repeat (first | (with_reducible first | exact HB.out | apply bwA | apply bwN | apply bwD | refine below_set ?_ GE263.out | refine below_set ?_ GE274.out | refine below_set ?_ GE279.out | refine below_set ?_ GE285.out) | exact HB.out)); (case side2 => exact Kd.R_tight rfl HO_286001.out); rintro e w110 ⟨rfl, hy0, hb, hkp⟩; refine ⟨_, rfl, ?_⟩; have n0_ := Aside0.mk (Kd.R_mono (ok' := fun k_ => some k_ ≠ (.slice Ao31 t293.length co31 : Value).ownBlock ∧ some k_ ≠ (.slice Ao38 t281.length co38 : Value).ownBlock) (Kd.R_keptB (HO_275001.out) hkp (fun k_ hk_ hs_ => (hk_.2) hs_)) (fun k_ hk_ => ⟨hk_.1.1, hk_.1.2⟩)); have n1_ := Aside0.mk (Kd.R_mono (ok' := fun k_ => some k_ ≠ (.slice Ao24 t270.length co24 : Value).ownBlock ∧ some k_ ≠ (.slice Ao38 t281.length co38 : Value).ownBlock) (Kd.R_keptB (HO_280001.out) hkp (fun k_ hk_ hs_ => (hk_.2) hs_)) (fun k_ hk_ => ⟨hk_.1.1, hk_.1.2⟩)); have n2_ := Aside0.mk (Kd.R_reok rfl hy0 (fun k_ e_ => HO_286001.out.1 k_ e_)); have n3_ := Aside0.mk (blk_kept (by (with_reducible repeat (first | refine blk_drewN ?_ _ | refine blk_drew ?_ | refine blk_alloc ?_ _)); exact BK263.out) hkp (fun hs_ => (fun e_ => (Kd.R_ne HO_286001.out BK263.out (by decide)) e_) hs_)); have n4_ := Aside0.mk (blk_kept (by (with_reducible repeat (first | refine blk_drewN ?_ _ | refine blk_drew ?_ | refine blk_alloc ?_ _)); exact BK274.out) hkp (fun hs_ => (fun e_ => (Kd.R_ne HO_286001.out BK274.out (by decide)) e_) hs_)); have n5_ := Aside0.mk (blk_kept (by (with_reducible repeat (first | refine blk_drewN ?_ _ | refine blk_drew ?_ | refine blk_alloc ?_ _)); exact BK279.out) hkp (fun hs_ => (fun e_ => (Kd.R_ne HO_286001.out BK279.out (by decide)) e_) hs_)); have n6_ := Aside0.mk (blk_kept (by (with_reducible repeat (first | refine blk_drewN ?_ _ | refine blk_drew ?_ | refine blk_alloc ?_ _)); exact BK285.out) hkp (fun hs_ => (fun e_ => (Kd.R_ne HO_286001.out BK285.out (by decide)) e_) hs_)); have n7_ := Aside0.mk (hb); clear HO_275001; clear HO_280001; clear HO_286001; clear BK263; clear BK274; clear BK279; clear BK285; clear HB; have HO_275001 := n0_; have HO_280001 := n1_; have HO_286001 := n2_; have BK263 := n3_; have BK274 := n4_; have BK279 := n5_; have BK285 := n6_; have HB := n7_; clear n0_ n1_ n2_ n3_ n4_ n5_ n6_ n7_; (try clear hb); (try clear hkp); (try clear hy0); have hcz111_0 : w110.cell? ⟨gb285, 0, none⟩ = some (.int .i64 t280) := (blk_cell BK285.out 0).trans rfl; have hcz111_1 : w110.cell? ⟨gb285, 1, none⟩ = some (.slice Ao38 t281.length co38) := (blk_cell BK285.out 1).trans rfl; have hfz111_0 := blk_frozen BK285.out 0; have hfz111_1 := blk_frozen BK285.out 1) | ((with_reducible refine gate_callee (f := 41) rfl ?_); refine goesL_ (some 75) rfl rfl Try.func41 (by kernel_rfl) rfl #[.agg #[.int .i64 t280, .slice Ao38 t296.length co38], .int .i64 1] rfl (by (try simp only [List.map_toArray, List.map_cons, List.map_nil]); first | done | (rw [show t296.length = t281.length from (Kd.R_reads' HO_286001.out).1.symm] <;> rfl) | rfl | (simp only [List.length_drop, List.length_take]; rfl)) ?_; (with_reducible refine (laws_heldDiagram.calls kj61 t280 _ _ t296 1 t297 _ ?side1 ?side2 A93.out).mono ?_); (case side1 => repeat (first | exact (Kd.R_reads' HO_286001.out).2.2 | (with_reducible refine Kd.C_alloc ?_ _) | (with_reducible refine Kd.C_drewN ?_ _) | (with_reducible refine Kd.C_drew ?_))); (case side2 => rw [show t296.length = t281.length from (Kd.R_reads' HO_286001.out).1.symm]; exact (Kd.R_reads' HO_286001.out).2.1); rintro e w112 ⟨rfl, hb⟩; refine ⟨_, rfl, ?_⟩; have n0_ := Aside0.mk (Kd.R_below (by (with_reducible repeat (first | apply Kd.R_alloc | apply Kd.R_drewN | apply Kd.R_drew)); exact HO_275001.out) hb); have n1_ := Aside0.mk (Kd.R_below (by (with_reducible repeat (first | apply Kd.R_alloc | apply Kd.R_drewN | apply Kd.R_drew)); exact HO_280001.out) hb); have n2_ := Aside0.mk (Kd.R_below (by (with_reducible repeat (first | apply Kd.R_alloc | apply Kd.R_drewN | apply Kd.R_drew)); exact HO_286001.out) hb); have n3_ := Aside0.mk (blk_below (g := gb263) (o := .cells #[.int .i64 a0_0, .slice A0_1 l0_1.length c0_1] 59 (0, 0)) (by (with_reducible repeat (first | refine blk_drewN ?_ _ | refine blk_drew ?_ | refine blk_alloc ?_ _)); exact BK263.out) hb); have n4_ := Aside0.mk (blk_below (g := gb274) (o := .cells #[.int .i64 t269, .slice Ao24 t270.length co24] 48 (0, 0)) (by (with_reducible repeat (first | refine blk_drewN ?_ _ | refine blk_drew ?_ | refine blk_alloc ?_ _)); exact BK274.out) hb); have n5_ := Aside0.mk (blk_below (g := gb279) (o := .cells #[.int .i64 t275, .slice Ao31 t293.length co31] 48 (0, 0)) (by (with_reducible repeat (first | refine blk_drewN ?_ _ | refine blk_drew ?_ | refine blk_alloc ?_ _)); exact BK279.out) hb); have n6_ := Aside0.mk (blk_below (g := gb285) (o := .cells #[.int .i64 t280, .slice Ao38 t281.length co38] 48 (0, 0)) (by (with_reducible repeat (first | refine blk_drewN ?_ _ | refine blk_drew ?_ | refine blk_alloc ?_ _)); exact BK285.out) hb); have n7_ := Aside0.mk (below_step (by repeat (first | (with_reducible first | exact HB.out | apply bwA | apply bwN | apply bwD | refine below_set ?_ GE263.out | refine below_set ?_ GE274.out | refine below_set ?_ GE279.out | refine below_set ?_ GE285.out) | exact HB.out)) hb); clear HO_275001; clear HO_280001; clear HO_286001; clear BK263; clear BK274; clear BK279; clear BK285; clear HB; have HO_275001 := n0_; have HO_280001 := n1_; have HO_286001 := n2_; have BK263 := n3_; have BK274 := n4_; have BK279 := n5_; have BK285 := n6_; have HB := n7_; clear n0_ n1_ n2_ n3_ n4_ n5_ n6_ n7_; (try clear hb); (try clear hb2); (try clear hk); (try clear hi); have hnb113 := NB263_274.out; have hnc113 := NB274_263.out; have hnb114 := NB263_279.out; have hnc114 := NB279_263.out; have hcz115_0 : w112.cell? ⟨gb263, 0, none⟩ = some (.int .i64 a0_0) := (blk_cell BK263.out 0).trans rfl; have hcz115_1 : w112.cell? ⟨gb263, 1, none⟩ = some (.slice A0_1 l0_1.length c0_1) := (blk_cell BK263.out 1).trans rfl; have hfz115_0 := blk_frozen BK263.out 0; have hfz115_1 := blk_frozen BK263.out 1) | ((with_reducible refine gate_callee (f := 38) rfl ?_); refine goesL_ (some 83) rfl rfl Try.func38 (by kernel_rfl) rfl #[.agg #[.int .i64 a0_0, .slice A0_1 l0_1.length c0_1]] rfl (by (try simp only [List.map_toArray, List.map_cons, List.map_nil]); first | done | rfl | (simp only [List.length_drop, List.length_take]; rfl)) ?_; (with_reducible refine (laws_toDiagram.calls kj61 a0_0 _ _ l0_1 t298 t299 _ ?side1 ?side2 A103.out).mono ?_); (case side1 => repeat (first | exact (Kd.C_below HR0_1.out HB.out) | (with_reducible refine Kd.C_alloc ?_ _) | (with_reducible refine Kd.C_drewN ?_ _) | (with_reducible refine Kd.C_drew ?_))); (case side2 => exact HC0_1.out); rintro e w116 ⟨v300, rfl, ho0, hb⟩; refine ⟨_, rfl, ?_⟩; have n0_ := Aside0.mk (Kd.R_elder' (by (with_reducible repeat (first | apply Kd.R_alloc | apply Kd.R_drewN | apply Kd.R_drew)); exact HO_275001.out) (Kd.R_base ho0) hb); have n1_ := Aside0.mk (Kd.R_elder' (by (with_reducible repeat (first | apply Kd.R_alloc | apply Kd.R_drewN | apply Kd.R_drew)); exact HO_280001.out) (Kd.R_base ho0) hb); have n2_ := Aside0.mk (Kd.R_elder' (by (with_reducible repeat (first | apply Kd.R_alloc | apply Kd.R_drewN | apply Kd.R_drew)); exact HO_286001.out) (Kd.R_base ho0) hb); have n3_ := Aside0.mk (Kd.R_lower (Kd.R_new' (Kd.R_new' (Kd.R_new' ho0 (Kd.R_lt (by (with_reducible repeat (first | apply Kd.R_alloc | apply Kd.R_drewN | apply Kd.R_drew)); exact HO_275001.out))) (Kd.R_lt (by (with_reducible repeat (first | apply Kd.R_alloc | apply Kd.R_drewN | apply Kd.R_drew)); exact HO_280001.out))) (Kd.R_lt (by (with_reducible repeat (first | apply Kd.R_alloc | apply Kd.R_drewN | apply Kd.R_drew)); exact HO_286001.out))) (below_size (by repeat (first | (with_reducible first | exact HB.out | apply bwA | apply bwN | apply bwD | refine below_set ?_ GE263.out | refine below_set ?_ GE274.out | refine below_set ?_ GE279.out | refine below_set ?_ GE285.out) | exact HB.out)))); have n4_ := Aside0.mk (blk_below (g := gb263) (o := .cells #[.int .i64 a0_0, .slice A0_1 l0_1.length c0_1] 59 (0, 0)) (by (with_reducible repeat (first | refine blk_drewN ?_ _ | refine blk_drew ?_ | refine blk_alloc ?_ _)); exact BK263.out) hb); have n5_ := Aside0.mk (blk_below (g := gb274) (o := .cells #[.int .i64 t269, .slice Ao24 t270.length co24] 48 (0, 0)) (by (with_reducible repeat (first | refine blk_drewN ?_ _ | refine blk_drew ?_ | refine blk_alloc ?_ _)); exact BK274.out) hb); have n6_ := Aside0.mk (blk_below (g := gb279) (o := .cells #[.int .i64 t275, .slice Ao31 t293.length co31] 48 (0, 0)) (by (with_reducible repeat (first | refine blk_drewN ?_ _ | refine blk_drew ?_ | refine blk_alloc ?_ _)); exact BK279.out) hb); have n7_ := Aside0.mk (blk_below (g := gb285) (o := .cells #[.int .i64 t280, .slice Ao38 t281.length co38] 48 (0, 0)) (by (with_reducible repeat (first | refine blk_drewN ?_ _ | refine blk_drew ?_ | refine blk_alloc ?_ _)); exact BK285.out) hb); have n8_ := Aside0.mk (below_step (by repeat (first | (with_reducible first | exact HB.out | apply bwA | apply bwN | apply bwD | refine below_set ?_ GE263.out | refine below_set ?_ GE274.out | refine below_set ?_ GE279.out | refine below_set ?_ GE285.out) | exact HB.out)) hb); clear HO_275001; clear HO_280001; clear HO_286001; clear BK263; clear BK274; clear BK279; clear BK285; clear HB; have HO_275001 := n0_; have HO_280001 := n1_; have HO_286001 := n2_; have HO301 := n3_; have BK263 := n4_; have BK274 := n5_; have BK279 := n6_; have BK285 := n7_; have HB := n8_; clear n0_ n1_ n2_ n3_ n4_ n5_ n6_ n7_ n8_; (try clear hb); (try clear hb2); (try clear hk); (try clear hi); (try clear ho0); obtain ⟨Ao117, co117, eo117⟩ := Kd.R_slice HO301.out; subst eo117) | ((with_reducible refine gate_callee (f := 48) rfl ?_); refine goesL_ (some 86) rfl rfl Try.func48 (by kernel_rfl) rfl #[.agg #[.int .i64 t298, .slice Ao117 t299.length co117], .int .i64 a1, .int .i64 a2] rfl (by (try simp only [List.map_toArray, List.map_cons, List.map_nil]); first | done | rfl | (simp only [List.length_drop, List.length_take]; rfl)) ?_; (with_reducible refine (impl_SwapOrder.calls kj61 t298 _ _ t299 a1 a2 t302 t303 t306 _ ?side1 ?side2 A104.out).mono ?_); (case side1 => repeat (first | exact (Kd.R_reads' HO301.out).2.2 | (with_reducible refine Kd.C_alloc ?_ _) | (with_reducible refine Kd.C_drewN ?_ _) | (with_reducible refine Kd.C_drew ?_))); (case side2 => exact (Kd.R_reads' HO301.out).2.1); rintro e w118 ⟨v304, rfl, ho0, hb⟩; refine ⟨_, rfl, ?_⟩; have n0_ := Aside0.mk (Kd.R_elder' (by (with_reducible repeat (first | apply Kd.R_alloc | apply Kd.R_drewN | apply Kd.R_drew)); exact HO_275001.out) (Kd.R_base ho0) hb); have n1_ := Aside0.mk (Kd.R_elder' (by (with_reducible repeat (first | apply Kd.R_alloc | apply Kd.R_drewN | apply Kd.R_drew)); exact HO_280001.out) (Kd.R_base ho0) hb); have n2_ := Aside0.mk (Kd.R_elder' (by (with_reducible repeat (first | apply Kd.R_alloc | apply Kd.R_drewN | apply Kd.R_drew)); exact HO_286001.out) (Kd.R_base ho0) hb); have n3_ := Aside0.mk (Kd.R_elder' (by (with_reducible repeat (first | apply Kd.R_alloc | apply Kd.R_drewN | apply Kd.R_drew)); exact HO301.out) (Kd.R_base ho0) hb); have n4_ := Aside0.mk (Kd.R_lower (Kd.R_new' (Kd.R_new' (Kd.R_new' (Kd.R_new' ho0 (Kd.R_lt (by (with_reducible repeat (first | apply Kd.R_alloc | apply Kd.R_drewN | apply Kd.R_drew)); exact HO_275001.out))) (Kd.R_lt (by (with_reducible repeat (first | apply Kd.R_alloc | apply Kd.R_drewN | apply Kd.R_drew)); exact HO_280001.out))) (Kd.R_lt (by (with_reducible repeat (first | apply Kd.R_alloc | apply Kd.R_drewN | apply Kd.R_drew)); exact HO_286001.out))) (Kd.R_lt (by (with_reducible repeat (first | apply Kd.R_alloc | apply Kd.R_drewN | apply Kd.R_drew)); exact HO301.out))) (below_size (by repeat (first | (with_reducible first | exact HB.out | apply bwA | apply bwN | apply bwD | refine below_set ?_ GE263.out | refine below_set ?_ GE274.out | refine below_set ?_ GE279.out | refine below_set ?_ GE285.out) | exact HB.out)))); have n5_ := Aside0.mk (blk_below (g := gb263) (o := .cells #[.int .i64 a0_0, .slice A0_1 l0_1.length c0_1] 59 (0, 0)) (by (with_reducible repeat (first | refine blk_drewN ?_ _ | refine blk_drew ?_ | refine blk_alloc ?_ _)); exact BK263.out) hb); have n6_ := Aside0.mk (blk_below (g := gb274) (o := .cells #[.int .i64 t269, .slice Ao24 t270.length co24] 48 (0, 0)) (by (with_reducible repeat (first | refine blk_drewN ?_ _ | refine blk_drew ?_ | refine blk_alloc ?_ _)); exact BK274.out) hb); have n7_ := Aside0.mk (blk_below (g := gb279) (o := .cells #[.int .i64 t275, .slice Ao31 t293.length co31] 48 (0, 0)) (by (with_reducible repeat (first | refine blk_drewN ?_ _ | refine blk_drew ?_ | refine blk_alloc ?_ _)); exact BK279.out) hb); have n8_ := Aside0.mk (blk_below (g := gb285) (o := .cells #[.int .i64 t280, .slice Ao38 t281.length co38] 48 (0, 0)) (by (with_reducible repeat (first | refine blk_drewN ?_ _ | refine blk_drew ?_ | refine blk_alloc ?_ _)); exact BK285.out) hb); have n9_ := Aside0.mk (below_step (by repeat (first | (with_reducible first | exact HB.out | apply bwA | apply bwN | apply bwD | refine below_set ?_ GE263.out | refine below_set ?_ GE274.out | refine below_set ?_ GE279.out | refine below_set ?_ GE285.out) | exact HB.out)) hb); clear HO_275001; clear HO_280001; clear HO_286001; clear HO301; clear BK263; clear BK274; clear BK279; clear BK285; clear HB; have HO_275001 := n0_; have HO_280001 := n1_; have HO_286001 := n2_; have HO301 := n3_; have HO305 := n4_; have BK263 := n5_; have BK274 := n6_; have BK279 := n7_; have BK285 := n8_; have HB := n9_; clear n0_ n1_ n2_ n3_ n4_ n5_ n6_ n7_ n8_ n9_; (try clear hb); (try clear hb2); (try clear hk); (try clear hi); (try clear ho0)) | ((with_reducible refine gate_dst (N := 16) rfl ?_); refine box_event ?hg (N := 16) ?hd (cs := #[.int .i64 0, .slice none 0 0]) (t := 48) ?hr ?_; (case hd => rfl); (case hg => rfl); (case hr => first | (go_simp; done) | (go_simp; rfl)); intro gb307 hg w119 hbox hb; have n0_ := Aside0.mk (Kd.R_below (by (with_reducible repeat (first | apply Kd.R_alloc | apply Kd.R_drewN | apply Kd.R_drew)); exact HO_275001.out) hb); have n1_ := Aside0.mk (Kd.R_below (by (with_reducible repeat (first | apply Kd.R_alloc | apply Kd.R_drewN | apply Kd.R_drew)); exact HO_280001.out) hb); have n2_ := Aside0.mk (Kd.R_below (by (with_reducible repeat (first | apply Kd.R_alloc | apply Kd.R_drewN | apply Kd.R_drew)); exact HO_286001.out) hb); have n3_ := Aside0.mk (Kd.R_below (by (with_reducible repeat (first | apply Kd.R_alloc | apply Kd.R_drewN | apply Kd.R_drew)); exact HO301.out) hb); have n4_ := Aside0.mk (Kd.R_below (by (with_reducible repeat (first | apply Kd.R_alloc | apply Kd.R_drewN | apply Kd.R_drew)); exact HO305.out) hb); have n5_ := Aside0.mk (blk_below (g := gb263) (o := .cells #[.int .i64 a0_0, .slice A0_1 l0_1.length c0_1] 59 (0, 0)) (by (with_reducible repeat (first | refine blk_drewN ?_ _ | refine blk_drew ?_ | refine blk_alloc ?_ _)); exact BK263.out) hb); have n6_ := Aside0.mk (blk_below (g := gb274) (o := .cells #[.int .i64 t269, .slice Ao24 t270.length co24] 48 (0, 0)) (by (with_reducible repeat (first | refine blk_drewN ?_ _ | refine blk_drew ?_ | refine blk_alloc ?_ _)); exact BK274.out) hb); have n7_ := Aside0.mk (blk_below (g := gb279) (o := .cells #[.int .i64 t275, .slice Ao31 t293.length co31] 48 (0, 0)) (by (with_reducible repeat (first | refine blk_drewN ?_ _ | refine blk_drew ?_ | refine blk_alloc ?_ _)); exact BK279.out) hb); have n8_ := Aside0.mk (blk_below (g := gb285) (o := .cells #[.int .i64 t280, .slice Ao38 t281.length co38] 48 (0, 0)) (by (with_reducible repeat (first | refine blk_drewN ?_ _ | refine blk_drew ?_ | refine blk_alloc ?_ _)); exact BK285.out) hb); have n9_ := Aside0.mk (below_step (by repeat (first | (with_reducible first | exact HB.out | apply bwA | apply bwN | apply bwD | refine below_set ?_ GE263.out | refine below_set ?_ GE274.out | refine below_set ?_ GE279.out | refine below_set ?_ GE285.out) | exact HB.out)) hb); have n10_ := Aside0.mk (hbox); have n11_ := Aside0.mk ((by rw [hg]; exact (below_size (by repeat (first | (with_reducible first | exact HB.out | apply bwA | apply bwN | apply bwD | refine below_set ?_ GE263.out | refine below_set ?_ GE274.out | refine below_set ?_ GE279.out | refine below_set ?_ GE285.out) | exact HB.out))) : w.heap.size ≤ gb307)); have n12_ := Aside0.mk ((by rw [hg]; exact (below_size (by repeat (first | (with_reducible first | exact HB.out | apply bwA | apply bwN | apply bwD | refine below_set ?_ GE263.out | refine below_set ?_ GE274.out | refine below_set ?_ GE279.out | refine below_set ?_ GE285.out) | exact HB.out))) : w.heap.size ≤ gb307)); have n13_ := Aside0.mk ((by rw [hg]; exact Nat.ne_of_lt (blk_lt (g := gb263) (o := .cells #[.int .i64 a0_0, .slice A0_1 l0_1.length c0_1] 59 (0, 0)) (by (with_reducible repeat (first | refine blk_drewN ?_ _ | refine blk_drew ?_ | refine blk_alloc ?_ _)); exact BK263.out)) : gb263 ≠ gb307)); have n14_ := Aside0.mk ((by rw [hg]; exact Nat.ne_of_gt (blk_lt (g := gb263) (o := .cells #[.int .i64 a0_0, .slice A0_1 l0_1.length c0_1] 59 (0, 0)) (by (with_reducible repeat (first | refine blk_drewN ?_ _ | refine blk_drew ?_ | refine blk_alloc ?_ _)); exact BK263.out)) : gb307 ≠ gb263)); have n15_ := Aside0.mk ((by rw [hg]; exact Nat.ne_of_lt (blk_lt (g := gb274) (o := .cells #[.int .i64 t269, .slice Ao24 t270.length co24] 48 (0, 0)) (by (with_reducible repeat (first | refine blk_drewN ?_ _ | refine blk_drew ?_ | refine blk_alloc ?_ _)); exact BK274.out)) : gb274 ≠ gb307)); have n16_ := Aside0.mk ((by rw [hg]; exact Nat.ne_of_gt (blk_lt (g := gb274) (o := .cells #[.int .i64 t269, .slice Ao24 t270.length co24] 48 (0, 0)) (by (with_reducible repeat (first | refine blk_drewN ?_ _ | refine blk_drew ?_ | refine blk_alloc ?_ _)); exact BK274.out)) : gb307 ≠ gb274)); have n17_ := Aside0.mk ((by rw [hg]; exact Nat.ne_of_lt (blk_lt (g := gb279) (o := .cells #[.int .i64 t275, .slice Ao31 t293.length co31] 48 (0, 0)) (by (with_reducible repeat (first | refine blk_drewN ?_ _ | refine blk_drew ?_ | refine blk_alloc ?_ _)); exact BK279.out)) : gb279 ≠ gb307)); have n18_ := Aside0.mk ((by rw [hg]; exact Nat.ne_of_gt (blk_lt (g := gb279) (o := .cells #[.int .i64 t275, .slice Ao31 t293.length co31] 48 (0, 0)) (by (with_reducible repeat (first | refine blk_drewN ?_ _ | refine blk_drew ?_ | refine blk_alloc ?_ _)); exact BK279.out)) : gb307 ≠ gb279)); have n19_ := Aside0.mk ((by rw [hg]; exact Nat.ne_of_lt (blk_lt (g := gb285) (o := .cells #[.int .i64 t280, .slice Ao38 t281.length co38] 48 (0, 0)) (by (with_reducible repeat (first | refine blk_drewN ?_ _ | refine blk_drew ?_ | refine blk_alloc ?_ _)); exact BK285.out)) : gb285 ≠ gb307)); have n20_ := Aside0.mk ((by rw [hg]; exact Nat.ne_of_gt (blk_lt (g := gb285) (o := .cells #[.int .i64 t280, .slice Ao38 t281.length co38] 48 (0, 0)) (by (with_reducible repeat (first | refine blk_drewN ?_ _ | refine blk_drew ?_ | refine blk_alloc ?_ _)); exact BK285.out)) : gb307 ≠ gb285)); clear HO_275001; clear HO_280001; clear HO_286001; clear HO301; clear HO305; clear BK263; clear BK274; clear BK279; clear BK285; clear HB; have HO_275001 := n0_; have HO_280001 := n1_; have HO_286001 := n2_; have HO301 := n3_; have HO305 := n4_; have BK263 := n5_; have BK274 := n6_; have BK279 := n7_; have BK285 := n8_; have HB := n9_; have BK307 := n10_; have GW307 := n11_; have GE307 := n12_; have NB263_307 := n13_; have NB307_263 := n14_; have NB274_307 := n15_; have NB307_274 := n16_; have NB279_307 := n17_; have NB307_279 := n18_; have NB285_307 := n19_; have NB307_285 := n20_; clear n0_ n1_ n2_ n3_ n4_ n5_ n6_ n7_ n8_ n9_ n10_ n11_ n12_ n13_ n14_ n15_ n16_ n17_ n18_ n19_ n20_; clear hb hbox hg; have hnb120 := NB307_263.out; have hnc120 := NB263_307.out; have hnb121 := NB307_274.out; have hnc121 := NB274_307.out; have hnb122 := NB307_279.out; have hnc122 := NB279_307.out; have hnb123 := NB307_285.out; have hnc123 := NB285_307.out; have hcz124_0 : w119.cell? ⟨gb307, 0, none⟩ = some (.int .i64 0) := (blk_cell BK307.out 0).trans rfl; have hcz124_1 : w119.cell? ⟨gb307, 1, none⟩ = some (.slice none 0 0) := (blk_cell BK307.out 1).trans rfl; have hfz124_0 := blk_frozen BK307.out 0; have hfz124_1 := blk_frozen BK307.out 1; obtain ⟨Ao125, co125, eo125⟩ := Kd.R_slice HO305.out; subst eo125))
           (try simp only [Act.put, List.setIfInBounds_toArray, List.set_cons_zero, List.set_cons_succ])
           go_cut [97] (fun v97 wc => ∃ (kq : Nat) (x97_104 : Bool), v97 = .bool x97_104 ∧ Aside0 (laws_FnExactSwapOrder.j2 kq t295 x97_104 t280 t296 = some r) ∧ Aside0 (kq ≤ kj61) ∧ Aside0 (Kd.R k56 56 wc w.heap.size (fun k_ => some k_ ≠ ((.slice Ao31 t293.length co31) : Value).ownBlock ∧ some k_ ≠ ((.slice Ao38 t281.length co38) : Value).ownBlock ∧ some k_ ≠ ((.slice Ao125 t303.length co125) : Value).ownBlock) (.slice Ao24 t270.length co24) t270) ∧ Aside0 (Kd.R k56 56 wc w.heap.size (fun k_ => some k_ ≠ ((.slice Ao24 t270.length co24) : Value).ownBlock ∧ some k_ ≠ ((.slice Ao38 t281.length co38) : Value).ownBlock ∧ some k_ ≠ ((.slice Ao125 t303.length co125) : Value).ownBlock) (.slice Ao31 t293.length co31) t293) ∧ Aside0 (Kd.R k56 56 wc w.heap.size (fun k_ => some k_ ≠ ((.slice Ao24 t270.length co24) : Value).ownBlock ∧ some k_ ≠ ((.slice Ao31 t293.length co31) : Value).ownBlock ∧ some k_ ≠ ((.slice Ao125 t303.length co125) : Value).ownBlock) (.slice Ao38 t281.length co38) t296) ∧ Aside0 (Kd.R k56 56 wc w.heap.size (fun k_ => some k_ ≠ ((.slice Ao24 t270.length co24) : Value).ownBlock ∧ some k_ ≠ ((.slice Ao31 t293.length co31) : Value).ownBlock ∧ some k_ ≠ ((.slice Ao38 t281.length co38) : Value).ownBlock) (.slice Ao125 t303.length co125) t303) ∧ Aside0 (wc.heap[gb263]? = some (.cells #[.int .i64 a0_0, (.slice A0_1 l0_1.length c0_1)] 59 (0, 0))) ∧ Aside0 (wc.heap[gb274]? = some (.cells #[.int .i64 t269, (.slice Ao24 t270.length co24)] 48 (0, 0))) ∧ Aside0 (wc.heap[gb279]? = some (.cells #[.int .i64 t275, (.slice Ao31 t293.length co31)] 48 (0, 0))) ∧ Aside0 (wc.heap[gb285]? = some (.cells #[.int .i64 t280, (.slice Ao38 t281.length co38)] 48 (0, 0))) ∧ Aside0 (wc.heap[gb307]? = some (.cells #[.int .i64 t302, (.slice Ao125 t303.length co125)] 48 (0, 0))) ∧ Aside0 (Below w.heap.size w wc))
           case first =>
            have H := HC105.out
            clear HC105
            replace H := Option.bind_eq_some_iff.mp H
            obtain ⟨t308, A1260, H⟩ := H
            replace H : (if t308 = true then (laws_FnExactSwapOrder.j2 kj61 t295 (t306 != t273) t280 t296) else (laws_FnExactSwapOrder.j2 kj61 t295 true t280 t296)) = some r := H
            have A126 := Aside0.mk A1260
            clear A1260
            by_cases c127 : t308 = true
            ·subst c127
             have H1 : (laws_FnExactSwapOrder.j2 kj61 t295 (t306 != t273) t280 t296) = some r := by rw [if_pos rfl] at H; exact H
             clear H
             have H := H1
             clear H1
             have H' := Aside0.mk H
             clear H
             have hnb128 := NB307_263.out
             have hnc128 := NB263_307.out
             have hnb129 := NB307_274.out
             have hnc129 := NB274_307.out
             have hnb130 := NB307_279.out
             have hnc130 := NB279_307.out
             have hnb131 := NB307_285.out
             have hnc131 := NB285_307.out
             have hcz132_0 : w119.cell? ⟨gb307, 0, none⟩ = some (.int .i64 0) := (blk_cell BK307.out 0).trans rfl
             have hcz132_1 : w119.cell? ⟨gb307, 1, none⟩ = some (.slice none 0 0) := (blk_cell BK307.out 1).trans rfl
             have hfz132_0 := blk_frozen BK307.out 0
             have hfz132_1 := blk_frozen BK307.out 1
             have hnb133 := NB274_263.out
             have hnc133 := NB263_274.out
             have hnb134 := NB274_279.out
             have hnc134 := NB279_274.out
             have hnb135 := NB274_285.out
             have hnc135 := NB285_274.out
             have hcz136_0 : w119.cell? ⟨gb274, 0, none⟩ = some (.int .i64 t269) := (blk_cell BK274.out 0).trans rfl
             have hcz136_1 : w119.cell? ⟨gb274, 1, none⟩ = some (.slice Ao24 t270.length co24) := (blk_cell BK274.out 1).trans rfl
             have hfz136_0 := blk_frozen BK274.out 0
             have hfz136_1 := blk_frozen BK274.out 1
             go_wp2_with (first | ((with_reducible refine gate_callee (f := 39) rfl ?_); refine goesL_ (some 91) rfl rfl Try.func39 (by kernel_rfl) rfl #[.agg #[.int .i64 t302, .slice Ao125 t303.length co125], .agg #[.int .i64 t269, .slice Ao24 t270.length co24]] rfl (by (try simp only [List.map_toArray, List.map_cons, List.map_nil]); first | done | rfl | (simp only [List.length_drop, List.length_take]; rfl)) ?_; (with_reducible refine (laws_eqDiagram.calls kj61 t302 _ _ t303 t269 _ _ t270 true _ ?side1 ?side2 ?side3 ?side4 A126.out).mono ?_); (case side1 => refine (Kd.R_reads' (e := 56) (base := w.heap.size) (ok := fun k_ => ((((True ∧ some k_ ≠ (.slice Ao24 t270.length co24 : Value).ownBlock) ∧ some k_ ≠ (.slice Ao31 t293.length co31 : Value).ownBlock) ∧ some k_ ≠ (.slice Ao38 t281.length co38 : Value).ownBlock) ∧ some k_ ≠ (.slice Ao117 t299.length co117 : Value).ownBlock)) (n := t303.length) (c := co125) ?_).2.2; exact (by (with_reducible repeat (first | apply Kd.R_alloc | apply Kd.R_drewN | apply Kd.R_drew)); exact (Kd.R_mono (Kd.R_far (p := ⟨gb307, 1, none⟩) (Kd.R_far (p := ⟨gb307, 0, none⟩) (Kd.R_types HO305.out BK307.out (by decide)) (fun _ hk => hk.2) (.int .i64 t302)) (fun _ hk => hk.2) (.slice Ao125 t303.length co125)) (fun _ h_ => h_.1)))); (case side2 => exact (Kd.R_reads' HO305.out).2.1); (case side3 => refine (Kd.R_reads' (e := 56) (base := w.heap.size) (ok := fun k_ => (((some k_ ≠ (.slice Ao31 t293.length co31 : Value).ownBlock ∧ some k_ ≠ (.slice Ao38 t281.length co38 : Value).ownBlock) ∧ some k_ ≠ (.slice Ao117 t299.length co117 : Value).ownBlock) ∧ some k_ ≠ (.slice Ao125 t303.length co125 : Value).ownBlock)) (n := t270.length) (c := co24) ?_).2.2; exact (by (with_reducible repeat (first | apply Kd.R_alloc | apply Kd.R_drewN | apply Kd.R_drew)); exact (Kd.R_mono (Kd.R_far (p := ⟨gb307, 1, none⟩) (Kd.R_far (p := ⟨gb307, 0, none⟩) (Kd.R_types HO_275001.out BK307.out (by decide)) (fun _ hk => hk.2) (.int .i64 t302)) (fun _ hk => hk.2) (.slice Ao125 t303.length co125)) (fun _ h_ => h_.1)))); (case side4 => exact (Kd.R_reads' HO_275001.out).2.1); rintro e w137 ⟨rfl, hb⟩; refine ⟨_, rfl, ?_⟩; have n0_ := Aside0.mk (Kd.R_below (by (with_reducible repeat (first | apply Kd.R_alloc | apply Kd.R_drewN | apply Kd.R_drew)); exact (Kd.R_mono (Kd.R_far (p := ⟨gb307, 1, none⟩) (Kd.R_far (p := ⟨gb307, 0, none⟩) (Kd.R_types HO_275001.out BK307.out (by decide)) (fun _ hk => hk.2) (.int .i64 t302)) (fun _ hk => hk.2) (.slice Ao125 t303.length co125)) (fun _ h_ => h_.1))) hb); have n1_ := Aside0.mk (Kd.R_below (by (with_reducible repeat (first | apply Kd.R_alloc | apply Kd.R_drewN | apply Kd.R_drew)); exact (Kd.R_mono (Kd.R_far (p := ⟨gb307, 1, none⟩) (Kd.R_far (p := ⟨gb307, 0, none⟩) (Kd.R_types HO_280001.out BK307.out (by decide)) (fun _ hk => hk.2) (.int .i64 t302)) (fun _ hk => hk.2) (.slice Ao125 t303.length co125)) (fun _ h_ => h_.1))) hb); have n2_ := Aside0.mk (Kd.R_below (by (with_reducible repeat (first | apply Kd.R_alloc | apply Kd.R_drewN | apply Kd.R_drew)); exact (Kd.R_mono (Kd.R_far (p := ⟨gb307, 1, none⟩) (Kd.R_far (p := ⟨gb307, 0, none⟩) (Kd.R_types HO_286001.out BK307.out (by decide)) (fun _ hk => hk.2) (.int .i64 t302)) (fun _ hk => hk.2) (.slice Ao125 t303.length co125)) (fun _ h_ => h_.1))) hb); have n3_ := Aside0.mk (Kd.R_below (by (with_reducible repeat (first | apply Kd.R_alloc | apply Kd.R_drewN | apply Kd.R_drew)); exact (Kd.R_mono (Kd.R_far (p := ⟨gb307, 1, none⟩) (Kd.R_far (p := ⟨gb307, 0, none⟩) (Kd.R_types HO301.out BK307.out (by decide)) (fun _ hk => hk.2) (.int .i64 t302)) (fun _ hk => hk.2) (.slice Ao125 t303.length co125)) (fun _ h_ => h_.1))) hb); have n4_ := Aside0.mk (Kd.R_below (by (with_reducible repeat (first | apply Kd.R_alloc | apply Kd.R_drewN | apply Kd.R_drew)); exact (Kd.R_mono (Kd.R_far (p := ⟨gb307, 1, none⟩) (Kd.R_far (p := ⟨gb307, 0, none⟩) (Kd.R_types HO305.out BK307.out (by decide)) (fun _ hk => hk.2) (.int .i64 t302)) (fun _ hk => hk.2) (.slice Ao125 t303.length co125)) (fun _ h_ => h_.1))) hb); have n5_ := Aside0.mk (blk_below (g := gb263) (o := .cells #[.int .i64 a0_0, .slice A0_1 l0_1.length c0_1] 59 (0, 0)) (by (with_reducible repeat (first | refine blk_drewN ?_ _ | refine blk_drew ?_ | refine blk_alloc ?_ _)); refine blk_far ?_ NB263_307.out _; (with_reducible repeat (first | refine blk_drewN ?_ _ | refine blk_drew ?_ | refine blk_alloc ?_ _)); refine blk_far ?_ NB263_307.out _; (with_reducible repeat (first | refine blk_drewN ?_ _ | refine blk_drew ?_ | refine blk_alloc ?_ _)); exact BK263.out) hb); have n6_ := Aside0.mk (blk_below (g := gb274) (o := .cells #[.int .i64 t269, .slice Ao24 t270.length co24] 48 (0, 0)) (by (with_reducible repeat (first | refine blk_drewN ?_ _ | refine blk_drew ?_ | refine blk_alloc ?_ _)); refine blk_far ?_ NB274_307.out _; (with_reducible repeat (first | refine blk_drewN ?_ _ | refine blk_drew ?_ | refine blk_alloc ?_ _)); refine blk_far ?_ NB274_307.out _; (with_reducible repeat (first | refine blk_drewN ?_ _ | refine blk_drew ?_ | refine blk_alloc ?_ _)); exact BK274.out) hb); have n7_ := Aside0.mk (blk_below (g := gb279) (o := .cells #[.int .i64 t275, .slice Ao31 t293.length co31] 48 (0, 0)) (by (with_reducible repeat (first | refine blk_drewN ?_ _ | refine blk_drew ?_ | refine blk_alloc ?_ _)); refine blk_far ?_ NB279_307.out _; (with_reducible repeat (first | refine blk_drewN ?_ _ | refine blk_drew ?_ | refine blk_alloc ?_ _)); refine blk_far ?_ NB279_307.out _; (with_reducible repeat (first | refine blk_drewN ?_ _ | refine blk_drew ?_ | refine blk_alloc ?_ _)); exact BK279.out) hb); have n8_ := Aside0.mk (blk_below (g := gb285) (o := .cells #[.int .i64 t280, .slice Ao38 t281.length co38] 48 (0, 0)) (by (with_reducible repeat (first | refine blk_drewN ?_ _ | refine blk_drew ?_ | refine blk_alloc ?_ _)); refine blk_far ?_ NB285_307.out _; (with_reducible repeat (first | refine blk_drewN ?_ _ | refine blk_drew ?_ | refine blk_alloc ?_ _)); refine blk_far ?_ NB285_307.out _; (with_reducible repeat (first | refine blk_drewN ?_ _ | refine blk_drew ?_ | refine blk_alloc ?_ _)); exact BK285.out) hb); have n9_ := Aside0.mk (blk_below (g := gb307) (o := .cells #[.int .i64 t302, .slice Ao125 t303.length co125] 48 (0, 0)) (by (with_reducible repeat (first | refine blk_drewN ?_ _ | refine blk_drew ?_ | refine blk_alloc ?_ _)); refine blk_put (cs := #[.int .i64 t302, .slice none 0 0]) ?_ 1 _ rfl; (with_reducible repeat (first | refine blk_drewN ?_ _ | refine blk_drew ?_ | refine blk_alloc ?_ _)); refine blk_put (cs := #[.int .i64 0, .slice none 0 0]) ?_ 0 _ rfl; (with_reducible repeat (first | refine blk_drewN ?_ _ | refine blk_drew ?_ | refine blk_alloc ?_ _)); exact BK307.out) hb); have n10_ := Aside0.mk (below_step (by repeat (first | (with_reducible first | exact HB.out | apply bwA | apply bwN | apply bwD | refine below_set ?_ GE263.out | refine below_set ?_ GE274.out | refine below_set ?_ GE279.out | refine below_set ?_ GE285.out | refine below_set ?_ GE307.out) | exact HB.out)) hb); clear HO_275001; clear HO_280001; clear HO_286001; clear HO301; clear HO305; clear BK263; clear BK274; clear BK279; clear BK285; clear BK307; clear HB; have HO_275001 := n0_; have HO_280001 := n1_; have HO_286001 := n2_; have HO301 := n3_; have HO305 := n4_; have BK263 := n5_; have BK274 := n6_; have BK279 := n7_; have BK285 := n8_; have BK307 := n9_; have HB := n10_; clear n0_ n1_ n2_ n3_ n4_ n5_ n6_ n7_ n8_ n9_ n10_; (try clear hb); (try clear hb2); (try clear hk); (try clear hi)))
             go_meet
             case rel => exact ⟨_, ((t306 != t273)), (by first | rfl | (simp; done) | (simp [*]; done)), H', ⟨by have := HJ12.out; have := HJ61.out; first | omega | exact Nat.le_refl _⟩, ⟨by (try simp only [hl280001_61]); (with_reducible repeat (first | apply Kd.R_alloc | apply Kd.R_drewN | apply Kd.R_drew)); exact Kd.R_mono HO_275001.out (fun _ hk => ⟨hk.1.1.1, ⟨hk.1.1.2, hk.2⟩⟩)⟩, ⟨by (try simp only [hl280001_61]); (with_reducible repeat (first | apply Kd.R_alloc | apply Kd.R_drewN | apply Kd.R_drew)); exact Kd.R_mono HO_280001.out (fun _ hk => ⟨hk.1.1.1, ⟨hk.1.1.2, hk.2⟩⟩)⟩, ⟨by (try simp only [hl280001_61]); (with_reducible repeat (first | apply Kd.R_alloc | apply Kd.R_drewN | apply Kd.R_drew)); exact Kd.R_mono HO_286001.out (fun _ hk => ⟨hk.1.1.1, ⟨hk.1.1.2, hk.2⟩⟩)⟩, ⟨by (try simp only [hl280001_61]); (with_reducible repeat (first | apply Kd.R_alloc | apply Kd.R_drewN | apply Kd.R_drew)); exact Kd.R_mono HO305.out (fun _ hk => ⟨hk.1.1.1.2, ⟨hk.1.1.2, hk.1.2⟩⟩)⟩, ⟨by (try simp only [hl280001_61]); (with_reducible repeat (first | refine blk_drewN ?_ _ | refine blk_drew ?_ | refine blk_alloc ?_ _)); exact BK263.out⟩, ⟨by (try simp only [hl280001_61]); (with_reducible repeat (first | refine blk_drewN ?_ _ | refine blk_drew ?_ | refine blk_alloc ?_ _)); exact BK274.out⟩, ⟨by (try simp only [hl280001_61]); (with_reducible repeat (first | refine blk_drewN ?_ _ | refine blk_drew ?_ | refine blk_alloc ?_ _)); exact BK279.out⟩, ⟨by (try simp only [hl280001_61]); (with_reducible repeat (first | refine blk_drewN ?_ _ | refine blk_drew ?_ | refine blk_alloc ?_ _)); exact BK285.out⟩, ⟨by (try simp only [hl280001_61]); (with_reducible repeat (first | refine blk_drewN ?_ _ | refine blk_drew ?_ | refine blk_alloc ?_ _)); exact BK307.out⟩, ⟨by repeat (first | (with_reducible first | exact HB.out | apply bwA | apply bwN | apply bwD | refine below_set ?_ GE263.out | refine below_set ?_ GE274.out | refine below_set ?_ GE279.out | refine below_set ?_ GE285.out | refine below_set ?_ GE307.out) | exact HB.out)⟩⟩
            ·replace c127 := Bool.eq_false_iff.mpr c127
             subst c127
             have H1 : (laws_FnExactSwapOrder.j2 kj61 t295 true t280 t296) = some r := by rw [if_neg (show ¬ (false = true) by decide)] at H; exact H
             clear H
             have H := H1
             clear H1
             have H' := Aside0.mk H
             clear H
             have hnb138 := NB307_263.out
             have hnc138 := NB263_307.out
             have hnb139 := NB307_274.out
             have hnc139 := NB274_307.out
             have hnb140 := NB307_279.out
             have hnc140 := NB279_307.out
             have hnb141 := NB307_285.out
             have hnc141 := NB285_307.out
             have hcz142_0 : w119.cell? ⟨gb307, 0, none⟩ = some (.int .i64 0) := (blk_cell BK307.out 0).trans rfl
             have hcz142_1 : w119.cell? ⟨gb307, 1, none⟩ = some (.slice none 0 0) := (blk_cell BK307.out 1).trans rfl
             have hfz142_0 := blk_frozen BK307.out 0
             have hfz142_1 := blk_frozen BK307.out 1
             have hnb143 := NB274_263.out
             have hnc143 := NB263_274.out
             have hnb144 := NB274_279.out
             have hnc144 := NB279_274.out
             have hnb145 := NB274_285.out
             have hnc145 := NB285_274.out
             have hcz146_0 : w119.cell? ⟨gb274, 0, none⟩ = some (.int .i64 t269) := (blk_cell BK274.out 0).trans rfl
             have hcz146_1 : w119.cell? ⟨gb274, 1, none⟩ = some (.slice Ao24 t270.length co24) := (blk_cell BK274.out 1).trans rfl
             have hfz146_0 := blk_frozen BK274.out 0
             have hfz146_1 := blk_frozen BK274.out 1
             go_wp2_with (first | ((with_reducible refine gate_callee (f := 39) rfl ?_); refine goesL_ (some 91) rfl rfl Try.func39 (by kernel_rfl) rfl #[.agg #[.int .i64 t302, .slice Ao125 t303.length co125], .agg #[.int .i64 t269, .slice Ao24 t270.length co24]] rfl (by (try simp only [List.map_toArray, List.map_cons, List.map_nil]); first | done | rfl | (simp only [List.length_drop, List.length_take]; rfl)) ?_; (with_reducible refine (laws_eqDiagram.calls kj61 t302 _ _ t303 t269 _ _ t270 false _ ?side1 ?side2 ?side3 ?side4 A126.out).mono ?_); (case side1 => refine (Kd.R_reads' (e := 56) (base := w.heap.size) (ok := fun k_ => ((((True ∧ some k_ ≠ (.slice Ao24 t270.length co24 : Value).ownBlock) ∧ some k_ ≠ (.slice Ao31 t293.length co31 : Value).ownBlock) ∧ some k_ ≠ (.slice Ao38 t281.length co38 : Value).ownBlock) ∧ some k_ ≠ (.slice Ao117 t299.length co117 : Value).ownBlock)) (n := t303.length) (c := co125) ?_).2.2; exact (by (with_reducible repeat (first | apply Kd.R_alloc | apply Kd.R_drewN | apply Kd.R_drew)); exact (Kd.R_mono (Kd.R_far (p := ⟨gb307, 1, none⟩) (Kd.R_far (p := ⟨gb307, 0, none⟩) (Kd.R_types HO305.out BK307.out (by decide)) (fun _ hk => hk.2) (.int .i64 t302)) (fun _ hk => hk.2) (.slice Ao125 t303.length co125)) (fun _ h_ => h_.1)))); (case side2 => exact (Kd.R_reads' HO305.out).2.1); (case side3 => refine (Kd.R_reads' (e := 56) (base := w.heap.size) (ok := fun k_ => (((some k_ ≠ (.slice Ao31 t293.length co31 : Value).ownBlock ∧ some k_ ≠ (.slice Ao38 t281.length co38 : Value).ownBlock) ∧ some k_ ≠ (.slice Ao117 t299.length co117 : Value).ownBlock) ∧ some k_ ≠ (.slice Ao125 t303.length co125 : Value).ownBlock)) (n := t270.length) (c := co24) ?_).2.2; exact (by (with_reducible repeat (first | apply Kd.R_alloc | apply Kd.R_drewN | apply Kd.R_drew)); exact (Kd.R_mono (Kd.R_far (p := ⟨gb307, 1, none⟩) (Kd.R_far (p := ⟨gb307, 0, none⟩) (Kd.R_types HO_275001.out BK307.out (by decide)) (fun _ hk => hk.2) (.int .i64 t302)) (fun _ hk => hk.2) (.slice Ao125 t303.length co125)) (fun _ h_ => h_.1)))); (case side4 => exact (Kd.R_reads' HO_275001.out).2.1); rintro e w147 ⟨rfl, hb⟩; refine ⟨_, rfl, ?_⟩; have n0_ := Aside0.mk (Kd.R_below (by (with_reducible repeat (first | apply Kd.R_alloc | apply Kd.R_drewN | apply Kd.R_drew)); exact (Kd.R_mono (Kd.R_far (p := ⟨gb307, 1, none⟩) (Kd.R_far (p := ⟨gb307, 0, none⟩) (Kd.R_types HO_275001.out BK307.out (by decide)) (fun _ hk => hk.2) (.int .i64 t302)) (fun _ hk => hk.2) (.slice Ao125 t303.length co125)) (fun _ h_ => h_.1))) hb); have n1_ := Aside0.mk (Kd.R_below (by (with_reducible repeat (first | apply Kd.R_alloc | apply Kd.R_drewN | apply Kd.R_drew)); exact (Kd.R_mono (Kd.R_far (p := ⟨gb307, 1, none⟩) (Kd.R_far (p := ⟨gb307, 0, none⟩) (Kd.R_types HO_280001.out BK307.out (by decide)) (fun _ hk => hk.2) (.int .i64 t302)) (fun _ hk => hk.2) (.slice Ao125 t303.length co125)) (fun _ h_ => h_.1))) hb); have n2_ := Aside0.mk (Kd.R_below (by (with_reducible repeat (first | apply Kd.R_alloc | apply Kd.R_drewN | apply Kd.R_drew)); exact (Kd.R_mono (Kd.R_far (p := ⟨gb307, 1, none⟩) (Kd.R_far (p := ⟨gb307, 0, none⟩) (Kd.R_types HO_286001.out BK307.out (by decide)) (fun _ hk => hk.2) (.int .i64 t302)) (fun _ hk => hk.2) (.slice Ao125 t303.length co125)) (fun _ h_ => h_.1))) hb); have n3_ := Aside0.mk (Kd.R_below (by (with_reducible repeat (first | apply Kd.R_alloc | apply Kd.R_drewN | apply Kd.R_drew)); exact (Kd.R_mono (Kd.R_far (p := ⟨gb307, 1, none⟩) (Kd.R_far (p := ⟨gb307, 0, none⟩) (Kd.R_types HO301.out BK307.out (by decide)) (fun _ hk => hk.2) (.int .i64 t302)) (fun _ hk => hk.2) (.slice Ao125 t303.length co125)) (fun _ h_ => h_.1))) hb); have n4_ := Aside0.mk (Kd.R_below (by (with_reducible repeat (first | apply Kd.R_alloc | apply Kd.R_drewN | apply Kd.R_drew)); exact (Kd.R_mono (Kd.R_far (p := ⟨gb307, 1, none⟩) (Kd.R_far (p := ⟨gb307, 0, none⟩) (Kd.R_types HO305.out BK307.out (by decide)) (fun _ hk => hk.2) (.int .i64 t302)) (fun _ hk => hk.2) (.slice Ao125 t303.length co125)) (fun _ h_ => h_.1))) hb); have n5_ := Aside0.mk (blk_below (g := gb263) (o := .cells #[.int .i64 a0_0, .slice A0_1 l0_1.length c0_1] 59 (0, 0)) (by (with_reducible repeat (first | refine blk_drewN ?_ _ | refine blk_drew ?_ | refine blk_alloc ?_ _)); refine blk_far ?_ NB263_307.out _; (with_reducible repeat (first | refine blk_drewN ?_ _ | refine blk_drew ?_ | refine blk_alloc ?_ _)); refine blk_far ?_ NB263_307.out _; (with_reducible repeat (first | refine blk_drewN ?_ _ | refine blk_drew ?_ | refine blk_alloc ?_ _)); exact BK263.out) hb); have n6_ := Aside0.mk (blk_below (g := gb274) (o := .cells #[.int .i64 t269, .slice Ao24 t270.length co24] 48 (0, 0)) (by (with_reducible repeat (first | refine blk_drewN ?_ _ | refine blk_drew ?_ | refine blk_alloc ?_ _)); refine blk_far ?_ NB274_307.out _; (with_reducible repeat (first | refine blk_drewN ?_ _ | refine blk_drew ?_ | refine blk_alloc ?_ _)); refine blk_far ?_ NB274_307.out _; (with_reducible repeat (first | refine blk_drewN ?_ _ | refine blk_drew ?_ | refine blk_alloc ?_ _)); exact BK274.out) hb); have n7_ := Aside0.mk (blk_below (g := gb279) (o := .cells #[.int .i64 t275, .slice Ao31 t293.length co31] 48 (0, 0)) (by (with_reducible repeat (first | refine blk_drewN ?_ _ | refine blk_drew ?_ | refine blk_alloc ?_ _)); refine blk_far ?_ NB279_307.out _; (with_reducible repeat (first | refine blk_drewN ?_ _ | refine blk_drew ?_ | refine blk_alloc ?_ _)); refine blk_far ?_ NB279_307.out _; (with_reducible repeat (first | refine blk_drewN ?_ _ | refine blk_drew ?_ | refine blk_alloc ?_ _)); exact BK279.out) hb); have n8_ := Aside0.mk (blk_below (g := gb285) (o := .cells #[.int .i64 t280, .slice Ao38 t281.length co38] 48 (0, 0)) (by (with_reducible repeat (first | refine blk_drewN ?_ _ | refine blk_drew ?_ | refine blk_alloc ?_ _)); refine blk_far ?_ NB285_307.out _; (with_reducible repeat (first | refine blk_drewN ?_ _ | refine blk_drew ?_ | refine blk_alloc ?_ _)); refine blk_far ?_ NB285_307.out _; (with_reducible repeat (first | refine blk_drewN ?_ _ | refine blk_drew ?_ | refine blk_alloc ?_ _)); exact BK285.out) hb); have n9_ := Aside0.mk (blk_below (g := gb307) (o := .cells #[.int .i64 t302, .slice Ao125 t303.length co125] 48 (0, 0)) (by (with_reducible repeat (first | refine blk_drewN ?_ _ | refine blk_drew ?_ | refine blk_alloc ?_ _)); refine blk_put (cs := #[.int .i64 t302, .slice none 0 0]) ?_ 1 _ rfl; (with_reducible repeat (first | refine blk_drewN ?_ _ | refine blk_drew ?_ | refine blk_alloc ?_ _)); refine blk_put (cs := #[.int .i64 0, .slice none 0 0]) ?_ 0 _ rfl; (with_reducible repeat (first | refine blk_drewN ?_ _ | refine blk_drew ?_ | refine blk_alloc ?_ _)); exact BK307.out) hb); have n10_ := Aside0.mk (below_step (by repeat (first | (with_reducible first | exact HB.out | apply bwA | apply bwN | apply bwD | refine below_set ?_ GE263.out | refine below_set ?_ GE274.out | refine below_set ?_ GE279.out | refine below_set ?_ GE285.out | refine below_set ?_ GE307.out) | exact HB.out)) hb); clear HO_275001; clear HO_280001; clear HO_286001; clear HO301; clear HO305; clear BK263; clear BK274; clear BK279; clear BK285; clear BK307; clear HB; have HO_275001 := n0_; have HO_280001 := n1_; have HO_286001 := n2_; have HO301 := n3_; have HO305 := n4_; have BK263 := n5_; have BK274 := n6_; have BK279 := n7_; have BK285 := n8_; have BK307 := n9_; have HB := n10_; clear n0_ n1_ n2_ n3_ n4_ n5_ n6_ n7_ n8_ n9_ n10_; (try clear hb); (try clear hb2); (try clear hk); (try clear hi)))
             go_meet
             case rel => exact ⟨_, (true), (by first | rfl | (simp; done) | (simp [*]; done)), H', ⟨by have := HJ12.out; have := HJ61.out; first | omega | exact Nat.le_refl _⟩, ⟨by (try simp only [hl280001_61]); (with_reducible repeat (first | apply Kd.R_alloc | apply Kd.R_drewN | apply Kd.R_drew)); exact Kd.R_mono HO_275001.out (fun _ hk => ⟨hk.1.1.1, ⟨hk.1.1.2, hk.2⟩⟩)⟩, ⟨by (try simp only [hl280001_61]); (with_reducible repeat (first | apply Kd.R_alloc | apply Kd.R_drewN | apply Kd.R_drew)); exact Kd.R_mono HO_280001.out (fun _ hk => ⟨hk.1.1.1, ⟨hk.1.1.2, hk.2⟩⟩)⟩, ⟨by (try simp only [hl280001_61]); (with_reducible repeat (first | apply Kd.R_alloc | apply Kd.R_drewN | apply Kd.R_drew)); exact Kd.R_mono HO_286001.out (fun _ hk => ⟨hk.1.1.1, ⟨hk.1.1.2, hk.2⟩⟩)⟩, ⟨by (try simp only [hl280001_61]); (with_reducible repeat (first | apply Kd.R_alloc | apply Kd.R_drewN | apply Kd.R_drew)); exact Kd.R_mono HO305.out (fun _ hk => ⟨hk.1.1.1.2, ⟨hk.1.1.2, hk.1.2⟩⟩)⟩, ⟨by (try simp only [hl280001_61]); (with_reducible repeat (first | refine blk_drewN ?_ _ | refine blk_drew ?_ | refine blk_alloc ?_ _)); exact BK263.out⟩, ⟨by (try simp only [hl280001_61]); (with_reducible repeat (first | refine blk_drewN ?_ _ | refine blk_drew ?_ | refine blk_alloc ?_ _)); exact BK274.out⟩, ⟨by (try simp only [hl280001_61]); (with_reducible repeat (first | refine blk_drewN ?_ _ | refine blk_drew ?_ | refine blk_alloc ?_ _)); exact BK279.out⟩, ⟨by (try simp only [hl280001_61]); (with_reducible repeat (first | refine blk_drewN ?_ _ | refine blk_drew ?_ | refine blk_alloc ?_ _)); exact BK285.out⟩, ⟨by (try simp only [hl280001_61]); (with_reducible repeat (first | refine blk_drewN ?_ _ | refine blk_drew ?_ | refine blk_alloc ?_ _)); exact BK307.out⟩, ⟨by repeat (first | (with_reducible first | exact HB.out | apply bwA | apply bwN | apply bwD | refine below_set ?_ GE263.out | refine below_set ?_ GE274.out | refine below_set ?_ GE279.out | refine below_set ?_ GE285.out | refine below_set ?_ GE307.out) | exact HB.out)⟩⟩
           case rest =>
            clear HC105
            try clear c1
            try clear c2
            try clear p2
            try clear c3
            try clear c4
            try clear c5
            try clear c5b0
            try clear c6
            try clear c7
            try clear c8
            try clear c9
            try clear c10
            try clear c11
            try clear c12
            try clear c13
            try clear c14
            try clear c22
            try clear c28
            try clear c29
            try clear c34
            try clear c35
            try clear c36
            try clear c38
            try clear c39
            try clear c40
            try clear c41
            try clear c42
            try clear c43
            try clear c45
            try clear c46
            try clear c47
            try clear c48
            try clear c49
            try clear c50
            try clear c51
            try clear c53
            try clear c54
            try clear c57
            try clear c60
            try clear c67
            try clear c68
            try clear c69
            try clear c72
            try clear c72b0
            try clear c74
            try clear c75
            try clear c76
            try clear c77
            try clear c79
            try clear c80
            try clear c83
            try clear c84
            try clear c85
            try clear c87
            try clear c88
            try clear c91
            try clear c94
            try clear c94b0
            try clear c95
            try clear c96
            try clear c97
            try clear c102
            try clear c102b0
            try clear c102b1
            try clear c106
            try clear c107
            try clear c108
            try clear c113
            try clear c114
            try clear c120
            try clear c121
            try clear c122
            try clear c123
            try clear c127
            try clear c128
            try clear c129
            try clear c130
            try clear c131
            try clear c133
            try clear c134
            try clear c135
            try clear c138
            try clear c139
            try clear c140
            try clear c141
            try clear c143
            try clear c144
            try clear c145
            try clear hcz100_0
            try clear hcz100_1
            try clear hcz109_0
            try clear hcz109_1
            try clear hcz111_0
            try clear hcz111_1
            try clear hcz115_0
            try clear hcz115_1
            try clear hcz124_0
            try clear hcz124_1
            try clear hcz132_0
            try clear hcz132_1
            try clear hcz136_0
            try clear hcz136_1
            try clear hcz142_0
            try clear hcz142_1
            try clear hcz146_0
            try clear hcz146_1
            try clear hcz15_0
            try clear hcz15_1
            try clear hcz17_0
            try clear hcz17_1
            try clear hcz23_0
            try clear hcz23_1
            try clear hcz25_0
            try clear hcz25_1
            try clear hcz30_0
            try clear hcz30_1
            try clear hcz37_0
            try clear hcz37_1
            try clear hcz44_0
            try clear hcz44_1
            try clear hcz47_0
            try clear hcz47_1
            try clear hcz52_0
            try clear hcz52_1
            try clear hcz55_0
            try clear hcz55_1
            try clear hcz70_0
            try clear hcz70_1
            try clear hcz78_0
            try clear hcz78_1
            try clear hcz7_0
            try clear hcz7_1
            try clear hcz81_0
            try clear hcz81_1
            try clear hcz86_0
            try clear hcz86_1
            try clear hcz89_0
            try clear hcz89_1
            try clear hcz98_0
            try clear hcz98_1
            try clear hfz100_0
            try clear hfz100_1
            try clear hfz109_0
            try clear hfz109_1
            try clear hfz111_0
            try clear hfz111_1
            try clear hfz115_0
            try clear hfz115_1
            try clear hfz124_0
            try clear hfz124_1
            try clear hfz132_0
            try clear hfz132_1
            try clear hfz136_0
            try clear hfz136_1
            try clear hfz142_0
            try clear hfz142_1
            try clear hfz146_0
            try clear hfz146_1
            try clear hfz15_0
            try clear hfz15_1
            try clear hfz17_0
            try clear hfz17_1
            try clear hfz23_0
            try clear hfz23_1
            try clear hfz25_0
            try clear hfz25_1
            try clear hfz30_0
            try clear hfz30_1
            try clear hfz37_0
            try clear hfz37_1
            try clear hfz44_0
            try clear hfz44_1
            try clear hfz47_0
            try clear hfz47_1
            try clear hfz52_0
            try clear hfz52_1
            try clear hfz55_0
            try clear hfz55_1
            try clear hfz70_0
            try clear hfz70_1
            try clear hfz78_0
            try clear hfz78_1
            try clear hfz7_0
            try clear hfz7_1
            try clear hfz81_0
            try clear hfz81_1
            try clear hfz86_0
            try clear hfz86_1
            try clear hfz89_0
            try clear hfz89_1
            try clear hfz98_0
            try clear hfz98_1
            try clear p2
            obtain ⟨kq, x97_104, rfl, HA, HJ104, HO_275001, HO_280001, HO_286001, HO_308001, BK263, BK274, BK279, BK285, BK307, HB⟩ := hcut
            have hl286001_104 := (Kd.R_reads' HO_286001.out).1
            rw [hl286001_104] at HO_286001
            (try simp only [hl286001_104])
            (try simp only [hl286001_104] at BK263)
            (try simp only [hl286001_104] at BK274)
            (try simp only [hl286001_104] at BK279)
            (try simp only [hl286001_104] at BK285)
            (try simp only [hl286001_104] at BK307)
            (try simp only [hl286001_104] at HO_275001)
            (try simp only [hl286001_104] at HO_280001)
            (try simp only [hl286001_104] at HO_308001)
            cases kq with
            | zero => exact absurd HA.out (by simp [laws_FnExactSwapOrder.j2])
            | succ kj104 =>
             have H := HA.out
             clear HA
             simp only [laws_FnExactSwapOrder.j2] at H
             by_cases c148 : x97_104 = true
             ·subst c148
              have H1 : (some false) = some r := by rw [if_pos rfl] at H; exact H
              clear H
              have H := H1
              clear H1
              obtain rfl := Option.some.inj H
              go_wp2
              go_ret
              exact ⟨by first | rfl | (simp [errW_none, errW_some] <;> rfl) | (simp [*, errW_none, errW_some] <;> rfl), by repeat (first | (with_reducible first | exact HB.out | apply bwA | apply bwN | apply bwD | refine below_set ?_ GE263.out | refine below_set ?_ GE274.out | refine below_set ?_ GE279.out | refine below_set ?_ GE285.out | refine below_set ?_ GE307.out) | exact HB.out)⟩
             ·replace c148 := Bool.eq_false_iff.mpr c148
              subst c148
              have H1 : ((laws_heldDiagram.f kj104 t280 t296 1).bind fun t309 => (if t309 < 0 then (some false) else (if t309 = t295 then (some true) else (some false)))) = some r := by rw [if_neg (show ¬ (false = true) by decide)] at H; exact H
              clear H
              have H := H1
              clear H1
              replace H := Option.bind_eq_some_iff.mp H
              obtain ⟨t309, A1490, H⟩ := H
              replace H : (if t309 < 0 then (some false) else (if t309 = t295 then (some true) else (some false))) = some r := H
              have A149 := Aside0.mk A1490
              clear A1490
              by_cases c150 : t309 < 0
              ·rw [if_pos c150] at H
               have c150b0 : decide (t309 < 0) = true := decide_eq_true c150
               clear c150
               obtain rfl := Option.some.inj H
               have hnb151 := NB285_263.out
               have hnc151 := NB263_285.out
               have hnb152 := NB285_274.out
               have hnc152 := NB274_285.out
               have hnb153 := NB285_279.out
               have hnc153 := NB279_285.out
               have hnb154 := NB285_307.out
               have hnc154 := NB307_285.out
               have hcz155_0 : wc.cell? ⟨gb285, 0, none⟩ = some (.int .i64 t280) := (blk_cell BK285.out 0).trans rfl
               have hcz155_1 : wc.cell? ⟨gb285, 1, none⟩ = some (.slice Ao38 t296.length co38) := (blk_cell BK285.out 1).trans rfl
               have hfz155_0 := blk_frozen BK285.out 0
               have hfz155_1 := blk_frozen BK285.out 1
               go_wp2_with (first | ((with_reducible refine gate_callee (f := 41) rfl ?_); refine goesL_ (some 100) rfl rfl Try.func41 (by kernel_rfl) rfl #[.agg #[.int .i64 t280, .slice Ao38 t296.length co38], .int .i64 1] rfl (by (try simp only [List.map_toArray, List.map_cons, List.map_nil]); first | done | rfl | (simp only [List.length_drop, List.length_take]; rfl)) ?_; (with_reducible refine (laws_heldDiagram.calls kj104 t280 _ _ t296 1 t309 _ ?side1 ?side2 A149.out).mono ?_); (case side1 => repeat (first | exact (Kd.R_reads' HO_286001.out).2.2 | (with_reducible refine Kd.C_alloc ?_ _) | (with_reducible refine Kd.C_drewN ?_ _) | (with_reducible refine Kd.C_drew ?_))); (case side2 => exact (Kd.R_reads' HO_286001.out).2.1); rintro e w156 ⟨rfl, hb⟩; refine ⟨_, rfl, ?_⟩; have n0_ := Aside0.mk (Kd.R_below (by (with_reducible repeat (first | apply Kd.R_alloc | apply Kd.R_drewN | apply Kd.R_drew)); exact HO_275001.out) hb); have n1_ := Aside0.mk (Kd.R_below (by (with_reducible repeat (first | apply Kd.R_alloc | apply Kd.R_drewN | apply Kd.R_drew)); exact HO_280001.out) hb); have n2_ := Aside0.mk (Kd.R_below (by (with_reducible repeat (first | apply Kd.R_alloc | apply Kd.R_drewN | apply Kd.R_drew)); exact HO_286001.out) hb); have n3_ := Aside0.mk (Kd.R_below (by (with_reducible repeat (first | apply Kd.R_alloc | apply Kd.R_drewN | apply Kd.R_drew)); exact HO_308001.out) hb); have n4_ := Aside0.mk (blk_below (g := gb263) (o := .cells #[.int .i64 a0_0, .slice A0_1 l0_1.length c0_1] 59 (0, 0)) (by (with_reducible repeat (first | refine blk_drewN ?_ _ | refine blk_drew ?_ | refine blk_alloc ?_ _)); exact BK263.out) hb); have n5_ := Aside0.mk (blk_below (g := gb274) (o := .cells #[.int .i64 t269, .slice Ao24 t270.length co24] 48 (0, 0)) (by (with_reducible repeat (first | refine blk_drewN ?_ _ | refine blk_drew ?_ | refine blk_alloc ?_ _)); exact BK274.out) hb); have n6_ := Aside0.mk (blk_below (g := gb279) (o := .cells #[.int .i64 t275, .slice Ao31 t293.length co31] 48 (0, 0)) (by (with_reducible repeat (first | refine blk_drewN ?_ _ | refine blk_drew ?_ | refine blk_alloc ?_ _)); exact BK279.out) hb); have n7_ := Aside0.mk (blk_below (g := gb285) (o := .cells #[.int .i64 t280, .slice Ao38 t296.length co38] 48 (0, 0)) (by (with_reducible repeat (first | refine blk_drewN ?_ _ | refine blk_drew ?_ | refine blk_alloc ?_ _)); exact BK285.out) hb); have n8_ := Aside0.mk (blk_below (g := gb307) (o := .cells #[.int .i64 t302, .slice Ao125 t303.length co125] 48 (0, 0)) (by (with_reducible repeat (first | refine blk_drewN ?_ _ | refine blk_drew ?_ | refine blk_alloc ?_ _)); exact BK307.out) hb); have n9_ := Aside0.mk (below_step (by repeat (first | (with_reducible first | exact HB.out | apply bwA | apply bwN | apply bwD | refine below_set ?_ GE263.out | refine below_set ?_ GE274.out | refine below_set ?_ GE279.out | refine below_set ?_ GE285.out | refine below_set ?_ GE307.out) | exact HB.out)) hb); clear HO_275001; clear HO_280001; clear HO_286001; clear HO_308001; clear BK263; clear BK274; clear BK279; clear BK285; clear BK307; clear HB; have HO_275001 := n0_; have HO_280001 := n1_; have HO_286001 := n2_; have HO_308001 := n3_; have BK263 := n4_; have BK274 := n5_; have BK279 := n6_; have BK285 := n7_; have BK307 := n8_; have HB := n9_; clear n0_ n1_ n2_ n3_ n4_ n5_ n6_ n7_ n8_ n9_; (try clear hb); (try clear hb2); (try clear hk); (try clear hi)))
               go_ret
               exact ⟨by first | rfl | (simp [errW_none, errW_some] <;> rfl) | (simp [*, errW_none, errW_some] <;> rfl), by repeat (first | (with_reducible first | exact HB.out | apply bwA | apply bwN | apply bwD | refine below_set ?_ GE263.out | refine below_set ?_ GE274.out | refine below_set ?_ GE279.out | refine below_set ?_ GE285.out | refine below_set ?_ GE307.out) | exact HB.out)⟩
              ·rw [if_neg c150] at H
               have c150b0 : decide (t309 < 0) = false := decide_eq_false c150
               clear c150
               by_cases c157 : t309 = t295
               ·rw [if_pos c157] at H
                have c157b0 : (t309 == t295) = true := beq_iff_eq.mpr c157
                have c157b1 : (t309 != t295) = false := bne_eq_false_iff_eq.mpr c157
                clear c157
                obtain rfl := Option.some.inj H
                have hnb158 := NB285_263.out
                have hnc158 := NB263_285.out
                have hnb159 := NB285_274.out
                have hnc159 := NB274_285.out
                have hnb160 := NB285_279.out
                have hnc160 := NB279_285.out
                have hnb161 := NB285_307.out
                have hnc161 := NB307_285.out
                have hcz162_0 : wc.cell? ⟨gb285, 0, none⟩ = some (.int .i64 t280) := (blk_cell BK285.out 0).trans rfl
                have hcz162_1 : wc.cell? ⟨gb285, 1, none⟩ = some (.slice Ao38 t296.length co38) := (blk_cell BK285.out 1).trans rfl
                have hfz162_0 := blk_frozen BK285.out 0
                have hfz162_1 := blk_frozen BK285.out 1
                go_wp2_with (first | ((with_reducible refine gate_callee (f := 41) rfl ?_); refine goesL_ (some 100) rfl rfl Try.func41 (by kernel_rfl) rfl #[.agg #[.int .i64 t280, .slice Ao38 t296.length co38], .int .i64 1] rfl (by (try simp only [List.map_toArray, List.map_cons, List.map_nil]); first | done | rfl | (simp only [List.length_drop, List.length_take]; rfl)) ?_; (with_reducible refine (laws_heldDiagram.calls kj104 t280 _ _ t296 1 t309 _ ?side1 ?side2 A149.out).mono ?_); (case side1 => repeat (first | exact (Kd.R_reads' HO_286001.out).2.2 | (with_reducible refine Kd.C_alloc ?_ _) | (with_reducible refine Kd.C_drewN ?_ _) | (with_reducible refine Kd.C_drew ?_))); (case side2 => exact (Kd.R_reads' HO_286001.out).2.1); rintro e w163 ⟨rfl, hb⟩; refine ⟨_, rfl, ?_⟩; have n0_ := Aside0.mk (Kd.R_below (by (with_reducible repeat (first | apply Kd.R_alloc | apply Kd.R_drewN | apply Kd.R_drew)); exact HO_275001.out) hb); have n1_ := Aside0.mk (Kd.R_below (by (with_reducible repeat (first | apply Kd.R_alloc | apply Kd.R_drewN | apply Kd.R_drew)); exact HO_280001.out) hb); have n2_ := Aside0.mk (Kd.R_below (by (with_reducible repeat (first | apply Kd.R_alloc | apply Kd.R_drewN | apply Kd.R_drew)); exact HO_286001.out) hb); have n3_ := Aside0.mk (Kd.R_below (by (with_reducible repeat (first | apply Kd.R_alloc | apply Kd.R_drewN | apply Kd.R_drew)); exact HO_308001.out) hb); have n4_ := Aside0.mk (blk_below (g := gb263) (o := .cells #[.int .i64 a0_0, .slice A0_1 l0_1.length c0_1] 59 (0, 0)) (by (with_reducible repeat (first | refine blk_drewN ?_ _ | refine blk_drew ?_ | refine blk_alloc ?_ _)); exact BK263.out) hb); have n5_ := Aside0.mk (blk_below (g := gb274) (o := .cells #[.int .i64 t269, .slice Ao24 t270.length co24] 48 (0, 0)) (by (with_reducible repeat (first | refine blk_drewN ?_ _ | refine blk_drew ?_ | refine blk_alloc ?_ _)); exact BK274.out) hb); have n6_ := Aside0.mk (blk_below (g := gb279) (o := .cells #[.int .i64 t275, .slice Ao31 t293.length co31] 48 (0, 0)) (by (with_reducible repeat (first | refine blk_drewN ?_ _ | refine blk_drew ?_ | refine blk_alloc ?_ _)); exact BK279.out) hb); have n7_ := Aside0.mk (blk_below (g := gb285) (o := .cells #[.int .i64 t280, .slice Ao38 t296.length co38] 48 (0, 0)) (by (with_reducible repeat (first | refine blk_drewN ?_ _ | refine blk_drew ?_ | refine blk_alloc ?_ _)); exact BK285.out) hb); have n8_ := Aside0.mk (blk_below (g := gb307) (o := .cells #[.int .i64 t302, .slice Ao125 t303.length co125] 48 (0, 0)) (by (with_reducible repeat (first | refine blk_drewN ?_ _ | refine blk_drew ?_ | refine blk_alloc ?_ _)); exact BK307.out) hb); have n9_ := Aside0.mk (below_step (by repeat (first | (with_reducible first | exact HB.out | apply bwA | apply bwN | apply bwD | refine below_set ?_ GE263.out | refine below_set ?_ GE274.out | refine below_set ?_ GE279.out | refine below_set ?_ GE285.out | refine below_set ?_ GE307.out) | exact HB.out)) hb); clear HO_275001; clear HO_280001; clear HO_286001; clear HO_308001; clear BK263; clear BK274; clear BK279; clear BK285; clear BK307; clear HB; have HO_275001 := n0_; have HO_280001 := n1_; have HO_286001 := n2_; have HO_308001 := n3_; have BK263 := n4_; have BK274 := n5_; have BK279 := n6_; have BK285 := n7_; have BK307 := n8_; have HB := n9_; clear n0_ n1_ n2_ n3_ n4_ n5_ n6_ n7_ n8_ n9_; (try clear hb); (try clear hb2); (try clear hk); (try clear hi)))
                go_ret
                exact ⟨by first | rfl | (simp [errW_none, errW_some] <;> rfl) | (simp [*, errW_none, errW_some] <;> rfl), by repeat (first | (with_reducible first | exact HB.out | apply bwA | apply bwN | apply bwD | refine below_set ?_ GE263.out | refine below_set ?_ GE274.out | refine below_set ?_ GE279.out | refine below_set ?_ GE285.out | refine below_set ?_ GE307.out) | exact HB.out)⟩
               ·rw [if_neg c157] at H
                have c157b0 : (t309 == t295) = false := beq_eq_false_iff_ne.mpr c157
                have c157b1 : (t309 != t295) = true := bne_iff_ne.mpr c157
                obtain rfl := Option.some.inj H
                have hnb164 := NB285_263.out
                have hnc164 := NB263_285.out
                have hnb165 := NB285_274.out
                have hnc165 := NB274_285.out
                have hnb166 := NB285_279.out
                have hnc166 := NB279_285.out
                have hnb167 := NB285_307.out
                have hnc167 := NB307_285.out
                have hcz168_0 : wc.cell? ⟨gb285, 0, none⟩ = some (.int .i64 t280) := (blk_cell BK285.out 0).trans rfl
                have hcz168_1 : wc.cell? ⟨gb285, 1, none⟩ = some (.slice Ao38 t296.length co38) := (blk_cell BK285.out 1).trans rfl
                have hfz168_0 := blk_frozen BK285.out 0
                have hfz168_1 := blk_frozen BK285.out 1
                go_wp2_with (first | ((with_reducible refine gate_callee (f := 41) rfl ?_); refine goesL_ (some 100) rfl rfl Try.func41 (by kernel_rfl) rfl #[.agg #[.int .i64 t280, .slice Ao38 t296.length co38], .int .i64 1] rfl (by (try simp only [List.map_toArray, List.map_cons, List.map_nil]); first | done | rfl | (simp only [List.length_drop, List.length_take]; rfl)) ?_; (with_reducible refine (laws_heldDiagram.calls kj104 t280 _ _ t296 1 t309 _ ?side1 ?side2 A149.out).mono ?_); (case side1 => repeat (first | exact (Kd.R_reads' HO_286001.out).2.2 | (with_reducible refine Kd.C_alloc ?_ _) | (with_reducible refine Kd.C_drewN ?_ _) | (with_reducible refine Kd.C_drew ?_))); (case side2 => exact (Kd.R_reads' HO_286001.out).2.1); rintro e w169 ⟨rfl, hb⟩; refine ⟨_, rfl, ?_⟩; have n0_ := Aside0.mk (Kd.R_below (by (with_reducible repeat (first | apply Kd.R_alloc | apply Kd.R_drewN | apply Kd.R_drew)); exact HO_275001.out) hb); have n1_ := Aside0.mk (Kd.R_below (by (with_reducible repeat (first | apply Kd.R_alloc | apply Kd.R_drewN | apply Kd.R_drew)); exact HO_280001.out) hb); have n2_ := Aside0.mk (Kd.R_below (by (with_reducible repeat (first | apply Kd.R_alloc | apply Kd.R_drewN | apply Kd.R_drew)); exact HO_286001.out) hb); have n3_ := Aside0.mk (Kd.R_below (by (with_reducible repeat (first | apply Kd.R_alloc | apply Kd.R_drewN | apply Kd.R_drew)); exact HO_308001.out) hb); have n4_ := Aside0.mk (blk_below (g := gb263) (o := .cells #[.int .i64 a0_0, .slice A0_1 l0_1.length c0_1] 59 (0, 0)) (by (with_reducible repeat (first | refine blk_drewN ?_ _ | refine blk_drew ?_ | refine blk_alloc ?_ _)); exact BK263.out) hb); have n5_ := Aside0.mk (blk_below (g := gb274) (o := .cells #[.int .i64 t269, .slice Ao24 t270.length co24] 48 (0, 0)) (by (with_reducible repeat (first | refine blk_drewN ?_ _ | refine blk_drew ?_ | refine blk_alloc ?_ _)); exact BK274.out) hb); have n6_ := Aside0.mk (blk_below (g := gb279) (o := .cells #[.int .i64 t275, .slice Ao31 t293.length co31] 48 (0, 0)) (by (with_reducible repeat (first | refine blk_drewN ?_ _ | refine blk_drew ?_ | refine blk_alloc ?_ _)); exact BK279.out) hb); have n7_ := Aside0.mk (blk_below (g := gb285) (o := .cells #[.int .i64 t280, .slice Ao38 t296.length co38] 48 (0, 0)) (by (with_reducible repeat (first | refine blk_drewN ?_ _ | refine blk_drew ?_ | refine blk_alloc ?_ _)); exact BK285.out) hb); have n8_ := Aside0.mk (blk_below (g := gb307) (o := .cells #[.int .i64 t302, .slice Ao125 t303.length co125] 48 (0, 0)) (by (with_reducible repeat (first | refine blk_drewN ?_ _ | refine blk_drew ?_ | refine blk_alloc ?_ _)); exact BK307.out) hb); have n9_ := Aside0.mk (below_step (by repeat (first | (with_reducible first | exact HB.out | apply bwA | apply bwN | apply bwD | refine below_set ?_ GE263.out | refine below_set ?_ GE274.out | refine below_set ?_ GE279.out | refine below_set ?_ GE285.out | refine below_set ?_ GE307.out) | exact HB.out)) hb); clear HO_275001; clear HO_280001; clear HO_286001; clear HO_308001; clear BK263; clear BK274; clear BK279; clear BK285; clear BK307; clear HB; have HO_275001 := n0_; have HO_280001 := n1_; have HO_286001 := n2_; have HO_308001 := n3_; have BK263 := n4_; have BK274 := n5_; have BK279 := n6_; have BK285 := n7_; have BK307 := n8_; have HB := n9_; clear n0_ n1_ n2_ n3_ n4_ n5_ n6_ n7_ n8_ n9_; (try clear hb); (try clear hb2); (try clear hk); (try clear hi)))
                go_ret
                exact ⟨by first | rfl | (simp [errW_none, errW_some] <;> rfl) | (simp [*, errW_none, errW_some] <;> rfl), by repeat (first | (with_reducible first | exact HB.out | apply bwA | apply bwN | apply bwD | refine below_set ?_ GE263.out | refine below_set ?_ GE274.out | refine below_set ?_ GE279.out | refine below_set ?_ GE285.out | refine below_set ?_ GE307.out) | exact HB.out)⟩
          ·rw [if_neg c102] at H
           have c102b0 : (t297 == t295) = false := beq_eq_false_iff_ne.mpr c102
           have c102b1 : (t297 != t295) = true := bne_iff_ne.mpr c102
           obtain rfl := Option.some.inj H
           have hnb170 := NB285_263.out
           have hnc170 := NB263_285.out
           have hnb171 := NB285_274.out
           have hnc171 := NB274_285.out
           have hnb172 := NB285_279.out
           have hnc172 := NB279_285.out
           have hcz173_0 : wc.cell? ⟨gb285, 0, none⟩ = some (.int .i64 t280) := (blk_cell BK285.out 0).trans rfl
           have hcz173_1 : wc.cell? ⟨gb285, 1, none⟩ = some (.slice Ao38 t281.length co38) := (blk_cell BK285.out 1).trans rfl
           have hfz173_0 := blk_frozen BK285.out 0
           have hfz173_1 := blk_frozen BK285.out 1
           go_wp2_with (first | ((with_reducible refine gate_callee (f := 40) rfl ?_); refine goesL_ (some 72) rfl rfl Try.func40 (by kernel_rfl) rfl #[.agg #[.int .i64 t280, .slice Ao38 t281.length co38], .int .i64 1] rfl (by (try simp only [List.map_toArray, List.map_cons, List.map_nil]); first | done | rfl | (simp only [List.length_drop, List.length_take]; rfl)) ?_; (with_reducible refine (laws_markDiagram.calls kj61 t280 (fun k_ => some k_ = (.slice Ao38 t281.length co38 : Value).ownBlock) (.slice Ao38 t281.length co38) t281 1 t295 t296 w _ ?side1 ?side2 A92.out).mono ?_); (case side1 => repeat (first | (with_reducible first | exact HB.out | apply bwA | apply bwN | apply bwD | refine below_set ?_ GE263.out | refine below_set ?_ GE274.out | refine below_set ?_ GE279.out | refine below_set ?_ GE285.out) | exact HB.out)); (case side2 => exact Kd.R_tight rfl HO_286001.out); rintro e w174 ⟨rfl, hy0, hb, hkp⟩; refine ⟨_, rfl, ?_⟩; have n0_ := Aside0.mk (Kd.R_mono (ok' := fun k_ => some k_ ≠ (.slice Ao31 t293.length co31 : Value).ownBlock ∧ some k_ ≠ (.slice Ao38 t281.length co38 : Value).ownBlock) (Kd.R_keptB (HO_275001.out) hkp (fun k_ hk_ hs_ => (hk_.2) hs_)) (fun k_ hk_ => ⟨hk_.1.1, hk_.1.2⟩)); have n1_ := Aside0.mk (Kd.R_mono (ok' := fun k_ => some k_ ≠ (.slice Ao24 t270.length co24 : Value).ownBlock ∧ some k_ ≠ (.slice Ao38 t281.length co38 : Value).ownBlock) (Kd.R_keptB (HO_280001.out) hkp (fun k_ hk_ hs_ => (hk_.2) hs_)) (fun k_ hk_ => ⟨hk_.1.1, hk_.1.2⟩)); have n2_ := Aside0.mk (Kd.R_reok rfl hy0 (fun k_ e_ => HO_286001.out.1 k_ e_)); have n3_ := Aside0.mk (blk_kept (by (with_reducible repeat (first | refine blk_drewN ?_ _ | refine blk_drew ?_ | refine blk_alloc ?_ _)); exact BK263.out) hkp (fun hs_ => (fun e_ => (Kd.R_ne HO_286001.out BK263.out (by decide)) e_) hs_)); have n4_ := Aside0.mk (blk_kept (by (with_reducible repeat (first | refine blk_drewN ?_ _ | refine blk_drew ?_ | refine blk_alloc ?_ _)); exact BK274.out) hkp (fun hs_ => (fun e_ => (Kd.R_ne HO_286001.out BK274.out (by decide)) e_) hs_)); have n5_ := Aside0.mk (blk_kept (by (with_reducible repeat (first | refine blk_drewN ?_ _ | refine blk_drew ?_ | refine blk_alloc ?_ _)); exact BK279.out) hkp (fun hs_ => (fun e_ => (Kd.R_ne HO_286001.out BK279.out (by decide)) e_) hs_)); have n6_ := Aside0.mk (blk_kept (by (with_reducible repeat (first | refine blk_drewN ?_ _ | refine blk_drew ?_ | refine blk_alloc ?_ _)); exact BK285.out) hkp (fun hs_ => (fun e_ => (Kd.R_ne HO_286001.out BK285.out (by decide)) e_) hs_)); have n7_ := Aside0.mk (hb); clear HO_275001; clear HO_280001; clear HO_286001; clear BK263; clear BK274; clear BK279; clear BK285; clear HB; have HO_275001 := n0_; have HO_280001 := n1_; have HO_286001 := n2_; have BK263 := n3_; have BK274 := n4_; have BK279 := n5_; have BK285 := n6_; have HB := n7_; clear n0_ n1_ n2_ n3_ n4_ n5_ n6_ n7_; (try clear hb); (try clear hkp); (try clear hy0); have hcz175_0 : w174.cell? ⟨gb285, 0, none⟩ = some (.int .i64 t280) := (blk_cell BK285.out 0).trans rfl; have hcz175_1 : w174.cell? ⟨gb285, 1, none⟩ = some (.slice Ao38 t281.length co38) := (blk_cell BK285.out 1).trans rfl; have hfz175_0 := blk_frozen BK285.out 0; have hfz175_1 := blk_frozen BK285.out 1) | ((with_reducible refine gate_callee (f := 41) rfl ?_); refine goesL_ (some 75) rfl rfl Try.func41 (by kernel_rfl) rfl #[.agg #[.int .i64 t280, .slice Ao38 t296.length co38], .int .i64 1] rfl (by (try simp only [List.map_toArray, List.map_cons, List.map_nil]); first | done | (rw [show t296.length = t281.length from (Kd.R_reads' HO_286001.out).1.symm] <;> rfl) | rfl | (simp only [List.length_drop, List.length_take]; rfl)) ?_; (with_reducible refine (laws_heldDiagram.calls kj61 t280 _ _ t296 1 t297 _ ?side1 ?side2 A93.out).mono ?_); (case side1 => repeat (first | exact (Kd.R_reads' HO_286001.out).2.2 | (with_reducible refine Kd.C_alloc ?_ _) | (with_reducible refine Kd.C_drewN ?_ _) | (with_reducible refine Kd.C_drew ?_))); (case side2 => rw [show t296.length = t281.length from (Kd.R_reads' HO_286001.out).1.symm]; exact (Kd.R_reads' HO_286001.out).2.1); rintro e w176 ⟨rfl, hb⟩; refine ⟨_, rfl, ?_⟩; have n0_ := Aside0.mk (Kd.R_below (by (with_reducible repeat (first | apply Kd.R_alloc | apply Kd.R_drewN | apply Kd.R_drew)); exact HO_275001.out) hb); have n1_ := Aside0.mk (Kd.R_below (by (with_reducible repeat (first | apply Kd.R_alloc | apply Kd.R_drewN | apply Kd.R_drew)); exact HO_280001.out) hb); have n2_ := Aside0.mk (Kd.R_below (by (with_reducible repeat (first | apply Kd.R_alloc | apply Kd.R_drewN | apply Kd.R_drew)); exact HO_286001.out) hb); have n3_ := Aside0.mk (blk_below (g := gb263) (o := .cells #[.int .i64 a0_0, .slice A0_1 l0_1.length c0_1] 59 (0, 0)) (by (with_reducible repeat (first | refine blk_drewN ?_ _ | refine blk_drew ?_ | refine blk_alloc ?_ _)); exact BK263.out) hb); have n4_ := Aside0.mk (blk_below (g := gb274) (o := .cells #[.int .i64 t269, .slice Ao24 t270.length co24] 48 (0, 0)) (by (with_reducible repeat (first | refine blk_drewN ?_ _ | refine blk_drew ?_ | refine blk_alloc ?_ _)); exact BK274.out) hb); have n5_ := Aside0.mk (blk_below (g := gb279) (o := .cells #[.int .i64 t275, .slice Ao31 t293.length co31] 48 (0, 0)) (by (with_reducible repeat (first | refine blk_drewN ?_ _ | refine blk_drew ?_ | refine blk_alloc ?_ _)); exact BK279.out) hb); have n6_ := Aside0.mk (blk_below (g := gb285) (o := .cells #[.int .i64 t280, .slice Ao38 t281.length co38] 48 (0, 0)) (by (with_reducible repeat (first | refine blk_drewN ?_ _ | refine blk_drew ?_ | refine blk_alloc ?_ _)); exact BK285.out) hb); have n7_ := Aside0.mk (below_step (by repeat (first | (with_reducible first | exact HB.out | apply bwA | apply bwN | apply bwD | refine below_set ?_ GE263.out | refine below_set ?_ GE274.out | refine below_set ?_ GE279.out | refine below_set ?_ GE285.out) | exact HB.out)) hb); clear HO_275001; clear HO_280001; clear HO_286001; clear BK263; clear BK274; clear BK279; clear BK285; clear HB; have HO_275001 := n0_; have HO_280001 := n1_; have HO_286001 := n2_; have BK263 := n3_; have BK274 := n4_; have BK279 := n5_; have BK285 := n6_; have HB := n7_; clear n0_ n1_ n2_ n3_ n4_ n5_ n6_ n7_; (try clear hb); (try clear hb2); (try clear hk); (try clear hi)))
           go_ret
           exact ⟨by first | rfl | (simp [errW_none, errW_some] <;> rfl) | (simp [*, errW_none, errW_some] <;> rfl), by repeat (first | (with_reducible first | exact HB.out | apply bwA | apply bwN | apply bwD | refine below_set ?_ GE263.out | refine below_set ?_ GE274.out | refine below_set ?_ GE279.out | refine below_set ?_ GE285.out) | exact HB.out)⟩
     ·replace c60 := Bool.eq_false_iff.mpr c60
      subst c60
      have H1 : (some false) = some r := by rw [if_neg (show ¬ (false = true) by decide)] at H; exact H
      clear H
      have H := H1
      clear H1
      obtain rfl := Option.some.inj H
      try go_wp2
      have n0_ := Aside0.mk (Kd.R_drew HO_275001.out)
      have n1_ := Aside0.mk (Kd.R_drew HO_280001.out)
      have n2_ := Aside0.mk (Kd.R_drew HO_286001.out)
      have n3_ := Aside0.mk (blk_drew BK263.out)
      have n4_ := Aside0.mk (blk_drew BK274.out)
      have n5_ := Aside0.mk (blk_drew BK279.out)
      have n6_ := Aside0.mk (blk_drew BK285.out)
      have n7_ := Aside0.mk (below_drew1 HB.out)
      clear HO_275001
      clear HO_280001
      clear HO_286001
      clear BK263
      clear BK274
      clear BK279
      clear BK285
      clear HB
      have HO_275001 := n0_
      have HO_280001 := n1_
      have HO_286001 := n2_
      have BK263 := n3_
      have BK274 := n4_
      have BK279 := n5_
      have BK285 := n6_
      have HB := n7_
      clear n0_ n1_ n2_ n3_ n4_ n5_ n6_ n7_
      refine start_ (n := 5) (S := fun w' => w'.cell? ⟨gb279, 0, none⟩ = some (.int .i64 t275) ∧ w'.cell? ⟨gb279, 1, none⟩ = some (.slice Ao31 t276.length co31) ∧ w'.cell? ⟨gb263, 0, none⟩ = some (.int .i64 a0_0) ∧ w'.cell? ⟨gb263, 1, none⟩ = some (.slice A0_1 l0_1.length c0_1)) (ds := []) #[false, false, false, false, false] (by kernel_rfl) rfl rfl ⟨(blk_cell BK279.out 0).trans rfl, (blk_cell BK279.out 1).trans rfl, (blk_cell BK263.out 0).trans rfl, (blk_cell BK263.out 1).trans rfl⟩ (fun hHeld => ?_)
      generalize wc.drew = w177 at HO_275001 HO_280001 HO_286001 BK263 BK274 BK279 BK285 HB hHeld ⊢
      refine take_ (i := 0) (N := some 49) (v := ?_) (a' := ?_) #[true, false, false, false, false] rfl rfl (by kernel_rfl) (fun _ _ _ h => h) (Or.inl ⟨by rfl, ?_⟩) hHeld ?_ ?_
      rotate_left
      ·rintro w' ⟨s0, s1, s2, s3⟩
       go_simp
       with_reducible rfl
      rotate_left
      ·simp only [Act.put, List.setIfInBounds_toArray, List.set_cons_zero, List.set_cons_succ, i64_w, i32_w]
       rfl
      refine take_ (i := 1) (N := some 50) (v := ?_) (a' := ?_) #[true, true, false, false, false] rfl rfl (by kernel_rfl) (fun _ _ _ h => h) (Or.inl ⟨by rfl, ?_⟩) hHeld ?_ ?_
      rotate_left
      ·rintro w' ⟨s0, s1, s2, s3⟩
       go_simp
       with_reducible rfl
      rotate_left
      ·simp only [Act.put, List.setIfInBounds_toArray, List.set_cons_zero, List.set_cons_succ, i64_w, i32_w]
       rfl
      refine one_ (i := 2) (N := some 51) #[true, true, true, false, false] rfl rfl (by kernel_rfl) (by decide) (fun K hK => ?_)
      refine goes_ Try.func38 (by kernel_rfl) rfl #[.agg #[.int .i64 a0_0, .slice A0_1 l0_1.length c0_1]] (by rfl) rfl rfl (by (try simp only [List.map_toArray, List.map_cons, List.map_nil]); first | done | rfl | (simp only [List.length_drop, List.length_take]; rfl)) ?_
      with_reducible refine (laws_toDiagram.calls kj12 a0_0 _ _ l0_1 t287 t288 _ ?side1 ?side2 A58.out).mono ?_
      (case side1 => repeat (first | exact (Kd.C_below HR0_1.out HB.out) | (with_reducible refine Kd.C_alloc ?_ _) | (with_reducible refine Kd.C_drewN ?_ _) | (with_reducible refine Kd.C_drew ?_)))
      (case side2 => exact HC0_1.out)
      rintro e w178 ⟨v289, rfl, ho0, hb⟩
      refine ⟨_, rfl, ?_⟩
      have n0_ := Aside0.mk (Kd.R_elder' (by (with_reducible repeat (first | apply Kd.R_alloc | apply Kd.R_drewN | apply Kd.R_drew)); exact HO_275001.out) (Kd.R_base ho0) hb)
      have n1_ := Aside0.mk (Kd.R_elder' (by (with_reducible repeat (first | apply Kd.R_alloc | apply Kd.R_drewN | apply Kd.R_drew)); exact HO_280001.out) (Kd.R_base ho0) hb)
      have n2_ := Aside0.mk (Kd.R_elder' (by (with_reducible repeat (first | apply Kd.R_alloc | apply Kd.R_drewN | apply Kd.R_drew)); exact HO_286001.out) (Kd.R_base ho0) hb)
      have n3_ := Aside0.mk (Kd.R_lower (Kd.R_new' (Kd.R_new' (Kd.R_new' ho0 (Kd.R_lt (by (with_reducible repeat (first | apply Kd.R_alloc | apply Kd.R_drewN | apply Kd.R_drew)); exact HO_275001.out))) (Kd.R_lt (by (with_reducible repeat (first | apply Kd.R_alloc | apply Kd.R_drewN | apply Kd.R_drew)); exact HO_280001.out))) (Kd.R_lt (by (with_reducible repeat (first | apply Kd.R_alloc | apply Kd.R_drewN | apply Kd.R_drew)); exact HO_286001.out))) (below_size (by repeat (first | (with_reducible first | exact HB.out | apply bwA | apply bwN | apply bwD | refine below_set ?_ GE263.out | refine below_set ?_ GE274.out | refine below_set ?_ GE279.out | refine below_set ?_ GE285.out) | exact HB.out))))
      have n4_ := Aside0.mk (blk_below (g := gb263) (o := .cells #[.int .i64 a0_0, .slice A0_1 l0_1.length c0_1] 59 (0, 0)) (by (with_reducible repeat (first | refine blk_drewN ?_ _ | refine blk_drew ?_ | refine blk_alloc ?_ _)); exact BK263.out) hb)
      have n5_ := Aside0.mk (blk_below (g := gb274) (o := .cells #[.int .i64 t269, .slice Ao24 t270.length co24] 48 (0, 0)) (by (with_reducible repeat (first | refine blk_drewN ?_ _ | refine blk_drew ?_ | refine blk_alloc ?_ _)); exact BK274.out) hb)
      have n6_ := Aside0.mk (blk_below (g := gb279) (o := .cells #[.int .i64 t275, .slice Ao31 t276.length co31] 48 (0, 0)) (by (with_reducible repeat (first | refine blk_drewN ?_ _ | refine blk_drew ?_ | refine blk_alloc ?_ _)); exact BK279.out) hb)
      have n7_ := Aside0.mk (blk_below (g := gb285) (o := .cells #[.int .i64 t280, .slice Ao38 t281.length co38] 48 (0, 0)) (by (with_reducible repeat (first | refine blk_drewN ?_ _ | refine blk_drew ?_ | refine blk_alloc ?_ _)); exact BK285.out) hb)
      have n8_ := Aside0.mk (below_step (by repeat (first | (with_reducible first | exact HB.out | apply bwA | apply bwN | apply bwD | refine below_set ?_ GE263.out | refine below_set ?_ GE274.out | refine below_set ?_ GE279.out | refine below_set ?_ GE285.out) | exact HB.out)) hb)
      clear HO_275001
      clear HO_280001
      clear HO_286001
      clear BK263
      clear BK274
      clear BK279
      clear BK285
      clear HB
      have HO_275001 := n0_
      have HO_280001 := n1_
      have HO_286001 := n2_
      have HO290 := n3_
      have BK263 := n4_
      have BK274 := n5_
      have BK279 := n6_
      have BK285 := n7_
      have HB := n8_
      clear n0_ n1_ n2_ n3_ n4_ n5_ n6_ n7_ n8_
      (try clear hb)
      (try clear hb2)
      (try clear hk)
      (try clear hi)
      (try clear ho0)
      obtain ⟨Ao179, co179, eo179⟩ := Kd.R_slice HO290.out
      (first | subst eo179 | (injection eo179 with f1_ f2_ f3_; have f4_ := f1_.symm; have f5_ := f3_.symm; clear f1_ f2_ f3_; subst f4_; subst f5_))
      refine hK.out _ _ ⟨(blk_cell BK279.out 0).trans rfl, (blk_cell BK279.out 1).trans rfl, (blk_cell BK263.out 0).trans rfl, (blk_cell BK263.out 1).trans rfl⟩ (fun hHeld => ?_)
      clear hK K
      refine norm_ (a' := ?_) ?_ ?_
      rotate_left
      ·show Act.put _ (some 51) _ = _
       simp only [Act.put, List.setIfInBounds_toArray, List.set_cons_zero, List.set_cons_succ, i64_w, i32_w]
       rfl
      refine one_ (i := 3) (N := some 52) #[true, true, true, true, false] rfl rfl (by kernel_rfl) (by decide) (fun K hK => ?_)
      refine goes_ Try.func39 (by kernel_rfl) rfl #[.agg #[.int .i64 t275, .slice Ao31 t276.length co31], .agg #[.int .i64 t287, .slice Ao179 t288.length co179]] (by rfl) rfl rfl (by (try simp only [List.map_toArray, List.map_cons, List.map_nil]); first | done | rfl | (simp only [List.length_drop, List.length_take]; rfl)) ?_
      with_reducible refine (laws_eqDiagram.calls kj12 t275 _ _ t276 t287 _ _ t288 false _ ?side1 ?side2 ?side3 ?side4 A59.out).mono ?_
      (case side1 => repeat (first | exact (Kd.R_reads' HO_280001.out).2.2 | (with_reducible refine Kd.C_alloc ?_ _) | (with_reducible refine Kd.C_drewN ?_ _) | (with_reducible refine Kd.C_drew ?_)))
      (case side2 => exact (Kd.R_reads' HO_280001.out).2.1)
      (case side3 => repeat (first | exact (Kd.R_reads' HO290.out).2.2 | (with_reducible refine Kd.C_alloc ?_ _) | (with_reducible refine Kd.C_drewN ?_ _) | (with_reducible refine Kd.C_drew ?_)))
      (case side4 => exact (Kd.R_reads' HO290.out).2.1)
      rintro e w180 ⟨rfl, hb⟩
      refine ⟨_, rfl, ?_⟩
      have n0_ := Aside0.mk (Kd.R_below (by (with_reducible repeat (first | apply Kd.R_alloc | apply Kd.R_drewN | apply Kd.R_drew)); exact HO_275001.out) hb)
      have n1_ := Aside0.mk (Kd.R_below (by (with_reducible repeat (first | apply Kd.R_alloc | apply Kd.R_drewN | apply Kd.R_drew)); exact HO_280001.out) hb)
      have n2_ := Aside0.mk (Kd.R_below (by (with_reducible repeat (first | apply Kd.R_alloc | apply Kd.R_drewN | apply Kd.R_drew)); exact HO_286001.out) hb)
      have n3_ := Aside0.mk (Kd.R_below (by (with_reducible repeat (first | apply Kd.R_alloc | apply Kd.R_drewN | apply Kd.R_drew)); exact HO290.out) hb)
      have n4_ := Aside0.mk (blk_below (g := gb263) (o := .cells #[.int .i64 a0_0, .slice A0_1 l0_1.length c0_1] 59 (0, 0)) (by (with_reducible repeat (first | refine blk_drewN ?_ _ | refine blk_drew ?_ | refine blk_alloc ?_ _)); exact BK263.out) hb)
      have n5_ := Aside0.mk (blk_below (g := gb274) (o := .cells #[.int .i64 t269, .slice Ao24 t270.length co24] 48 (0, 0)) (by (with_reducible repeat (first | refine blk_drewN ?_ _ | refine blk_drew ?_ | refine blk_alloc ?_ _)); exact BK274.out) hb)
      have n6_ := Aside0.mk (blk_below (g := gb279) (o := .cells #[.int .i64 t275, .slice Ao31 t276.length co31] 48 (0, 0)) (by (with_reducible repeat (first | refine blk_drewN ?_ _ | refine blk_drew ?_ | refine blk_alloc ?_ _)); exact BK279.out) hb)
      have n7_ := Aside0.mk (blk_below (g := gb285) (o := .cells #[.int .i64 t280, .slice Ao38 t281.length co38] 48 (0, 0)) (by (with_reducible repeat (first | refine blk_drewN ?_ _ | refine blk_drew ?_ | refine blk_alloc ?_ _)); exact BK285.out) hb)
      have n8_ := Aside0.mk (below_step (by repeat (first | (with_reducible first | exact HB.out | apply bwA | apply bwN | apply bwD | refine below_set ?_ GE263.out | refine below_set ?_ GE274.out | refine below_set ?_ GE279.out | refine below_set ?_ GE285.out) | exact HB.out)) hb)
      clear HO_275001
      clear HO_280001
      clear HO_286001
      clear HO290
      clear BK263
      clear BK274
      clear BK279
      clear BK285
      clear HB
      have HO_275001 := n0_
      have HO_280001 := n1_
      have HO_286001 := n2_
      have HO290 := n3_
      have BK263 := n4_
      have BK274 := n5_
      have BK279 := n6_
      have BK285 := n7_
      have HB := n8_
      clear n0_ n1_ n2_ n3_ n4_ n5_ n6_ n7_ n8_
      (try clear hb)
      (try clear hb2)
      (try clear hk)
      (try clear hi)
      refine hK.out _ _ ⟨(blk_cell BK279.out 0).trans rfl, (blk_cell BK279.out 1).trans rfl, (blk_cell BK263.out 0).trans rfl, (blk_cell BK263.out 1).trans rfl⟩ (fun hHeld => ?_)
      clear hK K
      refine norm_ (a' := ?_) ?_ ?_
      rotate_left
      ·show Act.put _ (some 52) _ = _
       simp only [Act.put, List.setIfInBounds_toArray, List.set_cons_zero, List.set_cons_succ, i64_w, i32_w]
       rfl
      refine pure_ (i := 4) (N := some 53) (v := ?_) (a' := ?_) #[true, true, true, true, true] rfl rfl (by kernel_rfl) (fun _ _ _ h => h) (Or.inl ⟨by rfl, ?_⟩) ?_ ?_
      rotate_left
      ·intro w'
       go_simp
       with_reducible rfl
      rotate_left
      ·simp only [Act.put, List.setIfInBounds_toArray, List.set_cons_zero, List.set_cons_succ, i64_w, i32_w]
       rfl
      refine done_ (by kernel_rfl) ?_
      try go_wp2
      go_ret
      exact ⟨by first | rfl | (simp [errW_none, errW_some] <;> rfl) | (simp [*, errW_none, errW_some] <;> rfl), by repeat (first | (with_reducible first | exact HB.out | apply bwA | apply bwN | apply bwD | refine below_set ?_ GE263.out | refine below_set ?_ GE274.out | refine below_set ?_ GE279.out | refine below_set ?_ GE285.out) | exact HB.out)⟩
def GoodIi64 (x : Int) : Prop := (Lit.int .i64 x).wf = true
def GoodS138 (x : S138) : Prop := GoodIi64 x.f0 ∧ GoodIi64 x.f1 ∧ GoodIi64 x.f2
def GoodL3 (x : List (S138)) : Prop := (x.length ≤ maxLen ∧ ∀ x_ ∈ x, GoodS138 x_)
/-- THE ONE PURE STATEMENT of laws_FnExactSwapOrder. -/
def laws_FnExactSwapOrder.Pure : Prop := ∀ (a0_0 : Int) (l0_1 : List (S138)) (a1 : Int) (a2 : Int), GoodIi64 a0_0 → GoodL3 l0_1 → GoodIi64 a1 → GoodIi64 a2 → ∃ k, laws_FnExactSwapOrder.f k a0_0 l0_1 a1 a2 = some true
theorem laws_FnExactSwapOrder.walk (P : laws_FnExactSwapOrder.Pure) (a0_0 : Int) (A0_1 : Option Addr) (c0_1 : Nat) (l0_1 : List (S138)) (a1 : Int) (a2 : Int) (w : World) (hr0_1 : Kd.C k138 w A0_1 l0_1.length l0_1) (hc0_1 : l0_1.length ≤ c0_1) (g0_0 : GoodIi64 a0_0) (g0_1 : GoodL3 l0_1) (g1 : GoodIi64 a1) (g2 : GoodIi64 a2) :
  Calls Try.prog 10 #[.agg #[.int .i64 a0_0, .slice A0_1 l0_1.length c0_1], .int .i64 a1, .int .i64 a2] w fun e w' => e = .returned (.bool true) ∧ Below w.heap.size w w' := by
 obtain ⟨k, h⟩ := P a0_0 l0_1 a1 a2 g0_0 g0_1 g1 g2
 refine (laws_FnExactSwapOrder.calls k a0_0 _ _ l0_1 a1 a2 true w hr0_1 hc0_1 h).mono ?_
 rintro e w' ⟨rfl, hd⟩
 exact ⟨rfl, hd⟩

end Go.Proofs.Ytpcckoljocpchaa.QFnExactSwapOrder
