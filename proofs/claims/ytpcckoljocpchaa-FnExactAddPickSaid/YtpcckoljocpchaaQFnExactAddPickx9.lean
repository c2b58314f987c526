-- Written by a program of this session (mk.py). Lean checks it.
import Derived.Test.YtpcckoljocpchaaQFnExactAddPickx0
import Derived.Test.YtpcckoljocpchaaQFnExactAddPickx1
import Derived.Test.YtpcckoljocpchaaQFnExactAddPickx5
import Derived.Test.YtpcckoljocpchaaQFnExactAddPickx7
import Derived.Test.YtpcckoljocpchaaQFnExactAddPickx8
namespace Go.Proofs.Ytpcckoljocpchaa.QFnExactAddPick
open Go.RowKit Go.Proofs.YtpcckoljocpchaaW.PrintWords Go.Proofs.YtpcckoljocpchaaW.PrintLast Go.Proofs.YtpcckoljocpchaaW.PrintMore
attribute [local go_sem] max2_int min2_int max_two min_two max_three min_three max_four min_four   -- for this text's walks alone
set_option linter.unusedVariables false
set_option linter.unusedSimpArgs false

/-! ### laws_FnExactAddPick: function 3 -/
mutual
def laws_FnExactAddPick.j0 : Nat → Int → Int → Int → Int → Int → Bool → Int → List (S113) → Int → List (S92) → Int → List (S92) → Int → List (S92) → Option (Bool)
 | 0, _, _, _, _, _, _, _, _, _, _, _, _, _, _ => none
 | k + 1, x1, x2, x3, x11, x14, x52, x212000, x212001, x223000, x223001, x228000, x228001, x234000, x234001 => if x52 = true then (some false) else ((laws_toCircuit.f k x212000 x212001).bind fun bt235 => ((laws_eqCircuit.f k x228000 x228001 bt235.1 bt235.2).bind fun t239 => (if t239 = true then ((laws_markCircuit.f k x228000 x228001 1).bind fun bt240 => (if bt240.1 < 0 then (laws_FnExactAddPick.j1 k x1 x2 x3 x11 true x212000 x212001 x223000 x223001 x234000 x234001) else ((laws_eqCircuit.f k x234000 x234001 x223000 x223001).bind fun t242 => (if t242 = true then (laws_FnExactAddPick.j1 k x1 x2 x3 x11 (x14 != x11) x212000 x212001 x223000 x223001 x234000 x234001) else (laws_FnExactAddPick.j1 k x1 x2 x3 x11 true x212000 x212001 x223000 x223001 x234000 x234001))))) else (some false))))
def laws_FnExactAddPick.j1 : Nat → Int → Int → Int → Int → Bool → Int → List (S113) → Int → List (S92) → Int → List (S92) → Option (Bool)
 | 0, _, _, _, _, _, _, _, _, _, _, _ => none
 | k + 1, x1, x2, x3, x11, x73, x212000, x212001, x223000, x223001, x234000, x234001 => if x73 = true then (some false) else ((laws_markCircuit.f k x234000 x234001 1).bind fun bt243 => ((laws_heldCircuit.f k x234000 bt243.2 1).bind fun t245 => (if t245 < 0 then (some false) else (if t245 = bt243.1 then ((laws_toCircuit.f k x212000 x212001).bind fun bt246 => ((impl_AddPick.f k bt246.1 bt246.2 x1 x2 x3).bind fun bt250 => ((laws_eqCircuit.f k bt250.1 bt250.2.1 x223000 x223001).bind fun t256 => (if t256 = true then (laws_FnExactAddPick.j2 k bt243.1 (bt250.2.2 != x11) x234000 bt243.2) else (laws_FnExactAddPick.j2 k bt243.1 true x234000 bt243.2))))) else (some false)))))
def laws_FnExactAddPick.j2 : Nat → Int → Bool → Int → List (S92) → Option (Bool)
 | 0, _, _, _, _ => none
 | k + 1, x16, x102, x234000, x234001 => if x102 = true then (some false) else ((laws_heldCircuit.f k x234000 x234001 1).bind fun t257 => (if t257 < 0 then (some false) else (if t257 = x16 then (some true) else (some false))))
end
def laws_FnExactAddPick.f (k : Nat) (a0_0 : Int) (l0_1 : List (S113)) (a1 : Int) (a2 : Int) (a3 : Int) : Option (Bool) := (laws_szCircuit.f a0_0 l0_1 1048576).bind fun t212 => (if t212 < 0 then (some true) else ((laws_toCircuit.f k a0_0 l0_1).bind fun bt213 => ((spec_AddPick.f k bt213.1 bt213.2 a1 a2 a3).bind fun bt217 => ((laws_toCircuit.f k a0_0 l0_1).bind fun bt223 => ((impl_AddPick.f k bt223.1 bt223.2 a1 a2 a3).bind fun bt228 => ((laws_eqCircuit.f k bt228.1 bt228.2.1 bt217.1 bt217.2.1).bind fun t234 => (if t234 = true then (laws_FnExactAddPick.j0 k a1 a2 a3 bt217.2.2 bt228.2.2 (bt228.2.2 != bt217.2.2) a0_0 l0_1 bt217.1 bt217.2.1 bt223.1 bt223.2 bt228.1 bt228.2.1) else (laws_FnExactAddPick.j0 k a1 a2 a3 bt217.2.2 bt228.2.2 true a0_0 l0_1 bt217.1 bt217.2.1 bt223.1 bt223.2 bt228.1 bt228.2.1))))))))
theorem laws_FnExactAddPick.mono_l : ∀ k, (∀ y0 y1 y2 y3 y4 y5 y6 y7 y8 y9 y10 y11 y12 y13, LeO (laws_FnExactAddPick.j0 k y0 y1 y2 y3 y4 y5 y6 y7 y8 y9 y10 y11 y12 y13) (laws_FnExactAddPick.j0 (k + 1) y0 y1 y2 y3 y4 y5 y6 y7 y8 y9 y10 y11 y12 y13)) ∧ (∀ y0 y1 y2 y3 y4 y5 y6 y7 y8 y9 y10, LeO (laws_FnExactAddPick.j1 k y0 y1 y2 y3 y4 y5 y6 y7 y8 y9 y10) (laws_FnExactAddPick.j1 (k + 1) y0 y1 y2 y3 y4 y5 y6 y7 y8 y9 y10)) ∧ (∀ y0 y1 y2 y3, LeO (laws_FnExactAddPick.j2 k y0 y1 y2 y3) (laws_FnExactAddPick.j2 (k + 1) y0 y1 y2 y3))
 | 0 => ⟨fun _ _ _ _ _ _ _ _ _ _ _ _ _ _ r h => by simp [laws_FnExactAddPick.j0] at h, fun _ _ _ _ _ _ _ _ _ _ _ r h => by simp [laws_FnExactAddPick.j1] at h, fun _ _ _ _ r h => by simp [laws_FnExactAddPick.j2] at h⟩
 | k + 1 => by
  obtain ⟨ih0, ih1, ih2⟩ := laws_FnExactAddPick.mono_l k
  refine ⟨?_, ?_, ?_⟩
  ·intro y0 y1 y2 y3 y4 y5 y6 y7 y8 y9 y10 y11 y12 y13
   unfold laws_FnExactAddPick.j0
   repeat' first
   | (with_reducible exact ih0 _ _ _ _ _ _ _ _ _ _ _ _ _ _)
   | (with_reducible exact ih1 _ _ _ _ _ _ _ _ _ _ _)
   | (with_reducible exact ih2 _ _ _ _)
   | (with_reducible exact impl_AddPick.mono _ _ _ _ _ _)
   | (with_reducible exact laws_eqCircuit.mono _ _ _ _ _)
   | (with_reducible exact laws_heldCircuit.mono _ _ _ _)
   | (with_reducible exact laws_markCircuit.mono _ _ _ _)
   | (with_reducible exact laws_toCircuit.mono _ _ _)
   | (with_reducible exact spec_AddPick.mono _ _ _ _ _ _)
   | (with_reducible exact LeO.refl _)
   | (with_reducible exact LeO.none _)
   | (with_reducible refine LeO.ite ?_ ?_)
   | (with_reducible refine LeO.bind ?_ (fun _ => ?_))
   | exact ih0 _ _ _ _ _ _ _ _ _ _ _ _ _ _
   | exact ih1 _ _ _ _ _ _ _ _ _ _ _
   | exact ih2 _ _ _ _
   | exact impl_AddPick.mono _ _ _ _ _ _
   | exact laws_eqCircuit.mono _ _ _ _ _
   | exact laws_heldCircuit.mono _ _ _ _
   | exact laws_markCircuit.mono _ _ _ _
   | exact laws_toCircuit.mono _ _ _
   | exact spec_AddPick.mono _ _ _ _ _ _
   | exact LeO.none _
   | refine LeO.ite ?_ ?_
   | refine LeO.bind ?_ (fun _ => ?_)
  ·intro y0 y1 y2 y3 y4 y5 y6 y7 y8 y9 y10
   unfold laws_FnExactAddPick.j1
   repeat' first
   | (with_reducible exact ih0 _ _ _ _ _ _ _ _ _ _ _ _ _ _)
   | (with_reducible exact ih1 _ _ _ _ _ _ _ _ _ _ _)
   | (with_reducible exact ih2 _ _ _ _)
   | (with_reducible exact impl_AddPick.mono _ _ _ _ _ _)
   | (with_reducible exact laws_eqCircuit.mono _ _ _ _ _)
   | (with_reducible exact laws_heldCircuit.mono _ _ _ _)
   | (with_reducible exact laws_markCircuit.mono _ _ _ _)
   | (with_reducible exact laws_toCircuit.mono _ _ _)
   | (with_reducible exact spec_AddPick.mono _ _ _ _ _ _)
   | (with_reducible exact LeO.refl _)
   | (with_reducible exact LeO.none _)
   | (with_reducible refine LeO.ite ?_ ?_)
   | (with_reducible refine LeO.bind ?_ (fun _ => ?_))
   | exact ih0 _ _ _ _ _ _ _ _ _ _ _ _ _ _
   | exact ih1 _ _ _ _ _ _ _ _ _ _ _
   | exact ih2 _ _ _ _
   | exact impl_AddPick.mono _ _ _ _ _ _
   | exact laws_eqCircuit.mono _ _ _ _ _
   | exact laws_heldCircuit.mono _ _ _ _
   | exact laws_markCircuit.mono _ _ _ _
   | exact laws_toCircuit.mono _ _ _
   | exact spec_AddPick.mono _ _ _ _ _ _
   | exact LeO.none _
   | refine LeO.ite ?_ ?_
   | refine LeO.bind ?_ (fun _ => ?_)
  ·intro y0 y1 y2 y3
   unfold laws_FnExactAddPick.j2
   repeat' first
   | (with_reducible exact ih0 _ _ _ _ _ _ _ _ _ _ _ _ _ _)
   | (with_reducible exact ih1 _ _ _ _ _ _ _ _ _ _ _)
   | (with_reducible exact ih2 _ _ _ _)
   | (with_reducible exact impl_AddPick.mono _ _ _ _ _ _)
   | (with_reducible exact laws_eqCircuit.mono _ _ _ _ _)
   | (with_reducible exact laws_heldCircuit.mono _ _ _ _)
   | (with_reducible exact laws_markCircuit.mono _ _ _ _)
   | (with_reducible exact laws_toCircuit.mono _ _ _)
   | (with_reducible exact spec_AddPick.mono _ _ _ _ _ _)
   | (with_reducible exact LeO.refl _)
   | (with_reducible exact LeO.none _)
   | (with_reducible refine LeO.ite ?_ ?_)
   | (with_reducible refine LeO.bind ?_ (fun _ => ?_))
   | exact ih0 _ _ _ _ _ _ _ _ _ _ _ _ _ _
   | exact ih1 _ _ _ _ _ _ _ _ _ _ _
   | exact ih2 _ _ _ _
   | exact impl_AddPick.mono _ _ _ _ _ _
   | exact laws_eqCircuit.mono _ _ _ _ _
   | exact laws_heldCircuit.mono _ _ _ _
   | exact laws_markCircuit.mono _ _ _ _
   | exact laws_toCircuit.mono _ _ _
   | exact spec_AddPick.mono _ _ _ _ _ _
   | exact LeO.none _
   | refine LeO.ite ?_ ?_
   | refine LeO.bind ?_ (fun _ => ?_)
theorem laws_FnExactAddPick.mono : ∀ a0 a1 a2 a3 a4 k, LeO (laws_FnExactAddPick.f k a0 a1 a2 a3 a4) (laws_FnExactAddPick.f (k + 1) a0 a1 a2 a3 a4) := by
 intro a0 a1 a2 a3 a4 k
 obtain ⟨ih0, ih1, ih2⟩ := laws_FnExactAddPick.mono_l k
 unfold laws_FnExactAddPick.f
 repeat' first
   | (with_reducible exact ih0 _ _ _ _ _ _ _ _ _ _ _ _ _ _)
   | (with_reducible exact ih1 _ _ _ _ _ _ _ _ _ _ _)
   | (with_reducible exact ih2 _ _ _ _)
   | (with_reducible exact impl_AddPick.mono _ _ _ _ _ _)
   | (with_reducible exact laws_eqCircuit.mono _ _ _ _ _)
   | (with_reducible exact laws_heldCircuit.mono _ _ _ _)
   | (with_reducible exact laws_markCircuit.mono _ _ _ _)
   | (with_reducible exact laws_toCircuit.mono _ _ _)
   | (with_reducible exact spec_AddPick.mono _ _ _ _ _ _)
   | (with_reducible exact LeO.refl _)
   | (with_reducible exact LeO.none _)
   | (with_reducible refine LeO.ite ?_ ?_)
   | (with_reducible refine LeO.bind ?_ (fun _ => ?_))
   | exact ih0 _ _ _ _ _ _ _ _ _ _ _ _ _ _
   | exact ih1 _ _ _ _ _ _ _ _ _ _ _
   | exact ih2 _ _ _ _
   | exact impl_AddPick.mono _ _ _ _ _ _
   | exact laws_eqCircuit.mono _ _ _ _ _
   | exact laws_heldCircuit.mono _ _ _ _
   | exact laws_markCircuit.mono _ _ _ _
   | exact laws_toCircuit.mono _ _ _
   | exact spec_AddPick.mono _ _ _ _ _ _
   | exact LeO.none _
   | refine LeO.ite ?_ ?_
   | refine LeO.bind ?_ (fun _ => ?_)
set_option maxHeartbeats 8000000 in
set_option maxRecDepth 100000 in
theorem laws_FnExactAddPick.calls (k : Nat) (a0_0 : Int) (A0_1 : Option Addr) (c0_1 : Nat) (l0_1 : List (S113)) (a1 : Int) (a2 : Int) (a3 : Int) (r : Bool) (w : World) (hr0_1 : Kd.C k113 w A0_1 l0_1.length l0_1) (hc0_1 : l0_1.length ≤ c0_1) (h : laws_FnExactAddPick.f k a0_0 l0_1 a1 a2 a3 = some r) :
  Calls Try.prog 3 #[.agg #[.int .i64 a0_0, .slice A0_1 l0_1.length c0_1], .int .i64 a1, .int .i64 a2, .int .i64 a3] w fun e w' => e = .returned (.bool r) ∧ Below w.heap.size w w' := by
 have hu24 := Try.underlying24
 have hu28 := Try.underlying28
 have HR0_1 := Aside0.mk hr0_1
 have HC0_1 := Aside0.mk hc0_1
 clear hr0_1 hc0_1
 have HB := Aside0.mk (Below.refl w.heap.size w)
 have H : ((laws_szCircuit.f a0_0 l0_1 1048576).bind fun t212 => (if t212 < 0 then (some true) else ((laws_toCircuit.f k a0_0 l0_1).bind fun bt213 => ((spec_AddPick.f k bt213.1 bt213.2 a1 a2 a3).bind fun bt217 => ((laws_toCircuit.f k a0_0 l0_1).bind fun bt223 => ((impl_AddPick.f k bt223.1 bt223.2 a1 a2 a3).bind fun bt228 => ((laws_eqCircuit.f k bt228.1 bt228.2.1 bt217.1 bt217.2.1).bind fun t234 => (if t234 = true then (laws_FnExactAddPick.j0 k a1 a2 a3 bt217.2.2 bt228.2.2 (bt228.2.2 != bt217.2.2) a0_0 l0_1 bt217.1 bt217.2.1 bt223.1 bt223.2 bt228.1 bt228.2.1) else (laws_FnExactAddPick.j0 k a1 a2 a3 bt217.2.2 bt228.2.2 true a0_0 l0_1 bt217.1 bt217.2.1 bt223.1 bt223.2 bt228.1 bt228.2.1))))))))) = some r := h
 clear h
 replace H := Option.bind_eq_some_iff.mp H
 obtain ⟨t212, A50, H⟩ := H
 replace H : (if t212 < 0 then (some true) else ((laws_toCircuit.f k a0_0 l0_1).bind fun bt213 => ((spec_AddPick.f k bt213.1 bt213.2 a1 a2 a3).bind fun bt217 => ((laws_toCircuit.f k a0_0 l0_1).bind fun bt223 => ((impl_AddPick.f k bt223.1 bt223.2 a1 a2 a3).bind fun bt228 => ((laws_eqCircuit.f k bt228.1 bt228.2.1 bt217.1 bt217.2.1).bind fun t234 => (if t234 = true then (laws_FnExactAddPick.j0 k a1 a2 a3 bt217.2.2 bt228.2.2 (bt228.2.2 != bt217.2.2) a0_0 l0_1 bt217.1 bt217.2.1 bt223.1 bt223.2 bt228.1 bt228.2.1) else (laws_FnExactAddPick.j0 k a1 a2 a3 bt217.2.2 bt228.2.2 true a0_0 l0_1 bt217.1 bt217.2.1 bt223.1 bt223.2 bt228.1 bt228.2.1)))))))) = some r := H
 have A5 := Aside0.mk A50
 clear A50
 by_cases c6 : t212 < 0
 ·rw [if_pos c6] at H
  have c6b0 : decide (t212 < 0) = true := decide_eq_true c6
  clear c6
  obtain rfl := Option.some.inj H
  go_enter Try.func3, Try.ntmps3
  go_wp2_with (first | ((with_reducible refine gate_dst (N := 4) rfl ?_); refine box_event ?hg (N := 4) ?hd (cs := #[.int .i64 a0_0, .slice A0_1 l0_1.length c0_1]) (t := 24) ?hr ?_; (case hd => rfl); (case hg => rfl); (case hr => first | (go_simp; done) | (go_simp; rfl)); intro gb211 hg w7 hbox hb; have n0_ := Aside0.mk (below_step (by repeat (first | (with_reducible first | exact HB.out | apply bwA | apply bwN | apply bwD) | exact HB.out)) hb); have n1_ := Aside0.mk (hbox); have n2_ := Aside0.mk ((by rw [hg]; exact (below_size (by repeat (first | (with_reducible first | exact HB.out | apply bwA | apply bwN | apply bwD) | exact HB.out))) : w.heap.size ≤ gb211)); have n3_ := Aside0.mk ((by rw [hg]; exact (below_size (by repeat (first | (with_reducible first | exact HB.out | apply bwA | apply bwN | apply bwD) | exact HB.out))) : w.heap.size ≤ gb211)); clear HB; have HB := n0_; have BK211 := n1_; have GW211 := n2_; have GE211 := n3_; clear n0_ n1_ n2_ n3_; clear hb hbox hg; have hcz8_0 : w7.cell? ⟨gb211, 0, none⟩ = some (.int .i64 a0_0) := (blk_cell BK211.out 0).trans rfl; have hcz8_1 : w7.cell? ⟨gb211, 1, none⟩ = some (.slice A0_1 l0_1.length c0_1) := (blk_cell BK211.out 1).trans rfl; have hfz8_0 := blk_frozen BK211.out 0; have hfz8_1 := blk_frozen BK211.out 1) | ((with_reducible refine gate_callee (f := 12) rfl ?_); refine goesL_ (some 22) rfl rfl Try.func12 (by kernel_rfl) rfl #[.agg #[.int .i64 a0_0, .slice A0_1 l0_1.length c0_1], .int .i64 1048576] rfl (by (try simp only [List.map_toArray, List.map_cons, List.map_nil]); first | done | rfl | (simp only [List.length_drop, List.length_take]; rfl)) ?_; (with_reducible refine (laws_szCircuit.calls a0_0 _ _ l0_1 1048576 t212 _ ?side1 ?side2 A5.out).mono ?_); (case side1 => repeat (first | exact (Kd.C_below HR0_1.out HB.out) | (with_reducible refine Kd.C_alloc ?_ _) | (with_reducible refine Kd.C_drewN ?_ _) | (with_reducible refine Kd.C_drew ?_))); (case side2 => exact HC0_1.out); rintro e w9 ⟨rfl, hb⟩; refine ⟨_, rfl, ?_⟩; have n0_ := Aside0.mk (blk_below (g := gb211) (o := .cells #[.int .i64 a0_0, .slice A0_1 l0_1.length c0_1] 24 (0, 0)) (by (with_reducible repeat (first | refine blk_drewN ?_ _ | refine blk_drew ?_ | refine blk_alloc ?_ _)); exact BK211.out) hb); have n1_ := Aside0.mk (below_step (by repeat (first | (with_reducible first | exact HB.out | apply bwA | apply bwN | apply bwD | refine below_set ?_ GE211.out) | exact HB.out)) hb); clear BK211; clear HB; have BK211 := n0_; have HB := n1_; clear n0_ n1_; (try clear hb); (try clear hb2); (try clear hk); (try clear hi)))
  go_ret
  exact ⟨by first | rfl | (simp [errW_none, errW_some] <;> rfl) | (simp [*, errW_none, errW_some] <;> rfl), by repeat (first | (with_reducible first | exact HB.out | apply bwA | apply bwN | apply bwD | refine below_set ?_ GE211.out) | exact HB.out)⟩
 ·rw [if_neg c6] at H
  have c6b0 : decide (t212 < 0) = false := decide_eq_false c6
  clear c6
  replace H := Option.bind_eq_some_iff.mp H
  obtain ⟨⟨t213, t214⟩, A100, H⟩ := H
  replace H : ((spec_AddPick.f k t213 t214 a1 a2 a3).bind fun bt217 => ((laws_toCircuit.f k a0_0 l0_1).bind fun bt223 => ((impl_AddPick.f k bt223.1 bt223.2 a1 a2 a3).bind fun bt228 => ((laws_eqCircuit.f k bt228.1 bt228.2.1 bt217.1 bt217.2.1).bind fun t234 => (if t234 = true then (laws_FnExactAddPick.j0 k a1 a2 a3 bt217.2.2 bt228.2.2 (bt228.2.2 != bt217.2.2) a0_0 l0_1 bt217.1 bt217.2.1 bt223.1 bt223.2 bt228.1 bt228.2.1) else (laws_FnExactAddPick.j0 k a1 a2 a3 bt217.2.2 bt228.2.2 true a0_0 l0_1 bt217.1 bt217.2.1 bt223.1 bt223.2 bt228.1 bt228.2.1)))))) = some r := H
  have A10 := Aside0.mk A100
  clear A100
  replace H := Option.bind_eq_some_iff.mp H
  obtain ⟨⟨t217, t218, t221⟩, A110, H⟩ := H
  replace H : ((laws_toCircuit.f k a0_0 l0_1).bind fun bt223 => ((impl_AddPick.f k bt223.1 bt223.2 a1 a2 a3).bind fun bt228 => ((laws_eqCircuit.f k bt228.1 bt228.2.1 t217 t218).bind fun t234 => (if t234 = true then (laws_FnExactAddPick.j0 k a1 a2 a3 t221 bt228.2.2 (bt228.2.2 != t221) a0_0 l0_1 t217 t218 bt223.1 bt223.2 bt228.1 bt228.2.1) else (laws_FnExactAddPick.j0 k a1 a2 a3 t221 bt228.2.2 true a0_0 l0_1 t217 t218 bt223.1 bt223.2 bt228.1 bt228.2.1))))) = some r := H
  have A11 := Aside0.mk A110
  clear A110
  replace H := Option.bind_eq_some_iff.mp H
  obtain ⟨⟨t223, t224⟩, A120, H⟩ := H
  replace H : ((impl_AddPick.f k t223 t224 a1 a2 a3).bind fun bt228 => ((laws_eqCircuit.f k bt228.1 bt228.2.1 t217 t218).bind fun t234 => (if t234 = true then (laws_FnExactAddPick.j0 k a1 a2 a3 t221 bt228.2.2 (bt228.2.2 != t221) a0_0 l0_1 t217 t218 t223 t224 bt228.1 bt228.2.1) else (laws_FnExactAddPick.j0 k a1 a2 a3 t221 bt228.2.2 true a0_0 l0_1 t217 t218 t223 t224 bt228.1 bt228.2.1)))) = some r := H
  have A12 := Aside0.mk A120
  clear A120
  replace H := Option.bind_eq_some_iff.mp H
  obtain ⟨⟨t228, t229, t232⟩, A130, H⟩ := H
  replace H : ((laws_eqCircuit.f k t228 t229 t217 t218).bind fun t234 => (if t234 = true then (laws_FnExactAddPick.j0 k a1 a2 a3 t221 t232 (t232 != t221) a0_0 l0_1 t217 t218 t223 t224 t228 t229) else (laws_FnExactAddPick.j0 k a1 a2 a3 t221 t232 true a0_0 l0_1 t217 t218 t223 t224 t228 t229))) = some r := H
  have A13 := Aside0.mk A130
  clear A130
  have HC14 := Aside0.mk H
  clear H
  go_enter Try.func3, Try.ntmps3
  go_upto_region 8 with (first | ((with_reducible refine gate_dst (N := 4) rfl ?_); refine box_event ?hg (N := 4) ?hd (cs := #[.int .i64 a0_0, .slice A0_1 l0_1.length c0_1]) (t := 24) ?hr ?_; (case hd => rfl); (case hg => rfl); (case hr => first | (go_simp; done) | (go_simp; rfl)); intro gb211 hg w15 hbox hb; have n0_ := Aside0.mk (below_step (by repeat (first | (with_reducible first | exact HB.out | apply bwA | apply bwN | apply bwD) | exact HB.out)) hb); have n1_ := Aside0.mk (hbox); have n2_ := Aside0.mk ((by rw [hg]; exact (below_size (by repeat (first | (with_reducible first | exact HB.out | apply bwA | apply bwN | apply bwD) | exact HB.out))) : w.heap.size ≤ gb211)); have n3_ := Aside0.mk ((by rw [hg]; exact (below_size (by repeat (first | (with_reducible first | exact HB.out | apply bwA | apply bwN | apply bwD) | exact HB.out))) : w.heap.size ≤ gb211)); clear HB; have HB := n0_; have BK211 := n1_; have GW211 := n2_; have GE211 := n3_; clear n0_ n1_ n2_ n3_; clear hb hbox hg; have hcz16_0 : w15.cell? ⟨gb211, 0, none⟩ = some (.int .i64 a0_0) := (blk_cell BK211.out 0).trans rfl; have hcz16_1 : w15.cell? ⟨gb211, 1, none⟩ = some (.slice A0_1 l0_1.length c0_1) := (blk_cell BK211.out 1).trans rfl; have hfz16_0 := blk_frozen BK211.out 0; have hfz16_1 := blk_frozen BK211.out 1) | ((with_reducible refine gate_callee (f := 12) rfl ?_); refine goesL_ (some 22) rfl rfl Try.func12 (by kernel_rfl) rfl #[.agg #[.int .i64 a0_0, .slice A0_1 l0_1.length c0_1], .int .i64 1048576] rfl (by (try simp only [List.map_toArray, List.map_cons, List.map_nil]); first | done | rfl | (simp only [List.length_drop, List.length_take]; rfl)) ?_; (with_reducible refine (laws_szCircuit.calls a0_0 _ _ l0_1 1048576 t212 _ ?side1 ?side2 A5.out).mono ?_); (case side1 => repeat (first | exact (Kd.C_below HR0_1.out HB.out) | (with_reducible refine Kd.C_alloc ?_ _) | (with_reducible refine Kd.C_drewN ?_ _) | (with_reducible refine Kd.C_drew ?_))); (case side2 => exact HC0_1.out); rintro e w17 ⟨rfl, hb⟩; refine ⟨_, rfl, ?_⟩; have n0_ := Aside0.mk (blk_below (g := gb211) (o := .cells #[.int .i64 a0_0, .slice A0_1 l0_1.length c0_1] 24 (0, 0)) (by (with_reducible repeat (first | refine blk_drewN ?_ _ | refine blk_drew ?_ | refine blk_alloc ?_ _)); exact BK211.out) hb); have n1_ := Aside0.mk (below_step (by repeat (first | (with_reducible first | exact HB.out | apply bwA | apply bwN | apply bwD | refine below_set ?_ GE211.out) | exact HB.out)) hb); clear BK211; clear HB; have BK211 := n0_; have HB := n1_; clear n0_ n1_; (try clear hb); (try clear hb2); (try clear hk); (try clear hi); have hcz18_0 : w17.cell? ⟨gb211, 0, none⟩ = some (.int .i64 a0_0) := (blk_cell BK211.out 0).trans rfl; have hcz18_1 : w17.cell? ⟨gb211, 1, none⟩ = some (.slice A0_1 l0_1.length c0_1) := (blk_cell BK211.out 1).trans rfl; have hfz18_0 := blk_frozen BK211.out 0; have hfz18_1 := blk_frozen BK211.out 1) | ((with_reducible refine gate_callee (f := 14) rfl ?_); refine goesL_ (some 27) rfl rfl Try.func14 (by kernel_rfl) rfl #[.agg #[.int .i64 a0_0, .slice A0_1 l0_1.length c0_1]] rfl (by (try simp only [List.map_toArray, List.map_cons, List.map_nil]); first | done | rfl | (simp only [List.length_drop, List.length_take]; rfl)) ?_; (with_reducible refine (laws_toCircuit.calls k a0_0 _ _ l0_1 t213 t214 _ ?side1 ?side2 A10.out).mono ?_); (case side1 => repeat (first | exact (Kd.C_below HR0_1.out HB.out) | (with_reducible refine Kd.C_alloc ?_ _) | (with_reducible refine Kd.C_drewN ?_ _) | (with_reducible refine Kd.C_drew ?_))); (case side2 => exact HC0_1.out); rintro e w19 ⟨v215, rfl, ho0, hb⟩; refine ⟨_, rfl, ?_⟩; have n0_ := Aside0.mk (Kd.R_lower ho0 (below_size (by repeat (first | (with_reducible first | exact HB.out | apply bwA | apply bwN | apply bwD | refine below_set ?_ GE211.out) | exact HB.out)))); have n1_ := Aside0.mk (blk_below (g := gb211) (o := .cells #[.int .i64 a0_0, .slice A0_1 l0_1.length c0_1] 24 (0, 0)) (by (with_reducible repeat (first | refine blk_drewN ?_ _ | refine blk_drew ?_ | refine blk_alloc ?_ _)); exact BK211.out) hb); have n2_ := Aside0.mk (below_step (by repeat (first | (with_reducible first | exact HB.out | apply bwA | apply bwN | apply bwD | refine below_set ?_ GE211.out) | exact HB.out)) hb); clear BK211; clear HB; have HO216 := n0_; have BK211 := n1_; have HB := n2_; clear n0_ n1_ n2_; (try clear hb); (try clear hb2); (try clear hk); (try clear hi); (try clear ho0); obtain ⟨Ao20, co20, eo20⟩ := Kd.R_slice HO216.out; subst eo20) | ((with_reducible refine gate_callee (f := 13) rfl ?_); refine goesL_ (some 31) rfl rfl Try.func13 (by kernel_rfl) rfl #[.agg #[.int .i64 t213, .slice Ao20 t214.length co20], .int .i64 a1, .int .i64 a2, .int .i64 a3] rfl (by (try simp only [List.map_toArray, List.map_cons, List.map_nil]); first | done | rfl | (simp only [List.length_drop, List.length_take]; rfl)) ?_; (with_reducible refine (spec_AddPick.calls k t213 _ _ t214 a1 a2 a3 t217 t218 t221 _ ?side1 ?side2 A11.out).mono ?_); (case side1 => repeat (first | exact (Kd.R_reads' HO216.out).2.2 | (with_reducible refine Kd.C_alloc ?_ _) | (with_reducible refine Kd.C_drewN ?_ _) | (with_reducible refine Kd.C_drew ?_))); (case side2 => exact (Kd.R_reads' HO216.out).2.1); rintro e w21 ⟨v219, rfl, ho0, hb⟩; refine ⟨_, rfl, ?_⟩; have n0_ := Aside0.mk (Kd.R_elder' (by (with_reducible repeat (first | apply Kd.R_alloc | apply Kd.R_drewN | apply Kd.R_drew)); exact HO216.out) (Kd.R_base ho0) hb); have n1_ := Aside0.mk (Kd.R_lower (Kd.R_new' ho0 (Kd.R_lt (by (with_reducible repeat (first | apply Kd.R_alloc | apply Kd.R_drewN | apply Kd.R_drew)); exact HO216.out))) (below_size (by repeat (first | (with_reducible first | exact HB.out | apply bwA | apply bwN | apply bwD | refine below_set ?_ GE211.out) | exact HB.out)))); have n2_ := Aside0.mk (blk_below (g := gb211) (o := .cells #[.int .i64 a0_0, .slice A0_1 l0_1.length c0_1] 24 (0, 0)) (by (with_reducible repeat (first | refine blk_drewN ?_ _ | refine blk_drew ?_ | refine blk_alloc ?_ _)); exact BK211.out) hb); have n3_ := Aside0.mk (below_step (by repeat (first | (with_reducible first | exact HB.out | apply bwA | apply bwN | apply bwD | refine below_set ?_ GE211.out) | exact HB.out)) hb); clear HO216; clear BK211; clear HB; have HO216 := n0_; have HO220 := n1_; have BK211 := n2_; have HB := n3_; clear n0_ n1_ n2_ n3_; (try clear hb); (try clear hb2); (try clear hk); (try clear hi); (try clear ho0)) | ((with_reducible refine gate_dst (N := 10) rfl ?_); refine box_event ?hg (N := 10) ?hd (cs := #[.int .i64 0, .slice none 0 0]) (t := 28) ?hr ?_; (case hd => rfl); (case hg => rfl); (case hr => first | (go_simp; done) | (go_simp; rfl)); intro gb222 hg w22 hbox hb; have n0_ := Aside0.mk (Kd.R_below (by (with_reducible repeat (first | apply Kd.R_alloc | apply Kd.R_drewN | apply Kd.R_drew)); exact HO216.out) hb); have n1_ := Aside0.mk (Kd.R_below (by (with_reducible repeat (first | apply Kd.R_alloc | apply Kd.R_drewN | apply Kd.R_drew)); exact HO220.out) hb); have n2_ := Aside0.mk (blk_below (g := gb211) (o := .cells #[.int .i64 a0_0, .slice A0_1 l0_1.length c0_1] 24 (0, 0)) (by (with_reducible repeat (first | refine blk_drewN ?_ _ | refine blk_drew ?_ | refine blk_alloc ?_ _)); exact BK211.out) hb); have n3_ := Aside0.mk (below_step (by repeat (first | (with_reducible first | exact HB.out | apply bwA | apply bwN | apply bwD | refine below_set ?_ GE211.out) | exact HB.out)) hb); have n4_ := Aside0.mk (hbox); have n5_ := Aside0.mk ((by rw [hg]; exact (below_size (by repeat (first | (with_reducible first | exact HB.out | apply bwA | apply bwN | apply bwD | refine below_set ?_ GE211.out) | exact HB.out))) : w.heap.size ≤ gb222)); have n6_ := Aside0.mk ((by rw [hg]; exact (below_size (by repeat (first | (with_reducible first | exact HB.out | apply bwA | apply bwN | apply bwD | refine below_set ?_ GE211.out) | exact HB.out))) : w.heap.size ≤ gb222)); have n7_ := Aside0.mk ((by rw [hg]; exact Nat.ne_of_lt (blk_lt (g := gb211) (o := .cells #[.int .i64 a0_0, .slice A0_1 l0_1.length c0_1] 24 (0, 0)) (by (with_reducible repeat (first | refine blk_drewN ?_ _ | refine blk_drew ?_ | refine blk_alloc ?_ _)); exact BK211.out)) : gb211 ≠ gb222)); have n8_ := Aside0.mk ((by rw [hg]; exact Nat.ne_of_gt (blk_lt (g := gb211) (o := .cells #[.int .i64 a0_0, .slice A0_1 l0_1.length c0_1] 24 (0, 0)) (by (with_reducible repeat (first | refine blk_drewN ?_ _ | refine blk_drew ?_ | refine blk_alloc ?_ _)); exact BK211.out)) : gb222 ≠ gb211)); clear HO216; clear HO220; clear BK211; clear HB; have HO216 := n0_; have HO220 := n1_; have BK211 := n2_; have HB := n3_; have BK222 := n4_; have GW222 := n5_; have GE222 := n6_; have NB211_222 := n7_; have NB222_211 := n8_; clear n0_ n1_ n2_ n3_ n4_ n5_ n6_ n7_ n8_; clear hb hbox hg; have hnb23 := NB222_211.out; have hnc23 := NB211_222.out; have hcz24_0 : w22.cell? ⟨gb222, 0, none⟩ = some (.int .i64 0) := (blk_cell BK222.out 0).trans rfl; have hcz24_1 : w22.cell? ⟨gb222, 1, none⟩ = some (.slice none 0 0) := (blk_cell BK222.out 1).trans rfl; have hfz24_0 := blk_frozen BK222.out 0; have hfz24_1 := blk_frozen BK222.out 1; obtain ⟨Ao25, co25, eo25⟩ := Kd.R_slice HO220.out; subst eo25; have hcz26_0 : w22.cell? ⟨gb211, 0, none⟩ = some (.int .i64 a0_0) := (blk_cell BK211.out 0).trans rfl; have hcz26_1 : w22.cell? ⟨gb211, 1, none⟩ = some (.slice A0_1 l0_1.length c0_1) := (blk_cell BK211.out 1).trans rfl; have hfz26_0 := blk_frozen BK211.out 0; have hfz26_1 := blk_frozen BK211.out 1) | ((with_reducible refine gate_callee (f := 14) rfl ?_); refine goesL_ (some 35) rfl rfl Try.func14 (by kernel_rfl) rfl #[.agg #[.int .i64 a0_0, .slice A0_1 l0_1.length c0_1]] rfl (by (try simp only [List.map_toArray, List.map_cons, List.map_nil]); first | done | rfl | (simp only [List.length_drop, List.length_take]; rfl)) ?_; (with_reducible refine (laws_toCircuit.calls k a0_0 _ _ l0_1 t223 t224 _ ?side1 ?side2 A12.out).mono ?_); (case side1 => exact Kd.C_below HR0_1.out (by repeat (first | (with_reducible first | exact HB.out | apply bwA | apply bwN | apply bwD | refine below_set ?_ GE211.out | refine below_set ?_ GE222.out) | exact HB.out))); (case side2 => exact HC0_1.out); rintro e w27 ⟨v225, rfl, ho0, hb⟩; refine ⟨_, rfl, ?_⟩; have n0_ := Aside0.mk (Kd.R_elder' (by (with_reducible repeat (first | apply Kd.R_alloc | apply Kd.R_drewN | apply Kd.R_drew)); exact (Kd.R_mono (Kd.R_far (p := ⟨gb222, 1, none⟩) (Kd.R_far (p := ⟨gb222, 0, none⟩) (Kd.R_types HO216.out BK222.out (by decide)) (fun _ hk => hk.2) (.int .i64 t217)) (fun _ hk => hk.2) (.slice Ao25 t218.length co25)) (fun _ h_ => h_.1))) (Kd.R_base ho0) hb); have n1_ := Aside0.mk (Kd.R_elder' (by (with_reducible repeat (first | apply Kd.R_alloc | apply Kd.R_drewN | apply Kd.R_drew)); exact (Kd.R_mono (Kd.R_far (p := ⟨gb222, 1, none⟩) (Kd.R_far (p := ⟨gb222, 0, none⟩) (Kd.R_types HO220.out BK222.out (by decide)) (fun _ hk => hk.2) (.int .i64 t217)) (fun _ hk => hk.2) (.slice Ao25 t218.length co25)) (fun _ h_ => h_.1))) (Kd.R_base ho0) hb); have n2_ := Aside0.mk (Kd.R_lower (Kd.R_new' (Kd.R_new' ho0 (Kd.R_lt (by (with_reducible repeat (first | apply Kd.R_alloc | apply Kd.R_drewN | apply Kd.R_drew)); exact (Kd.R_mono (Kd.R_far (p := ⟨gb222, 1, none⟩) (Kd.R_far (p := ⟨gb222, 0, none⟩) (Kd.R_types HO216.out BK222.out (by decide)) (fun _ hk => hk.2) (.int .i64 t217)) (fun _ hk => hk.2) (.slice Ao25 t218.length co25)) (fun _ h_ => h_.1))))) (Kd.R_lt (by (with_reducible repeat (first | apply Kd.R_alloc | apply Kd.R_drewN | apply Kd.R_drew)); exact (Kd.R_mono (Kd.R_far (p := ⟨gb222, 1, none⟩) (Kd.R_far (p := ⟨gb222, 0, none⟩) (Kd.R_types HO220.out BK222.out (by decide)) (fun _ hk => hk.2) (.int .i64 t217)) (fun _ hk => hk.2) (.slice Ao25 t218.length co25)) (fun _ h_ => h_.1))))) (below_size (by repeat (first | (with_reducible first | exact HB.out | apply bwA | apply bwN | apply bwD | refine below_set ?_ GE211.out | refine below_set ?_ GE222.out) | exact HB.out)))); have n3_ := Aside0.mk (blk_below (g := gb211) (o := .cells #[.int .i64 a0_0, .slice A0_1 l0_1.length c0_1] 24 (0, 0)) (by (with_reducible repeat (first | refine blk_drewN ?_ _ | refine blk_drew ?_ | refine blk_alloc ?_ _)); refine blk_far ?_ NB211_222.out _; (with_reducible repeat (first | refine blk_drewN ?_ _ | refine blk_drew ?_ | refine blk_alloc ?_ _)); refine blk_far ?_ NB211_222.out _; (with_reducible repeat (first | refine blk_drewN ?_ _ | refine blk_drew ?_ | refine blk_alloc ?_ _)); exact BK211.out) hb); have n4_ := Aside0.mk (blk_below (g := gb222) (o := .cells #[.int .i64 t217, .slice Ao25 t218.length co25] 28 (0, 0)) (by (with_reducible repeat (first | refine blk_drewN ?_ _ | refine blk_drew ?_ | refine blk_alloc ?_ _)); refine blk_put (cs := #[.int .i64 t217, .slice none 0 0]) ?_ 1 _ rfl; (with_reducible repeat (first | refine blk_drewN ?_ _ | refine blk_drew ?_ | refine blk_alloc ?_ _)); refine blk_put (cs := #[.int .i64 0, .slice none 0 0]) ?_ 0 _ rfl; (with_reducible repeat (first | refine blk_drewN ?_ _ | refine blk_drew ?_ | refine blk_alloc ?_ _)); exact BK222.out) hb); have n5_ := Aside0.mk (below_step (by repeat (first | (with_reducible first | exact HB.out | apply bwA | apply bwN | apply bwD | refine below_set ?_ GE211.out | refine below_set ?_ GE222.out) | exact HB.out)) hb); clear HO216; clear HO220; clear BK211; clear BK222; clear HB; have HO216 := n0_; have HO220 := n1_; have HO226 := n2_; have BK211 := n3_; have BK222 := n4_; have HB := n5_; clear n0_ n1_ n2_ n3_ n4_ n5_; (try clear hb); (try clear hb2); (try clear hk); (try clear hi); (try clear ho0)) | ((with_reducible refine gate_dst (N := 12) rfl ?_); refine box_event ?hg (N := 12) ?hd (cs := #[.int .i64 0, .slice none 0 0]) (t := 28) ?hr ?_; (case hd => rfl); (case hg => rfl); (case hr => first | (go_simp; done) | (go_simp; rfl)); intro gb227 hg w28 hbox hb; have n0_ := Aside0.mk (Kd.R_below (by (with_reducible repeat (first | apply Kd.R_alloc | apply Kd.R_drewN | apply Kd.R_drew)); exact HO216.out) hb); have n1_ := Aside0.mk (Kd.R_below (by (with_reducible repeat (first | apply Kd.R_alloc | apply Kd.R_drewN | apply Kd.R_drew)); exact HO220.out) hb); have n2_ := Aside0.mk (Kd.R_below (by (with_reducible repeat (first | apply Kd.R_alloc | apply Kd.R_drewN | apply Kd.R_drew)); exact HO226.out) hb); have n3_ := Aside0.mk (blk_below (g := gb211) (o := .cells #[.int .i64 a0_0, .slice A0_1 l0_1.length c0_1] 24 (0, 0)) (by (with_reducible repeat (first | refine blk_drewN ?_ _ | refine blk_drew ?_ | refine blk_alloc ?_ _)); exact BK211.out) hb); have n4_ := Aside0.mk (blk_below (g := gb222) (o := .cells #[.int .i64 t217, .slice Ao25 t218.length co25] 28 (0, 0)) (by (with_reducible repeat (first | refine blk_drewN ?_ _ | refine blk_drew ?_ | refine blk_alloc ?_ _)); exact BK222.out) hb); have n5_ := Aside0.mk (below_step (by repeat (first | (with_reducible first | exact HB.out | apply bwA | apply bwN | apply bwD | refine below_set ?_ GE211.out | refine below_set ?_ GE222.out) | exact HB.out)) hb); have n6_ := Aside0.mk (hbox); have n7_ := Aside0.mk ((by rw [hg]; exact (below_size (by repeat (first | (with_reducible first | exact HB.out | apply bwA | apply bwN | apply bwD | refine below_set ?_ GE211.out | refine below_set ?_ GE222.out) | exact HB.out))) : w.heap.size ≤ gb227)); have n8_ := Aside0.mk ((by rw [hg]; exact (below_size (by repeat (first | (with_reducible first | exact HB.out | apply bwA | apply bwN | apply bwD | refine below_set ?_ GE211.out | refine below_set ?_ GE222.out) | exact HB.out))) : w.heap.size ≤ gb227)); have n9_ := Aside0.mk ((by rw [hg]; exact Nat.ne_of_lt (blk_lt (g := gb211) (o := .cells #[.int .i64 a0_0, .slice A0_1 l0_1.length c0_1] 24 (0, 0)) (by (with_reducible repeat (first | refine blk_drewN ?_ _ | refine blk_drew ?_ | refine blk_alloc ?_ _)); exact BK211.out)) : gb211 ≠ gb227)); have n10_ := Aside0.mk ((by rw [hg]; exact Nat.ne_of_gt (blk_lt (g := gb211) (o := .cells #[.int .i64 a0_0, .slice A0_1 l0_1.length c0_1] 24 (0, 0)) (by (with_reducible repeat (first | refine blk_drewN ?_ _ | refine blk_drew ?_ | refine blk_alloc ?_ _)); exact BK211.out)) : gb227 ≠ gb211)); have n11_ := Aside0.mk ((by rw [hg]; exact Nat.ne_of_lt (blk_lt (g := gb222) (o := .cells #[.int .i64 t217, .slice Ao25 t218.length co25] 28 (0, 0)) (by (with_reducible repeat (first | refine blk_drewN ?_ _ | refine blk_drew ?_ | refine blk_alloc ?_ _)); exact BK222.out)) : gb222 ≠ gb227)); have n12_ := Aside0.mk ((by rw [hg]; exact Nat.ne_of_gt (blk_lt (g := gb222) (o := .cells #[.int .i64 t217, .slice Ao25 t218.length co25] 28 (0, 0)) (by (with_reducible repeat (first | refine blk_drewN ?_ _ | refine blk_drew ?_ | refine blk_alloc ?_ _)); exact BK222.out)) : gb227 ≠ gb222)); clear HO216; clear HO220; clear HO226; clear BK211; clear BK222; clear HB; have HO216 := n0_; have HO220 := n1_; have HO226 := n2_; have BK211 := n3_; have BK222 := n4_; have HB := n5_; have BK227 := n6_; have GW227 := n7_; have GE227 := n8_; have NB211_227 := n9_; have NB227_211 := n10_; have NB222_227 := n11_; have NB227_222 := n12_; clear n0_ n1_ n2_ n3_ n4_ n5_ n6_ n7_ n8_ n9_ n10_ n11_ n12_; clear hb hbox hg; have hnb29 := NB227_211.out; have hnc29 := NB211_227.out; have hnb30 := NB227_222.out; have hnc30 := NB222_227.out; have hcz31_0 : w28.cell? ⟨gb227, 0, none⟩ = some (.int .i64 0) := (blk_cell BK227.out 0).trans rfl; have hcz31_1 : w28.cell? ⟨gb227, 1, none⟩ = some (.slice none 0 0) := (blk_cell BK227.out 1).trans rfl; have hfz31_0 := blk_frozen BK227.out 0; have hfz31_1 := blk_frozen BK227.out 1; obtain ⟨Ao32, co32, eo32⟩ := Kd.R_slice HO226.out; subst eo32) | ((with_reducible refine gate_callee (f := 15) rfl ?_); refine goesL_ (some 41) rfl rfl Try.func15 (by kernel_rfl) rfl #[.agg #[.int .i64 t223, .slice Ao32 t224.length co32], .int .i64 a1, .int .i64 a2, .int .i64 a3] rfl (by (try simp only [List.map_toArray, List.map_cons, List.map_nil]); first | done | rfl | (simp only [List.length_drop, List.length_take]; rfl)) ?_; (with_reducible refine (impl_AddPick.calls k t223 _ _ t224 a1 a2 a3 t228 t229 t232 _ ?side1 ?side2 A13.out).mono ?_); (case side1 => refine (Kd.R_reads' (e := 92) (base := w.heap.size) (ok := fun k_ => ((True ∧ some k_ ≠ (.slice Ao20 t214.length co20 : Value).ownBlock) ∧ some k_ ≠ (.slice Ao25 t218.length co25 : Value).ownBlock)) (n := t224.length) (c := co32) ?_).2.2; exact (by (with_reducible repeat (first | apply Kd.R_alloc | apply Kd.R_drewN | apply Kd.R_drew)); exact (Kd.R_mono (Kd.R_far (p := ⟨gb227, 1, none⟩) (Kd.R_far (p := ⟨gb227, 0, none⟩) (Kd.R_types HO226.out BK227.out (by decide)) (fun _ hk => hk.2) (.int .i64 t223)) (fun _ hk => hk.2) (.slice Ao32 t224.length co32)) (fun _ h_ => h_.1)))); (case side2 => exact (Kd.R_reads' HO226.out).2.1); rintro e w33 ⟨v230, rfl, ho0, hb⟩; refine ⟨_, rfl, ?_⟩; have n0_ := Aside0.mk (Kd.R_elder' (by (with_reducible repeat (first | apply Kd.R_alloc | apply Kd.R_drewN | apply Kd.R_drew)); exact (Kd.R_mono (Kd.R_far (p := ⟨gb227, 1, none⟩) (Kd.R_far (p := ⟨gb227, 0, none⟩) (Kd.R_types HO216.out BK227.out (by decide)) (fun _ hk => hk.2) (.int .i64 t223)) (fun _ hk => hk.2) (.slice Ao32 t224.length co32)) (fun _ h_ => h_.1))) (Kd.R_base ho0) hb); have n1_ := Aside0.mk (Kd.R_elder' (by (with_reducible repeat (first | apply Kd.R_alloc | apply Kd.R_drewN | apply Kd.R_drew)); exact (Kd.R_mono (Kd.R_far (p := ⟨gb227, 1, none⟩) (Kd.R_far (p := ⟨gb227, 0, none⟩) (Kd.R_types HO220.out BK227.out (by decide)) (fun _ hk => hk.2) (.int .i64 t223)) (fun _ hk => hk.2) (.slice Ao32 t224.length co32)) (fun _ h_ => h_.1))) (Kd.R_base ho0) hb); have n2_ := Aside0.mk (Kd.R_elder' (by (with_reducible repeat (first | apply Kd.R_alloc | apply Kd.R_drewN | apply Kd.R_drew)); exact (Kd.R_mono (Kd.R_far (p := ⟨gb227, 1, none⟩) (Kd.R_far (p := ⟨gb227, 0, none⟩) (Kd.R_types HO226.out BK227.out (by decide)) (fun _ hk => hk.2) (.int .i64 t223)) (fun _ hk => hk.2) (.slice Ao32 t224.length co32)) (fun _ h_ => h_.1))) (Kd.R_base ho0) hb); have n3_ := Aside0.mk (Kd.R_lower (Kd.R_new' (Kd.R_new' (Kd.R_new' ho0 (Kd.R_lt (by (with_reducible repeat (first | apply Kd.R_alloc | apply Kd.R_drewN | apply Kd.R_drew)); exact (Kd.R_mono (Kd.R_far (p := ⟨gb227, 1, none⟩) (Kd.R_far (p := ⟨gb227, 0, none⟩) (Kd.R_types HO216.out BK227.out (by decide)) (fun _ hk => hk.2) (.int .i64 t223)) (fun _ hk => hk.2) (.slice Ao32 t224.length co32)) (fun _ h_ => h_.1))))) (Kd.R_lt (by (with_reducible repeat (first | apply Kd.R_alloc | apply Kd.R_drewN | apply Kd.R_drew)); exact (Kd.R_mono (Kd.R_far (p := ⟨gb227, 1, none⟩) (Kd.R_far (p := ⟨gb227, 0, none⟩) (Kd.R_types HO220.out BK227.out (by decide)) (fun _ hk => hk.2) (.int .i64 t223)) (fun _ hk => hk.2) (.slice Ao32 t224.length co32)) (fun _ h_ => h_.1))))) (Kd.R_lt (by (with_reducible repeat (first | apply Kd.R_alloc | apply Kd.R_drewN | apply Kd.R_drew)); exact (Kd.R_mono (Kd.R_far (p := ⟨gb227, 1, none⟩) (Kd.R_far (p := ⟨gb227, 0, none⟩) (Kd.R_types HO226.out BK227.out (by decide)) (fun _ hk => hk.2) (.int .i64 t223)) (fun _ hk => hk.2) (.slice Ao32 t224.length co32)) (fun _ h_ => h_.1))))) (below_size (by repeat (first | (with_reducible first | exact HB.out | apply bwA | apply bwN | apply bwD | refine below_set ?_ GE211.out | refine below_set ?_ GE222.out | refine below_set ?_ GE227.out) | exact HB.out)))); have n4_ := Aside0.mk (blk_below (g := gb211) (o := .cells #[.int .i64 a0_0, .slice A0_1 l0_1.length c0_1] 24 (0, 0)) (by (with_reducible repeat (first | refine blk_drewN ?_ _ | refine blk_drew ?_ | refine blk_alloc ?_ _)); refine blk_far ?_ NB211_227.out _; (with_reducible repeat (first | refine blk_drewN ?_ _ | refine blk_drew ?_ | refine blk_alloc ?_ _)); refine blk_far ?_ NB211_227.out _; (with_reducible repeat (first | refine blk_drewN ?_ _ | refine blk_drew ?_ | refine blk_alloc ?_ _)); exact BK211.out) hb); have n5_ := Aside0.mk (blk_below (g := gb222) (o := .cells #[.int .i64 t217, .slice Ao25 t218.length co25] 28 (0, 0)) (by (with_reducible repeat (first | refine blk_drewN ?_ _ | refine blk_drew ?_ | refine blk_alloc ?_ _)); refine blk_far ?_ NB222_227.out _; (with_reducible repeat (first | refine blk_drewN ?_ _ | refine blk_drew ?_ | refine blk_alloc ?_ _)); refine blk_far ?_ NB222_227.out _; (with_reducible repeat (first | refine blk_drewN ?_ _ | refine blk_drew ?_ | refine blk_alloc ?_ _)); exact BK222.out) hb); have n6_ := Aside0.mk (blk_below (g := gb227) (o := .cells #[.int .i64 t223, .slice Ao32 t224.length co32] 28 (0, 0)) (by (with_reducible repeat (first | refine blk_drewN ?_ _ | refine blk_drew ?_ | refine blk_alloc ?_ _)); refine blk_put (cs := #[.int .i64 t223, .slice none 0 0]) ?_ 1 _ rfl; (with_reducible repeat (first | refine blk_drewN ?_ _ | refine blk_drew ?_ | refine blk_alloc ?_ _)); refine blk_put (cs := #[.int .i64 0, .slice none 0 0]) ?_ 0 _ rfl; (with_reducible repeat (first | refine blk_drewN ?_ _ | refine blk_drew ?_ | refine blk_alloc ?_ _)); exact BK227.out) hb); have n7_ := Aside0.mk (below_step (by repeat (first | (with_reducible first | exact HB.out | apply bwA | apply bwN | apply bwD | refine below_set ?_ GE211.out | refine below_set ?_ GE222.out | refine below_set ?_ GE227.out) | exact HB.out)) hb); clear HO216; clear HO220; clear HO226; clear BK211; clear BK222; clear BK227; clear HB; have HO216 := n0_; have HO220 := n1_; have HO226 := n2_; have HO231 := n3_; have BK211 := n4_; have BK222 := n5_; have BK227 := n6_; have HB := n7_; clear n0_ n1_ n2_ n3_ n4_ n5_ n6_ n7_; (try clear hb); (try clear hb2); (try clear hk); (try clear hi); (try clear ho0)) | ((with_reducible refine gate_dst (N := 13) rfl ?_); refine box_event ?hg (N := 13) ?hd (cs := #[.int .i64 0, .slice none 0 0]) (t := 28) ?hr ?_; (case hd => rfl); (case hg => rfl); (case hr => first | (go_simp; done) | (go_simp; rfl)); intro gb233 hg w34 hbox hb; have n0_ := Aside0.mk (Kd.R_below (by (with_reducible repeat (first | apply Kd.R_alloc | apply Kd.R_drewN | apply Kd.R_drew)); exact HO216.out) hb); have n1_ := Aside0.mk (Kd.R_below (by (with_reducible repeat (first | apply Kd.R_alloc | apply Kd.R_drewN | apply Kd.R_drew)); exact HO220.out) hb); have n2_ := Aside0.mk (Kd.R_below (by (with_reducible repeat (first | apply Kd.R_alloc | apply Kd.R_drewN | apply Kd.R_drew)); exact HO226.out) hb); have n3_ := Aside0.mk (Kd.R_below (by (with_reducible repeat (first | apply Kd.R_alloc | apply Kd.R_drewN | apply Kd.R_drew)); exact HO231.out) hb); have n4_ := Aside0.mk (blk_below (g := gb211) (o := .cells #[.int .i64 a0_0, .slice A0_1 l0_1.length c0_1] 24 (0, 0)) (by (with_reducible repeat (first | refine blk_drewN ?_ _ | refine blk_drew ?_ | refine blk_alloc ?_ _)); exact BK211.out) hb); have n5_ := Aside0.mk (blk_below (g := gb222) (o := .cells #[.int .i64 t217, .slice Ao25 t218.length co25] 28 (0, 0)) (by (with_reducible repeat (first | refine blk_drewN ?_ _ | refine blk_drew ?_ | refine blk_alloc ?_ _)); exact BK222.out) hb); have n6_ := Aside0.mk (blk_below (g := gb227) (o := .cells #[.int .i64 t223, .slice Ao32 t224.length co32] 28 (0, 0)) (by (with_reducible repeat (first | refine blk_drewN ?_ _ | refine blk_drew ?_ | refine blk_alloc ?_ _)); exact BK227.out) hb); have n7_ := Aside0.mk (below_step (by repeat (first | (with_reducible first | exact HB.out | apply bwA | apply bwN | apply bwD | refine below_set ?_ GE211.out | refine below_set ?_ GE222.out | refine below_set ?_ GE227.out) | exact HB.out)) hb); have n8_ := Aside0.mk (hbox); have n9_ := Aside0.mk ((by rw [hg]; exact (below_size (by repeat (first | (with_reducible first | exact HB.out | apply bwA | apply bwN | apply bwD | refine below_set ?_ GE211.out | refine below_set ?_ GE222.out | refine below_set ?_ GE227.out) | exact HB.out))) : w.heap.size ≤ gb233)); have n10_ := Aside0.mk ((by rw [hg]; exact (below_size (by repeat (first | (with_reducible first | exact HB.out | apply bwA | apply bwN | apply bwD | refine below_set ?_ GE211.out | refine below_set ?_ GE222.out | refine below_set ?_ GE227.out) | exact HB.out))) : w.heap.size ≤ gb233)); have n11_ := Aside0.mk ((by rw [hg]; exact Nat.ne_of_lt (blk_lt (g := gb211) (o := .cells #[.int .i64 a0_0, .slice A0_1 l0_1.length c0_1] 24 (0, 0)) (by (with_reducible repeat (first | refine blk_drewN ?_ _ | refine blk_drew ?_ | refine blk_alloc ?_ _)); exact BK211.out)) : gb211 ≠ gb233)); have n12_ := Aside0.mk ((by rw [hg]; exact Nat.ne_of_gt (blk_lt (g := gb211) (o := .cells #[.int .i64 a0_0, .slice A0_1 l0_1.length c0_1] 24 (0, 0)) (by (with_reducible repeat (first | refine blk_drewN ?_ _ | refine blk_drew ?_ | refine blk_alloc ?_ _)); exact BK211.out)) : gb233 ≠ gb211)); have n13_ := Aside0.mk ((by rw [hg]; exact Nat.ne_of_lt (blk_lt (g := gb222) (o := .cells #[.int .i64 t217, .slice Ao25 t218.length co25] 28 (0, 0)) (by (with_reducible repeat (first | refine blk_drewN ?_ _ | refine blk_drew ?_ | refine blk_alloc ?_ _)); exact BK222.out)) : gb222 ≠ gb233)); have n14_ := Aside0.mk ((by rw [hg]; exact Nat.ne_of_gt (blk_lt (g := gb222) (o := .cells #[.int .i64 t217, .slice Ao25 t218.length co25] 28 (0, 0)) (by (with_reducible repeat (first | refine blk_drewN ?_ _ | refine blk_drew ?_ | refine blk_alloc ?_ _)); exact BK222.out)) : gb233 ≠ gb222)); have n15_ := Aside0.mk ((by rw [hg]; exact Nat.ne_of_lt (blk_lt (g := gb227) (o := .cells #[.int .i64 t223, .slice Ao32 t224.length co32] 28 (0, 0)) (by (with_reducible repeat (first | refine blk_drewN ?_ _ | refine blk_drew ?_ | refine blk_alloc ?_ _)); exact BK227.out)) : gb227 ≠ gb233)); have n16_ := Aside0.mk ((by rw [hg]; exact Nat.ne_of_gt (blk_lt (g := gb227) (o := .cells #[.int .i64 t223, .slice Ao32 t224.length co32] 28 (0, 0)) (by (with_reducible repeat (first | refine blk_drewN ?_ _ | refine blk_drew ?_ | refine blk_alloc ?_ _)); exact BK227.out)) : gb233 ≠ gb227)); clear HO216; clear HO220; clear HO226; clear HO231; clear BK211; clear BK222; clear BK227; clear HB; have HO216 := n0_; have HO220 := n1_; have HO226 := n2_; have HO231 := n3_; have BK211 := n4_; have BK222 := n5_; have BK227 := n6_; have HB := n7_; have BK233 := n8_; have GW233 := n9_; have GE233 := n10_; have NB211_233 := n11_; have NB233_211 := n12_; have NB222_233 := n13_; have NB233_222 := n14_; have NB227_233 := n15_; have NB233_227 := n16_; clear n0_ n1_ n2_ n3_ n4_ n5_ n6_ n7_ n8_ n9_ n10_ n11_ n12_ n13_ n14_ n15_ n16_; clear hb hbox hg; have hnb35 := NB233_211.out; have hnc35 := NB211_233.out; have hnb36 := NB233_222.out; have hnc36 := NB222_233.out; have hnb37 := NB233_227.out; have hnc37 := NB227_233.out; have hcz38_0 : w34.cell? ⟨gb233, 0, none⟩ = some (.int .i64 0) := (blk_cell BK233.out 0).trans rfl; have hcz38_1 : w34.cell? ⟨gb233, 1, none⟩ = some (.slice none 0 0) := (blk_cell BK233.out 1).trans rfl; have hfz38_0 := blk_frozen BK233.out 0; have hfz38_1 := blk_frozen BK233.out 1; obtain ⟨Ao39, co39, eo39⟩ := Kd.R_slice HO231.out; subst eo39))
  (try simp only [Act.put, List.setIfInBounds_toArray, List.set_cons_zero, List.set_cons_succ])
  go_cut [52] (fun v52 wc => ∃ (kq : Nat) (x52_13 : Bool), v52 = .bool x52_13 ∧ Aside0 (laws_FnExactAddPick.j0 kq a1 a2 a3 t221 t232 x52_13 a0_0 l0_1 t217 t218 t223 t224 t228 t229 = some r) ∧ Aside0 (kq ≤ k) ∧ Aside0 (Kd.R k92 92 wc w.heap.size (fun k_ => some k_ ≠ ((.slice Ao32 t224.length co32) : Value).ownBlock ∧ some k_ ≠ ((.slice Ao39 t229.length co39) : Value).ownBlock) (.slice Ao25 t218.length co25) t218) ∧ Aside0 (Kd.R k92 92 wc w.heap.size (fun k_ => some k_ ≠ ((.slice Ao25 t218.length co25) : Value).ownBlock ∧ some k_ ≠ ((.slice Ao39 t229.length co39) : Value).ownBlock) (.slice Ao32 t224.length co32) t224) ∧ Aside0 (Kd.R k92 92 wc w.heap.size (fun k_ => some k_ ≠ ((.slice Ao25 t218.length co25) : Value).ownBlock ∧ some k_ ≠ ((.slice Ao32 t224.length co32) : Value).ownBlock) (.slice Ao39 t229.length co39) t229) ∧ Aside0 (wc.heap[gb211]? = some (.cells #[.int .i64 a0_0, (.slice A0_1 l0_1.length c0_1)] 24 (0, 0))) ∧ Aside0 (wc.heap[gb222]? = some (.cells #[.int .i64 t217, (.slice Ao25 t218.length co25)] 28 (0, 0))) ∧ Aside0 (wc.heap[gb227]? = some (.cells #[.int .i64 t223, (.slice Ao32 t224.length co32)] 28 (0, 0))) ∧ Aside0 (wc.heap[gb233]? = some (.cells #[.int .i64 t228, (.slice Ao39 t229.length co39)] 28 (0, 0))) ∧ Aside0 (Below w.heap.size w wc))
  case first =>
   have H := HC14.out
   clear HC14
   replace H := Option.bind_eq_some_iff.mp H
   obtain ⟨t234, A400, H⟩ := H
   replace H : (if t234 = true then (laws_FnExactAddPick.j0 k a1 a2 a3 t221 t232 (t232 != t221) a0_0 l0_1 t217 t218 t223 t224 t228 t229) else (laws_FnExactAddPick.j0 k a1 a2 a3 t221 t232 true a0_0 l0_1 t217 t218 t223 t224 t228 t229)) = some r := H
   have A40 := Aside0.mk A400
   clear A400
   by_cases c41 : t234 = true
   ·subst c41
    have H1 : (laws_FnExactAddPick.j0 k a1 a2 a3 t221 t232 (t232 != t221) a0_0 l0_1 t217 t218 t223 t224 t228 t229) = some r := by rw [if_pos rfl] at H; exact H
    clear H
    have H := H1
    clear H1
    have H' := Aside0.mk H
    clear H
    have hnb42 := NB233_211.out
    have hnc42 := NB211_233.out
    have hnb43 := NB233_222.out
    have hnc43 := NB222_233.out
    have hnb44 := NB233_227.out
    have hnc44 := NB227_233.out
    have hcz45_0 : w34.cell? ⟨gb233, 0, none⟩ = some (.int .i64 0) := (blk_cell BK233.out 0).trans rfl
    have hcz45_1 : w34.cell? ⟨gb233, 1, none⟩ = some (.slice none 0 0) := (blk_cell BK233.out 1).trans rfl
    have hfz45_0 := blk_frozen BK233.out 0
    have hfz45_1 := blk_frozen BK233.out 1
    have hnb46 := NB222_211.out
    have hnc46 := NB211_222.out
    have hnb47 := NB222_227.out
    have hnc47 := NB227_222.out
    have hcz48_0 : w34.cell? ⟨gb222, 0, none⟩ = some (.int .i64 t217) := (blk_cell BK222.out 0).trans rfl
    have hcz48_1 : w34.cell? ⟨gb222, 1, none⟩ = some (.slice Ao25 t218.length co25) := (blk_cell BK222.out 1).trans rfl
    have hfz48_0 := blk_frozen BK222.out 0
    have hfz48_1 := blk_frozen BK222.out 1
    go_wp2_with (first | ((with_reducible refine gate_callee (f := 16) rfl ?_); refine goesL_ (some 46) rfl rfl Try.func16 (by kernel_rfl) rfl #[.agg #[.int .i64 t228, .slice Ao39 t229.length co39], .agg #[.int .i64 t217, .slice Ao25 t218.length co25]] rfl (by (try simp only [List.map_toArray, List.map_cons, List.map_nil]); first | done | rfl | (simp only [List.length_drop, List.length_take]; rfl)) ?_; (with_reducible refine (laws_eqCircuit.calls k t228 _ _ t229 t217 _ _ t218 true _ ?side1 ?side2 ?side3 ?side4 A40.out).mono ?_); (case side1 => refine (Kd.R_reads' (e := 92) (base := w.heap.size) (ok := fun k_ => (((True ∧ some k_ ≠ (.slice Ao20 t214.length co20 : Value).ownBlock) ∧ some k_ ≠ (.slice Ao25 t218.length co25 : Value).ownBlock) ∧ some k_ ≠ (.slice Ao32 t224.length co32 : Value).ownBlock)) (n := t229.length) (c := co39) ?_).2.2; exact (by (with_reducible repeat (first | apply Kd.R_alloc | apply Kd.R_drewN | apply Kd.R_drew)); exact (Kd.R_mono (Kd.R_far (p := ⟨gb233, 1, none⟩) (Kd.R_far (p := ⟨gb233, 0, none⟩) (Kd.R_types HO231.out BK233.out (by decide)) (fun _ hk => hk.2) (.int .i64 t228)) (fun _ hk => hk.2) (.slice Ao39 t229.length co39)) (fun _ h_ => h_.1)))); (case side2 => exact (Kd.R_reads' HO231.out).2.1); (case side3 => refine (Kd.R_reads' (e := 92) (base := w.heap.size) (ok := fun k_ => (((True ∧ some k_ ≠ (.slice Ao20 t214.length co20 : Value).ownBlock) ∧ some k_ ≠ (.slice Ao32 t224.length co32 : Value).ownBlock) ∧ some k_ ≠ (.slice Ao39 t229.length co39 : Value).ownBlock)) (n := t218.length) (c := co25) ?_).2.2; exact (by (with_reducible repeat (first | apply Kd.R_alloc | apply Kd.R_drewN | apply Kd.R_drew)); exact (Kd.R_mono (Kd.R_far (p := ⟨gb233, 1, none⟩) (Kd.R_far (p := ⟨gb233, 0, none⟩) (Kd.R_types HO220.out BK233.out (by decide)) (fun _ hk => hk.2) (.int .i64 t228)) (fun _ hk => hk.2) (.slice Ao39 t229.length co39)) (fun _ h_ => h_.1)))); (case side4 => exact (Kd.R_reads' HO220.out).2.1); rintro e w49 ⟨rfl, hb⟩; refine ⟨_, rfl, ?_⟩; have n0_ := Aside0.mk (Kd.R_below (by (with_reducible repeat (first | apply Kd.R_alloc | apply Kd.R_drewN | apply Kd.R_drew)); exact (Kd.R_mono (Kd.R_far (p := ⟨gb233, 1, none⟩) (Kd.R_far (p := ⟨gb233, 0, none⟩) (Kd.R_types HO216.out BK233.out (by decide)) (fun _ hk => hk.2) (.int .i64 t228)) (fun _ hk => hk.2) (.slice Ao39 t229.length co39)) (fun _ h_ => h_.1))) hb); have n1_ := Aside0.mk (Kd.R_below (by (with_reducible repeat (first | apply Kd.R_alloc | apply Kd.R_drewN | apply Kd.R_drew)); exact (Kd.R_mono (Kd.R_far (p := ⟨gb233, 1, none⟩) (Kd.R_far (p := ⟨gb233, 0, none⟩) (Kd.R_types HO220.out BK233.out (by decide)) (fun _ hk => hk.2) (.int .i64 t228)) (fun _ hk => hk.2) (.slice Ao39 t229.length co39)) (fun _ h_ => h_.1))) hb); have n2_ := Aside0.mk (Kd.R_below (by (with_reducible repeat (first | apply Kd.R_alloc | apply Kd.R_drewN | apply Kd.R_drew)); exact (Kd.R_mono (Kd.R_far (p := ⟨gb233, 1, none⟩) (Kd.R_far (p := ⟨gb233, 0, none⟩) (Kd.R_types HO226.out BK233.out (by decide)) (fun _ hk => hk.2) (.int .i64 t228)) (fun _ hk => hk.2) (.slice Ao39 t229.length co39)) (fun _ h_ => h_.1))) hb); have n3_ := Aside0.mk (Kd.R_below (by (with_reducible repeat (first | apply Kd.R_alloc | apply Kd.R_drewN | apply Kd.R_drew)); exact (Kd.R_mono (Kd.R_far (p := ⟨gb233, 1, none⟩) (Kd.R_far (p := ⟨gb233, 0, none⟩) (Kd.R_types HO231.out BK233.out (by decide)) (fun _ hk => hk.2) (.int .i64 t228)) (fun _ hk => hk.2) (.slice Ao39 t229.length co39)) (fun _ h_ => h_.1))) hb); have n4_ := Aside0.mk (blk_below (g := gb211) (o := .cells #[.int .i64 a0_0, .slice A0_1 l0_1.length c0_1] 24 (0, 0)) (by (with_reducible repeat (first | refine blk_drewN ?_ _ | refine blk_drew ?_ | refine blk_alloc ?_ _)); refine blk_far ?_ NB211_233.out _; (with_reducible repeat (first | refine blk_drewN ?_ _ | refine blk_drew ?_ | refine blk_alloc ?_ _)); refine blk_far ?_ NB211_233.out _; (with_reducible repeat (first | refine blk_drewN ?_ _ | refine blk_drew ?_ | refine blk_alloc ?_ _)); exact BK211.out) hb); have n5_ := Aside0.mk (blk_below (g := gb222) (o := .cells #[.int .i64 t217, .slice Ao25 t218.length co25] 28 (0, 0)) (by (with_reducible repeat (first | refine blk_drewN ?_ _ | refine blk_drew ?_ | refine blk_alloc ?_ _)); refine blk_far ?_ NB222_233.out _; (with_reducible repeat (first | refine blk_drewN ?_ _ | refine blk_drew ?_ | refine blk_alloc ?_ _)); refine blk_far ?_ NB222_233.out _; (with_reducible repeat (first | refine blk_drewN ?_ _ | refine blk_drew ?_ | refine blk_alloc ?_ _)); exact BK222.out) hb); have n6_ := Aside0.mk (blk_below (g := gb227) (o := .cells #[.int .i64 t223, .slice Ao32 t224.length co32] 28 (0, 0)) (by (with_reducible repeat (first | refine blk_drewN ?_ _ | refine blk_drew ?_ | refine blk_alloc ?_ _)); refine blk_far ?_ NB227_233.out _; (with_reducible repeat (first | refine blk_drewN ?_ _ | refine blk_drew ?_ | refine blk_alloc ?_ _)); refine blk_far ?_ NB227_233.out _; (with_reducible repeat (first | refine blk_drewN ?_ _ | refine blk_drew ?_ | refine blk_alloc ?_ _)); exact BK227.out) hb); have n7_ := Aside0.mk (blk_below (g := gb233) (o := .cells #[.int .i64 t228, .slice Ao39 t229.length co39] 28 (0, 0)) (by (with_reducible repeat (first | refine blk_drewN ?_ _ | refine blk_drew ?_ | refine blk_alloc ?_ _)); refine blk_put (cs := #[.int .i64 t228, .slice none 0 0]) ?_ 1 _ rfl; (with_reducible repeat (first | refine blk_drewN ?_ _ | refine blk_drew ?_ | refine blk_alloc ?_ _)); refine blk_put (cs := #[.int .i64 0, .slice none 0 0]) ?_ 0 _ rfl; (with_reducible repeat (first | refine blk_drewN ?_ _ | refine blk_drew ?_ | refine blk_alloc ?_ _)); exact BK233.out) hb); have n8_ := Aside0.mk (below_step (by repeat (first | (with_reducible first | exact HB.out | apply bwA | apply bwN | apply bwD | refine below_set ?_ GE211.out | refine below_set ?_ GE222.out | refine below_set ?_ GE227.out | refine below_set ?_ GE233.out) | exact HB.out)) hb); clear HO216; clear HO220; clear HO226; clear HO231; clear BK211; clear BK222; clear BK227; clear BK233; clear HB; have HO216 := n0_; have HO220 := n1_; have HO226 := n2_; have HO231 := n3_; have BK211 := n4_; have BK222 := n5_; have BK227 := n6_; have BK233 := n7_; have HB := n8_; clear n0_ n1_ n2_ n3_ n4_ n5_ n6_ n7_ n8_; (try clear hb); (try clear hb2); (try clear hk); (try clear hi)))
    go_meet
    case rel => exact ⟨_, ((t232 != t221)), (by first | rfl | (simp; done) | (simp [*]; done)), H', ⟨by first | omega | exact Nat.le_refl _⟩, ⟨by (with_reducible repeat (first | apply Kd.R_alloc | apply Kd.R_drewN | apply Kd.R_drew)); exact Kd.R_mono HO220.out (fun _ hk => ⟨hk.1.2, hk.2⟩)⟩, ⟨by (with_reducible repeat (first | apply Kd.R_alloc | apply Kd.R_drewN | apply Kd.R_drew)); exact Kd.R_mono HO226.out (fun _ hk => ⟨hk.1.2, hk.2⟩)⟩, ⟨by (with_reducible repeat (first | apply Kd.R_alloc | apply Kd.R_drewN | apply Kd.R_drew)); exact Kd.R_mono HO231.out (fun _ hk => ⟨hk.1.2, hk.2⟩)⟩, ⟨by (with_reducible repeat (first | refine blk_drewN ?_ _ | refine blk_drew ?_ | refine blk_alloc ?_ _)); exact BK211.out⟩, ⟨by (with_reducible repeat (first | refine blk_drewN ?_ _ | refine blk_drew ?_ | refine blk_alloc ?_ _)); exact BK222.out⟩, ⟨by (with_reducible repeat (first | refine blk_drewN ?_ _ | refine blk_drew ?_ | refine blk_alloc ?_ _)); exact BK227.out⟩, ⟨by (with_reducible repeat (first | refine blk_drewN ?_ _ | refine blk_drew ?_ | refine blk_alloc ?_ _)); exact BK233.out⟩, ⟨by repeat (first | (with_reducible first | exact HB.out | apply bwA | apply bwN | apply bwD | refine below_set ?_ GE211.out | refine below_set ?_ GE222.out | refine below_set ?_ GE227.out | refine below_set ?_ GE233.out) | exact HB.out)⟩⟩
   ·replace c41 := Bool.eq_false_iff.mpr c41
    subst c41
    have H1 : (laws_FnExactAddPick.j0 k a1 a2 a3 t221 t232 true a0_0 l0_1 t217 t218 t223 t224 t228 t229) = some r := by rw [if_neg (show ¬ (false = true) by decide)] at H; exact H
    clear H
    have H := H1
    clear H1
    have H' := Aside0.mk H
    clear H
    have hnb50 := NB233_211.out
    have hnc50 := NB211_233.out
    have hnb51 := NB233_222.out
    have hnc51 := NB222_233.out
    have hnb52 := NB233_227.out
    have hnc52 := NB227_233.out
    have hcz53_0 : w34.cell? ⟨gb233, 0, none⟩ = some (.int .i64 0) := (blk_cell BK233.out 0).trans rfl
    have hcz53_1 : w34.cell? ⟨gb233, 1, none⟩ = some (.slice none 0 0) := (blk_cell BK233.out 1).trans rfl
    have hfz53_0 := blk_frozen BK233.out 0
    have hfz53_1 := blk_frozen BK233.out 1
    have hnb54 := NB222_211.out
    have hnc54 := NB211_222.out
    have hnb55 := NB222_227.out
    have hnc55 := NB227_222.out
    have hcz56_0 : w34.cell? ⟨gb222, 0, none⟩ = some (.int .i64 t217) := (blk_cell BK222.out 0).trans rfl
    have hcz56_1 : w34.cell? ⟨gb222, 1, none⟩ = some (.slice Ao25 t218.length co25) := (blk_cell BK222.out 1).trans rfl
    have hfz56_0 := blk_frozen BK222.out 0
    have hfz56_1 := blk_frozen BK222.out 1
    go_wp2_with (first | ((with_reducible refine gate_callee (f := 16) rfl ?_); refine goesL_ (some 46) rfl rfl Try.func16 (by kernel_rfl) rfl #[.agg #[.int .i64 t228, .slice Ao39 t229.length co39], .agg #[.int .i64 t217, .slice Ao25 t218.length co25]] rfl (by (try simp only [List.map_toArray, List.map_cons, List.map_nil]); first | done | rfl | (simp only [List.length_drop, List.length_take]; rfl)) ?_; (with_reducible refine (laws_eqCircuit.calls k t228 _ _ t229 t217 _ _ t218 false _ ?side1 ?side2 ?side3 ?side4 A40.out).mono ?_); (case side1 => refine (Kd.R_reads' (e := 92) (base := w.heap.size) (ok := fun k_ => (((True ∧ some k_ ≠ (.slice Ao20 t214.length co20 : Value).ownBlock) ∧ some k_ ≠ (.slice Ao25 t218.length co25 : Value).ownBlock) ∧ some k_ ≠ (.slice Ao32 t224.length co32 : Value).ownBlock)) (n := t229.length) (c := co39) ?_).2.2; exact (by (with_reducible repeat (first | apply Kd.R_alloc | apply Kd.R_drewN | apply Kd.R_drew)); exact (Kd.R_mono (Kd.R_far (p := ⟨gb233, 1, none⟩) (Kd.R_far (p := ⟨gb233, 0, none⟩) (Kd.R_types HO231.out BK233.out (by decide)) (fun _ hk => hk.2) (.int .i64 t228)) (fun _ hk => hk.2) (.slice Ao39 t229.length co39)) (fun _ h_ => h_.1)))); (case side2 => exact (Kd.R_reads' HO231.out).2.1); (case side3 => refine (Kd.R_reads' (e := 92) (base := w.heap.size) (ok := fun k_ => (((True ∧ some k_ ≠ (.slice Ao20 t214.length co20 : Value).ownBlock) ∧ some k_ ≠ (.slice Ao32 t224.length co32 : Value).ownBlock) ∧ some k_ ≠ (.slice Ao39 t229.length co39 : Value).ownBlock)) (n := t218.length) (c := co25) ?_).2.2; exact (by (with_reducible repeat (first | apply Kd.R_alloc | apply Kd.R_drewN | apply Kd.R_drew)); exact (Kd.R_mono (Kd.R_far (p := ⟨gb233, 1, none⟩) (Kd.R_far (p := ⟨gb233, 0, none⟩) (Kd.R_types HO220.out BK233.out (by decide)) (fun _ hk => hk.2) (.int .i64 t228)) (fun _ hk => hk.2) (.slice Ao39 t229.length co39)) (fun _ h_ => h_.1)))); (case side4 => exact (Kd.R_reads' HO220.out).2.1); rintro e w57 ⟨rfl, hb⟩; refine ⟨_, rfl, ?_⟩; have n0_ := Aside0.mk (Kd.R_below (by (with_reducible repeat (first | apply Kd.R_alloc | apply Kd.R_drewN | apply Kd.R_drew)); exact (Kd.R_mono (Kd.R_far (p := ⟨gb233, 1, none⟩) (Kd.R_far (p := ⟨gb233, 0, none⟩) (Kd.R_types HO216.out BK233.out (by decide)) (fun _ hk => hk.2) (.int .i64 t228)) (fun _ hk => hk.2) (.slice Ao39 t229.length co39)) (fun _ h_ => h_.1))) hb); have n1_ := Aside0.mk (Kd.R_below (by (with_reducible repeat (first | apply Kd.R_alloc | apply Kd.R_drewN | apply Kd.R_drew)); exact (Kd.R_mono (Kd.R_far (p := ⟨gb233, 1, none⟩) (Kd.R_far (p := ⟨gb233, 0, none⟩) (Kd.R_types HO220.out BK233.out (by decide)) (fun _ hk => hk.2) (.int .i64 t228)) (fun _ hk => hk.2) (.slice Ao39 t229.length co39)) (fun _ h_ => h_.1))) hb); have n2_ := Aside0.mk (Kd.R_below (by (with_reducible repeat (first | apply Kd.R_alloc | apply Kd.R_drewN | apply Kd.R_drew)); exact (Kd.R_mono (Kd.R_far (p := ⟨gb233, 1, none⟩) (Kd.R_far (p := ⟨gb233, 0, none⟩) (Kd.R_types HO226.out BK233.out (by decide)) (fun _ hk => hk.2) (.int .i64 t228)) (fun _ hk => hk.2) (.slice Ao39 t229.length co39)) (fun _ h_ => h_.1))) hb); have n3_ := Aside0.mk (Kd.R_below (by (with_reducible repeat (first | apply Kd.R_alloc | apply Kd.R_drewN | apply Kd.R_drew)); exact (Kd.R_mono (Kd.R_far (p := ⟨gb233, 1, none⟩) (Kd.R_far (p := ⟨gb233, 0, none⟩) (Kd.R_types HO231.out BK233.out (by decide)) (fun _ hk => hk.2) (.int .i64 t228)) (fun _ hk => hk.2) (.slice Ao39 t229.length co39)) (fun _ h_ => h_.1))) hb); have n4_ := Aside0.mk (blk_below (g := gb211) (o := .cells #[.int .i64 a0_0, .slice A0_1 l0_1.length c0_1] 24 (0, 0)) (by (with_reducible repeat (first | refine blk_drewN ?_ _ | refine blk_drew ?_ | refine blk_alloc ?_ _)); refine blk_far ?_ NB211_233.out _; (with_reducible repeat (first | refine blk_drewN ?_ _ | refine blk_drew ?_ | refine blk_alloc ?_ _)); refine blk_far ?_ NB211_233.out _; (with_reducible repeat (first | refine blk_drewN ?_ _ | refine blk_drew ?_ | refine blk_alloc ?_ _)); exact BK211.out) hb); have n5_ := Aside0.mk (blk_below (g := gb222) (o := .cells #[.int .i64 t217, .slice Ao25 t218.length co25] 28 (0, 0)) (by (with_reducible repeat (first | refine blk_drewN ?_ _ | refine blk_drew ?_ | refine blk_alloc ?_ _)); refine blk_far ?_ NB222_233.out _; (with_reducible repeat (first | refine blk_drewN ?_ _ | refine blk_drew ?_ | refine blk_alloc ?_ _)); refine blk_far ?_ NB222_233.out _; (with_reducible repeat (first | refine blk_drewN ?_ _ | refine blk_drew ?_ | refine blk_alloc ?_ _)); exact BK222.out) hb); have n6_ := Aside0.mk (blk_below (g := gb227) (o := .cells #[.int .i64 t223, .slice Ao32 t224.length co32] 28 (0, 0)) (by (with_reducible repeat (first | refine blk_drewN ?_ _ | refine blk_drew ?_ | refine blk_alloc ?_ _)); refine blk_far ?_ NB227_233.out _; (with_reducible repeat (first | refine blk_drewN ?_ _ | refine blk_drew ?_ | refine blk_alloc ?_ _)); refine blk_far ?_ NB227_233.out _; (with_reducible repeat (first | refine blk_drewN ?_ _ | refine blk_drew ?_ | refine blk_alloc ?_ _)); exact BK227.out) hb); have n7_ := Aside0.mk (blk_below (g := gb233) (o := .cells #[.int .i64 t228, .slice Ao39 t229.length co39] 28 (0, 0)) (by (with_reducible repeat (first | refine blk_drewN ?_ _ | refine blk_drew ?_ | refine blk_alloc ?_ _)); refine blk_put (cs := #[.int .i64 t228, .slice none 0 0]) ?_ 1 _ rfl; (with_reducible repeat (first | refine blk_drewN ?_ _ | refine blk_drew ?_ | refine blk_alloc ?_ _)); refine blk_put (cs := #[.int .i64 0, .slice none 0 0]) ?_ 0 _ rfl; (with_reducible repeat (first | refine blk_drewN ?_ _ | refine blk_drew ?_ | refine blk_alloc ?_ _)); exact BK233.out) hb); have n8_ := Aside0.mk (below_step (by repeat (first | (with_reducible first | exact HB.out | apply bwA | apply bwN | apply bwD | refine below_set ?_ GE211.out | refine below_set ?_ GE222.out | refine below_set ?_ GE227.out | refine below_set ?_ GE233.out) | exact HB.out)) hb); clear HO216; clear HO220; clear HO226; clear HO231; clear BK211; clear BK222; clear BK227; clear BK233; clear HB; have HO216 := n0_; have HO220 := n1_; have HO226 := n2_; have HO231 := n3_; have BK211 := n4_; have BK222 := n5_; have BK227 := n6_; have BK233 := n7_; have HB := n8_; clear n0_ n1_ n2_ n3_ n4_ n5_ n6_ n7_ n8_; (try clear hb); (try clear hb2); (try clear hk); (try clear hi)))
    go_meet
    case rel => exact ⟨_, (true), (by first | rfl | (simp; done) | (simp [*]; done)), H', ⟨by first | omega | exact Nat.le_refl _⟩, ⟨by (with_reducible repeat (first | apply Kd.R_alloc | apply Kd.R_drewN | apply Kd.R_drew)); exact Kd.R_mono HO220.out (fun _ hk => ⟨hk.1.2, hk.2⟩)⟩, ⟨by (with_reducible repeat (first | apply Kd.R_alloc | apply Kd.R_drewN | apply Kd.R_drew)); exact Kd.R_mono HO226.out (fun _ hk => ⟨hk.1.2, hk.2⟩)⟩, ⟨by (with_reducible repeat (first | apply Kd.R_alloc | apply Kd.R_drewN | apply Kd.R_drew)); exact Kd.R_mono HO231.out (fun _ hk => ⟨hk.1.2, hk.2⟩)⟩, ⟨by (with_reducible repeat (first | refine blk_drewN ?_ _ | refine blk_drew ?_ | refine blk_alloc ?_ _)); exact BK211.out⟩, ⟨by (with_reducible repeat (first | refine blk_drewN ?_ _ | refine blk_drew ?_ | refine blk_alloc ?_ _)); exact BK222.out⟩, ⟨by (with_reducible repeat (first | refine blk_drewN ?_ _ | refine blk_drew ?_ | refine blk_alloc ?_ _)); exact BK227.out⟩, ⟨by (with_reducible repeat (first | refine blk_drewN ?_ _ | refine blk_drew ?_ | refine blk_alloc ?_ _)); exact BK233.out⟩, ⟨by repeat (first | (with_reducible first | exact HB.out | apply bwA | apply bwN | apply bwD | refine below_set ?_ GE211.out | refine below_set ?_ GE222.out | refine below_set ?_ GE227.out | refine below_set ?_ GE233.out) | exact HB.out)⟩⟩
  case rest =>
   clear HC14
   try clear c1
   try clear c2
   try clear p2
   try clear c3
   try clear c4
   try clear c5
   try clear c6
   try clear c6b0
   try clear c12
   try clear c13
   try clear c14
   try clear c15
   try clear c16
   try clear c23
   try clear c29
   try clear c30
   try clear c35
   try clear c36
   try clear c37
   try clear c41
   try clear c42
   try clear c43
   try clear c44
   try clear c46
   try clear c47
   try clear c50
   try clear c51
   try clear c52
   try clear c54
   try clear c55
   try clear hcz16_0
   try clear hcz16_1
   try clear hcz18_0
   try clear hcz18_1
   try clear hcz24_0
   try clear hcz24_1
   try clear hcz26_0
   try clear hcz26_1
   try clear hcz31_0
   try clear hcz31_1
   try clear hcz38_0
   try clear hcz38_1
   try clear hcz45_0
   try clear hcz45_1
   try clear hcz48_0
   try clear hcz48_1
   try clear hcz53_0
   try clear hcz53_1
   try clear hcz56_0
   try clear hcz56_1
   try clear hcz8_0
   try clear hcz8_1
   try clear hfz16_0
   try clear hfz16_1
   try clear hfz18_0
   try clear hfz18_1
   try clear hfz24_0
   try clear hfz24_1
   try clear hfz26_0
   try clear hfz26_1
   try clear hfz31_0
   try clear hfz31_1
   try clear hfz38_0
   try clear hfz38_1
   try clear hfz45_0
   try clear hfz45_1
   try clear hfz48_0
   try clear hfz48_1
   try clear hfz53_0
   try clear hfz53_1
   try clear hfz56_0
   try clear hfz56_1
   try clear hfz8_0
   try clear hfz8_1
   obtain ⟨kq, x52_13, rfl, HA, HJ13, HO_223001, HO_228001, HO_234001, BK211, BK222, BK227, BK233, HB⟩ := hcut
   cases kq with
   | zero => exact absurd HA.out (by simp [laws_FnExactAddPick.j0])
   | succ kj13 =>
    have H := HA.out
    clear HA
    simp only [laws_FnExactAddPick.j0] at H
    by_cases c58 : x52_13 = true
    ·subst c58
     have H1 : (some false) = some r := by rw [if_pos rfl] at H; exact H
     clear H
     have H := H1
     clear H1
     obtain rfl := Option.some.inj H
     go_wp2
     go_ret
     exact ⟨by first | rfl | (simp [errW_none, errW_some] <;> rfl) | (simp [*, errW_none, errW_some] <;> rfl), by repeat (first | (with_reducible first | exact HB.out | apply bwA | apply bwN | apply bwD | refine below_set ?_ GE211.out | refine below_set ?_ GE222.out | refine below_set ?_ GE227.out | refine below_set ?_ GE233.out) | exact HB.out)⟩
    ·replace c58 := Bool.eq_false_iff.mpr c58
     subst c58
     have H1 : ((laws_toCircuit.f kj13 a0_0 l0_1).bind fun bt235 => ((laws_eqCircuit.f kj13 t223 t224 bt235.1 bt235.2).bind fun t239 => (if t239 = true then ((laws_markCircuit.f kj13 t223 t224 1).bind fun bt240 => (if bt240.1 < 0 then (laws_FnExactAddPick.j1 kj13 a1 a2 a3 t221 true a0_0 l0_1 t217 t218 t228 t229) else ((laws_eqCircuit.f kj13 t228 t229 t217 t218).bind fun t242 => (if t242 = true then (laws_FnExactAddPick.j1 kj13 a1 a2 a3 t221 (t232 != t221) a0_0 l0_1 t217 t218 t228 t229) else (laws_FnExactAddPick.j1 kj13 a1 a2 a3 t221 true a0_0 l0_1 t217 t218 t228 t229))))) else (some false)))) = some r := by rw [if_neg (show ¬ (false = true) by decide)] at H; exact H
     clear H
     have H := H1
     clear H1
     replace H := Option.bind_eq_some_iff.mp H
     obtain ⟨⟨t235, t236⟩, A590, H⟩ := H
     replace H : ((laws_eqCircuit.f kj13 t223 t224 t235 t236).bind fun t239 => (if t239 = true then ((laws_markCircuit.f kj13 t223 t224 1).bind fun bt240 => (if bt240.1 < 0 then (laws_FnExactAddPick.j1 kj13 a1 a2 a3 t221 true a0_0 l0_1 t217 t218 t228 t229) else ((laws_eqCircuit.f kj13 t228 t229 t217 t218).bind fun t242 => (if t242 = true then (laws_FnExactAddPick.j1 kj13 a1 a2 a3 t221 (t232 != t221) a0_0 l0_1 t217 t218 t228 t229) else (laws_FnExactAddPick.j1 kj13 a1 a2 a3 t221 true a0_0 l0_1 t217 t218 t228 t229))))) else (some false))) = some r := H
     have A59 := Aside0.mk A590
     clear A590
     replace H := Option.bind_eq_some_iff.mp H
     obtain ⟨t239, A600, H⟩ := H
     replace H : (if t239 = true then ((laws_markCircuit.f kj13 t223 t224 1).bind fun bt240 => (if bt240.1 < 0 then (laws_FnExactAddPick.j1 kj13 a1 a2 a3 t221 true a0_0 l0_1 t217 t218 t228 t229) else ((laws_eqCircuit.f kj13 t228 t229 t217 t218).bind fun t242 => (if t242 = true then (laws_FnExactAddPick.j1 kj13 a1 a2 a3 t221 (t232 != t221) a0_0 l0_1 t217 t218 t228 t229) else (laws_FnExactAddPick.j1 kj13 a1 a2 a3 t221 true a0_0 l0_1 t217 t218 t228 t229))))) else (some false)) = some r := H
     have A60 := Aside0.mk A600
     clear A600
     by_cases c61 : t239 = true
     ·subst c61
      have H1 : ((laws_markCircuit.f kj13 t223 t224 1).bind fun bt240 => (if bt240.1 < 0 then (laws_FnExactAddPick.j1 kj13 a1 a2 a3 t221 true a0_0 l0_1 t217 t218 t228 t229) else ((laws_eqCircuit.f kj13 t228 t229 t217 t218).bind fun t242 => (if t242 = true then (laws_FnExactAddPick.j1 kj13 a1 a2 a3 t221 (t232 != t221) a0_0 l0_1 t217 t218 t228 t229) else (laws_FnExactAddPick.j1 kj13 a1 a2 a3 t221 true a0_0 l0_1 t217 t218 t228 t229))))) = some r := by rw [if_pos rfl] at H; exact H
      clear H
      have H := H1
      clear H1
      replace H := Option.bind_eq_some_iff.mp H
      obtain ⟨⟨t240, t241⟩, A620, H⟩ := H
      replace H : (if t240 < 0 then (laws_FnExactAddPick.j1 kj13 a1 a2 a3 t221 true a0_0 l0_1 t217 t218 t228 t229) else ((laws_eqCircuit.f kj13 t228 t229 t217 t218).bind fun t242 => (if t242 = true then (laws_FnExactAddPick.j1 kj13 a1 a2 a3 t221 (t232 != t221) a0_0 l0_1 t217 t218 t228 t229) else (laws_FnExactAddPick.j1 kj13 a1 a2 a3 t221 true a0_0 l0_1 t217 t218 t228 t229)))) = some r := H
      have A62 := Aside0.mk A620
      clear A620
      have HC63 := Aside0.mk H
      clear H
      try go_wp2
      have n0_ := Aside0.mk (Kd.R_drew HO_223001.out)
      have n1_ := Aside0.mk (Kd.R_drew HO_228001.out)
      have n2_ := Aside0.mk (Kd.R_drew HO_234001.out)
      have n3_ := Aside0.mk (blk_drew BK211.out)
      have n4_ := Aside0.mk (blk_drew BK222.out)
      have n5_ := Aside0.mk (blk_drew BK227.out)
      have n6_ := Aside0.mk (blk_drew BK233.out)
      have n7_ := Aside0.mk (below_drew1 HB.out)
      clear HO_223001
      clear HO_228001
      clear HO_234001
      clear BK211
      clear BK222
      clear BK227
      clear BK233
      clear HB
      have HO_223001 := n0_
      have HO_228001 := n1_
      have HO_234001 := n2_
      have BK211 := n3_
      have BK222 := n4_
      have BK227 := n5_
      have BK233 := n6_
      have HB := n7_
      clear n0_ n1_ n2_ n3_ n4_ n5_ n6_ n7_
      refine start_ (n := 5) (S := fun w' => w'.cell? ⟨gb227, 0, none⟩ = some (.int .i64 t223) ∧ w'.cell? ⟨gb227, 1, none⟩ = some (.slice Ao32 t224.length co32) ∧ w'.cell? ⟨gb211, 0, none⟩ = some (.int .i64 a0_0) ∧ w'.cell? ⟨gb211, 1, none⟩ = some (.slice A0_1 l0_1.length c0_1)) (ds := []) #[false, false, false, false, false] (by kernel_rfl) rfl rfl ⟨(blk_cell BK227.out 0).trans rfl, (blk_cell BK227.out 1).trans rfl, (blk_cell BK211.out 0).trans rfl, (blk_cell BK211.out 1).trans rfl⟩ (fun hHeld => ?_)
      generalize wc.drew = w64 at HO_223001 HO_228001 HO_234001 BK211 BK222 BK227 BK233 HB hHeld ⊢
      refine take_ (i := 0) (N := some 53) (v := ?_) (a' := ?_) #[true, false, false, false, false] rfl rfl (by kernel_rfl) (fun _ _ _ h => h) (Or.inl ⟨by rfl, ?_⟩) hHeld ?_ ?_
      rotate_left
      ·rintro w' ⟨s0, s1, s2, s3⟩
       go_simp
       with_reducible rfl
      rotate_left
      ·simp only [Act.put, List.setIfInBounds_toArray, List.set_cons_zero, List.set_cons_succ, i64_w, i32_w]
       rfl
      refine take_ (i := 1) (N := some 54) (v := ?_) (a' := ?_) #[true, true, false, false, false] rfl rfl (by kernel_rfl) (fun _ _ _ h => h) (Or.inl ⟨by rfl, ?_⟩) hHeld ?_ ?_
      rotate_left
      ·rintro w' ⟨s0, s1, s2, s3⟩
       go_simp
       with_reducible rfl
      rotate_left
      ·simp only [Act.put, List.setIfInBounds_toArray, List.set_cons_zero, List.set_cons_succ, i64_w, i32_w]
       rfl
      refine one_ (i := 2) (N := some 55) #[true, true, true, false, false] rfl rfl (by kernel_rfl) (by decide) (fun K hK => ?_)
      refine goes_ Try.func14 (by kernel_rfl) rfl #[.agg #[.int .i64 a0_0, .slice A0_1 l0_1.length c0_1]] (by rfl) rfl rfl (by (try simp only [List.map_toArray, List.map_cons, List.map_nil]); first | done | rfl | (simp only [List.length_drop, List.length_take]; rfl)) ?_
      with_reducible refine (laws_toCircuit.calls kj13 a0_0 _ _ l0_1 t235 t236 _ ?side1 ?side2 A59.out).mono ?_
      (case side1 => repeat (first | exact (Kd.C_below HR0_1.out HB.out) | (with_reducible refine Kd.C_alloc ?_ _) | (with_reducible refine Kd.C_drewN ?_ _) | (with_reducible refine Kd.C_drew ?_)))
      (case side2 => exact HC0_1.out)
      rintro e w65 ⟨v237, rfl, ho0, hb⟩
      refine ⟨_, rfl, ?_⟩
      have n0_ := Aside0.mk (Kd.R_elder' (by (with_reducible repeat (first | apply Kd.R_alloc | apply Kd.R_drewN | apply Kd.R_drew)); exact HO_223001.out) (Kd.R_base ho0) hb)
      have n1_ := Aside0.mk (Kd.R_elder' (by (with_reducible repeat (first | apply Kd.R_alloc | apply Kd.R_drewN | apply Kd.R_drew)); exact HO_228001.out) (Kd.R_base ho0) hb)
      have n2_ := Aside0.mk (Kd.R_elder' (by (with_reducible repeat (first | apply Kd.R_alloc | apply Kd.R_drewN | apply Kd.R_drew)); exact HO_234001.out) (Kd.R_base ho0) hb)
      have n3_ := Aside0.mk (Kd.R_lower (Kd.R_new' (Kd.R_new' (Kd.R_new' ho0 (Kd.R_lt (by (with_reducible repeat (first | apply Kd.R_alloc | apply Kd.R_drewN | apply Kd.R_drew)); exact HO_223001.out))) (Kd.R_lt (by (with_reducible repeat (first | apply Kd.R_alloc | apply Kd.R_drewN | apply Kd.R_drew)); exact HO_228001.out))) (Kd.R_lt (by (with_reducible repeat (first | apply Kd.R_alloc | apply Kd.R_drewN | apply Kd.R_drew)); exact HO_234001.out))) (below_size (by repeat (first | (with_reducible first | exact HB.out | apply bwA | apply bwN | apply bwD | refine below_set ?_ GE211.out | refine below_set ?_ GE222.out | refine below_set ?_ GE227.out | refine below_set ?_ GE233.out) | exact HB.out))))
      have n4_ := Aside0.mk (blk_below (g := gb211) (o := .cells #[.int .i64 a0_0, .slice A0_1 l0_1.length c0_1] 24 (0, 0)) (by (with_reducible repeat (first | refine blk_drewN ?_ _ | refine blk_drew ?_ | refine blk_alloc ?_ _)); exact BK211.out) hb)
      have n5_ := Aside0.mk (blk_below (g := gb222) (o := .cells #[.int .i64 t217, .slice Ao25 t218.length co25] 28 (0, 0)) (by (with_reducible repeat (first | refine blk_drewN ?_ _ | refine blk_drew ?_ | refine blk_alloc ?_ _)); exact BK222.out) hb)
      have n6_ := Aside0.mk (blk_below (g := gb227) (o := .cells #[.int .i64 t223, .slice Ao32 t224.length co32] 28 (0, 0)) (by (with_reducible repeat (first | refine blk_drewN ?_ _ | refine blk_drew ?_ | refine blk_alloc ?_ _)); exact BK227.out) hb)
      have n7_ := Aside0.mk (blk_below (g := gb233) (o := .cells #[.int .i64 t228, .slice Ao39 t229.length co39] 28 (0, 0)) (by (with_reducible repeat (first | refine blk_drewN ?_ _ | refine blk_drew ?_ | refine blk_alloc ?_ _)); exact BK233.out) hb)
      have n8_ := Aside0.mk (below_step (by repeat (first | (with_reducible first | exact HB.out | apply bwA | apply bwN | apply bwD | refine below_set ?_ GE211.out | refine below_set ?_ GE222.out | refine below_set ?_ GE227.out | refine below_set ?_ GE233.out) | exact HB.out)) hb)
      clear HO_223001
      clear HO_228001
      clear HO_234001
      clear BK211
      clear BK222
      clear BK227
      clear BK233
      clear HB
      have HO_223001 := n0_
      have HO_228001 := n1_
      have HO_234001 := n2_
      have HO238 := n3_
      have BK211 := n4_
      have BK222 := n5_
      have BK227 := n6_
      have BK233 := n7_
      have HB := n8_
      clear n0_ n1_ n2_ n3_ n4_ n5_ n6_ n7_ n8_
      (try clear hb)
      (try clear hb2)
      (try clear hk)
      (try clear hi)
      (try clear ho0)
      obtain ⟨Ao66, co66, eo66⟩ := Kd.R_slice HO238.out
      (first | subst eo66 | (injection eo66 with f1_ f2_ f3_; have f4_ := f1_.symm; have f5_ := f3_.symm; clear f1_ f2_ f3_; subst f4_; subst f5_))
      refine hK.out _ _ ⟨(blk_cell BK227.out 0).trans rfl, (blk_cell BK227.out 1).trans rfl, (blk_cell BK211.out 0).trans rfl, (blk_cell BK211.out 1).trans rfl⟩ (fun hHeld => ?_)
      clear hK K
      refine norm_ (a' := ?_) ?_ ?_
      rotate_left
      ·show Act.put _ (some 55) _ = _
       simp only [Act.put, List.setIfInBounds_toArray, List.set_cons_zero, List.set_cons_succ, i64_w, i32_w]
       rfl
      refine one_ (i := 3) (N := some 56) #[true, true, true, true, false] rfl rfl (by kernel_rfl) (by decide) (fun K hK => ?_)
      refine goes_ Try.func16 (by kernel_rfl) rfl #[.agg #[.int .i64 t223, .slice Ao32 t224.length co32], .agg #[.int .i64 t235, .slice Ao66 t236.length co66]] (by rfl) rfl rfl (by (try simp only [List.map_toArray, List.map_cons, List.map_nil]); first | done | rfl | (simp only [List.length_drop, List.length_take]; rfl)) ?_
      with_reducible refine (laws_eqCircuit.calls kj13 t223 _ _ t224 t235 _ _ t236 true _ ?side1 ?side2 ?side3 ?side4 A60.out).mono ?_
      (case side1 => repeat (first | exact (Kd.R_reads' HO_228001.out).2.2 | (with_reducible refine Kd.C_alloc ?_ _) | (with_reducible refine Kd.C_drewN ?_ _) | (with_reducible refine Kd.C_drew ?_)))
      (case side2 => exact (Kd.R_reads' HO_228001.out).2.1)
      (case side3 => repeat (first | exact (Kd.R_reads' HO238.out).2.2 | (with_reducible refine Kd.C_alloc ?_ _) | (with_reducible refine Kd.C_drewN ?_ _) | (with_reducible refine Kd.C_drew ?_)))
      (case side4 => exact (Kd.R_reads' HO238.out).2.1)
      rintro e w67 ⟨rfl, hb⟩
      refine ⟨_, rfl, ?_⟩
      have n0_ := Aside0.mk (Kd.R_below (by (with_reducible repeat (first | apply Kd.R_alloc | apply Kd.R_drewN | apply Kd.R_drew)); exact HO_223001.out) hb)
      have n1_ := Aside0.mk (Kd.R_below (by (with_reducible repeat (first | apply Kd.R_alloc | apply Kd.R_drewN | apply Kd.R_drew)); exact HO_228001.out) hb)
      have n2_ := Aside0.mk (Kd.R_below (by (with_reducible repeat (first | apply Kd.R_alloc | apply Kd.R_drewN | apply Kd.R_drew)); exact HO_234001.out) hb)
      have n3_ := Aside0.mk (Kd.R_below (by (with_reducible repeat (first | apply Kd.R_alloc | apply Kd.R_drewN | apply Kd.R_drew)); exact HO238.out) hb)
      have n4_ := Aside0.mk (blk_below (g := gb211) (o := .cells #[.int .i64 a0_0, .slice A0_1 l0_1.length c0_1] 24 (0, 0)) (by (with_reducible repeat (first | refine blk_drewN ?_ _ | refine blk_drew ?_ | refine blk_alloc ?_ _)); exact BK211.out) hb)
      have n5_ := Aside0.mk (blk_below (g := gb222) (o := .cells #[.int .i64 t217, .slice Ao25 t218.length co25] 28 (0, 0)) (by (with_reducible repeat (first | refine blk_drewN ?_ _ | refine blk_drew ?_ | refine blk_alloc ?_ _)); exact BK222.out) hb)
      have n6_ := Aside0.mk (blk_below (g := gb227) (o := .cells #[.int .i64 t223, .slice Ao32 t224.length co32] 28 (0, 0)) (by (with_reducible repeat (first | refine blk_drewN ?_ _ | refine blk_drew ?_ | refine blk_alloc ?_ _)); exact BK227.out) hb)
      have n7_ := Aside0.mk (blk_below (g := gb233) (o := .cells #[.int .i64 t228, .slice Ao39 t229.length co39] 28 (0, 0)) (by (with_reducible repeat (first | refine blk_drewN ?_ _ | refine blk_drew ?_ | refine blk_alloc ?_ _)); exact BK233.out) hb)
      have n8_ := Aside0.mk (below_step (by repeat (first | (with_reducible first | exact HB.out | apply bwA | apply bwN | apply bwD | refine below_set ?_ GE211.out | refine below_set ?_ GE222.out | refine below_set ?_ GE227.out | refine below_set ?_ GE233.out) | exact HB.out)) hb)
      clear HO_223001
      clear HO_228001
      clear HO_234001
      clear HO238
      clear BK211
      clear BK222
      clear BK227
      clear BK233
      clear HB
      have HO_223001 := n0_
      have HO_228001 := n1_
      have HO_234001 := n2_
      have HO238 := n3_
      have BK211 := n4_
      have BK222 := n5_
      have BK227 := n6_
      have BK233 := n7_
      have HB := n8_
      clear n0_ n1_ n2_ n3_ n4_ n5_ n6_ n7_ n8_
      (try clear hb)
      (try clear hb2)
      (try clear hk)
      (try clear hi)
      refine hK.out _ _ ⟨(blk_cell BK227.out 0).trans rfl, (blk_cell BK227.out 1).trans rfl, (blk_cell BK211.out 0).trans rfl, (blk_cell BK211.out 1).trans rfl⟩ (fun hHeld => ?_)
      clear hK K
      refine norm_ (a' := ?_) ?_ ?_
      rotate_left
      ·show Act.put _ (some 56) _ = _
       simp only [Act.put, List.setIfInBounds_toArray, List.set_cons_zero, List.set_cons_succ, i64_w, i32_w]
       rfl
      refine pure_ (i := 4) (N := some 57) (v := ?_) (a' := ?_) #[true, true, true, true, true] rfl rfl (by kernel_rfl) (fun _ _ _ h => h) (Or.inl ⟨by rfl, ?_⟩) ?_ ?_
      rotate_left
      ·intro w'
       go_simp
       with_reducible rfl
      rotate_left
      ·simp only [Act.put, List.setIfInBounds_toArray, List.set_cons_zero, List.set_cons_succ, i64_w, i32_w]
       rfl
      refine done_ (by kernel_rfl) ?_
      have hnb68 := NB227_211.out
      have hnc68 := NB211_227.out
      have hnb69 := NB227_222.out
      have hnc69 := NB222_227.out
      have hnb70 := NB227_233.out
      have hnc70 := NB233_227.out
      have hcz71_0 : w67.cell? ⟨gb227, 0, none⟩ = some (.int .i64 t223) := (blk_cell BK227.out 0).trans rfl
      have hcz71_1 : w67.cell? ⟨gb227, 1, none⟩ = some (.slice Ao32 t224.length co32) := (blk_cell BK227.out 1).trans rfl
      have hfz71_0 := blk_frozen BK227.out 0
      have hfz71_1 := blk_frozen BK227.out 1
      go_upto_region 14 with (first | ((with_reducible refine gate_callee (f := 17) rfl ?_); refine goesL_ (some 60) rfl rfl Try.func17 (by kernel_rfl) rfl #[.agg #[.int .i64 t223, .slice Ao32 t224.length co32], .int .i64 1] rfl (by (try simp only [List.map_toArray, List.map_cons, List.map_nil]); first | done | rfl | (simp only [List.length_drop, List.length_take]; rfl)) ?_; (with_reducible refine (laws_markCircuit.calls kj13 t223 (fun k_ => some k_ = (.slice Ao32 t224.length co32 : Value).ownBlock) (.slice Ao32 t224.length co32) t224 1 t240 t241 w _ ?side1 ?side2 A62.out).mono ?_); (case side1 => repeat (first | (with_reducible first | exact HB.out | apply bwA | apply bwN | apply bwD | refine below_set ?_ GE211.out | refine below_set ?_ GE222.out | refine below_set ?_ GE227.out | refine below_set ?_ GE233.out) | exact HB.out)); (case side2 => exact Kd.R_tight rfl HO_228001.out); rintro e w72 ⟨rfl, hy0, hb, hkp⟩; refine ⟨_, rfl, ?_⟩; have n0_ := Aside0.mk (Kd.R_mono (ok' := fun k_ => some k_ ≠ (.slice Ao32 t224.length co32 : Value).ownBlock ∧ some k_ ≠ (.slice Ao39 t229.length co39 : Value).ownBlock ∧ some k_ ≠ (.slice Ao66 t236.length co66 : Value).ownBlock) (Kd.R_keptB (HO_223001.out) hkp (fun k_ hk_ hs_ => (hk_.1.1) hs_)) (fun k_ hk_ => ⟨hk_.1.1.1, hk_.1.1.2, hk_.1.2⟩)); have n1_ := Aside0.mk (Kd.R_reok rfl hy0 (fun k_ e_ => HO_228001.out.1 k_ e_)); have n2_ := Aside0.mk (Kd.R_mono (ok' := fun k_ => some k_ ≠ (.slice Ao25 t218.length co25 : Value).ownBlock ∧ some k_ ≠ (.slice Ao32 t224.length co32 : Value).ownBlock ∧ some k_ ≠ (.slice Ao66 t236.length co66 : Value).ownBlock) (Kd.R_keptB (HO_234001.out) hkp (fun k_ hk_ hs_ => (hk_.1.2) hs_)) (fun k_ hk_ => ⟨hk_.1.1.1, hk_.1.1.2, hk_.1.2⟩)); have n3_ := Aside0.mk (blk_kept (by (with_reducible repeat (first | refine blk_drewN ?_ _ | refine blk_drew ?_ | refine blk_alloc ?_ _)); exact BK211.out) hkp (fun hs_ => (fun e_ => (Kd.R_ne HO_228001.out BK211.out (by decide)) e_) hs_)); have n4_ := Aside0.mk (blk_kept (by (with_reducible repeat (first | refine blk_drewN ?_ _ | refine blk_drew ?_ | refine blk_alloc ?_ _)); exact BK222.out) hkp (fun hs_ => (fun e_ => (Kd.R_ne HO_228001.out BK222.out (by decide)) e_) hs_)); have n5_ := Aside0.mk (blk_kept (by (with_reducible repeat (first | refine blk_drewN ?_ _ | refine blk_drew ?_ | refine blk_alloc ?_ _)); exact BK227.out) hkp (fun hs_ => (fun e_ => (Kd.R_ne HO_228001.out BK227.out (by decide)) e_) hs_)); have n6_ := Aside0.mk (blk_kept (by (with_reducible repeat (first | refine blk_drewN ?_ _ | refine blk_drew ?_ | refine blk_alloc ?_ _)); exact BK233.out) hkp (fun hs_ => (fun e_ => (Kd.R_ne HO_228001.out BK233.out (by decide)) e_) hs_)); have n7_ := Aside0.mk (Kd.R_mono (ok' := fun k_ => some k_ ≠ (.slice Ao25 t218.length co25 : Value).ownBlock ∧ some k_ ≠ (.slice Ao32 t224.length co32 : Value).ownBlock ∧ some k_ ≠ (.slice Ao39 t229.length co39 : Value).ownBlock) (Kd.R_keptB (HO238.out) hkp (fun k_ hk_ hs_ => (hk_.1.2) hs_)) (fun k_ hk_ => ⟨hk_.1.1.1.2, hk_.1.1.2, hk_.1.2⟩)); have n8_ := Aside0.mk (hb); clear HO_223001; clear HO_228001; clear HO_234001; clear BK211; clear BK222; clear BK227; clear BK233; clear HO238; clear HB; have HO_223001 := n0_; have HO_228001 := n1_; have HO_234001 := n2_; have BK211 := n3_; have BK222 := n4_; have BK227 := n5_; have BK233 := n6_; have HO238 := n7_; have HB := n8_; clear n0_ n1_ n2_ n3_ n4_ n5_ n6_ n7_ n8_; (try clear hb); (try clear hkp); (try clear hy0)))
      (try simp only [Act.put, List.setIfInBounds_toArray, List.set_cons_zero, List.set_cons_succ])
      go_cut [73] (fun v73 wc => ∃ (kq : Nat) (x73_62 : Bool), v73 = .bool x73_62 ∧ Aside0 (laws_FnExactAddPick.j1 kq a1 a2 a3 t221 x73_62 a0_0 l0_1 t217 t218 t228 t229 = some r) ∧ Aside0 (kq ≤ kj13) ∧ Aside0 (Kd.R k92 92 wc w.heap.size (fun k_ => some k_ ≠ ((.slice Ao32 t224.length co32) : Value).ownBlock ∧ some k_ ≠ ((.slice Ao39 t229.length co39) : Value).ownBlock) (.slice Ao25 t218.length co25) t218) ∧ Aside0 (Kd.R k92 92 wc w.heap.size (fun k_ => some k_ ≠ ((.slice Ao25 t218.length co25) : Value).ownBlock ∧ some k_ ≠ ((.slice Ao39 t229.length co39) : Value).ownBlock) (.slice Ao32 t224.length co32) t241) ∧ Aside0 (Kd.R k92 92 wc w.heap.size (fun k_ => some k_ ≠ ((.slice Ao25 t218.length co25) : Value).ownBlock ∧ some k_ ≠ ((.slice Ao32 t224.length co32) : Value).ownBlock) (.slice Ao39 t229.length co39) t229) ∧ Aside0 (wc.heap[gb211]? = some (.cells #[.int .i64 a0_0, (.slice A0_1 l0_1.length c0_1)] 24 (0, 0))) ∧ Aside0 (wc.heap[gb222]? = some (.cells #[.int .i64 t217, (.slice Ao25 t218.length co25)] 28 (0, 0))) ∧ Aside0 (wc.heap[gb227]? = some (.cells #[.int .i64 t223, (.slice Ao32 t224.length co32)] 28 (0, 0))) ∧ Aside0 (wc.heap[gb233]? = some (.cells #[.int .i64 t228, (.slice Ao39 t229.length co39)] 28 (0, 0))) ∧ Aside0 (Below w.heap.size w wc))
      case first =>
       have H := HC63.out
       clear HC63
       by_cases c73 : t240 < 0
       ·rw [if_pos c73] at H
        have c73b0 : decide (t240 < 0) = true := decide_eq_true c73
        clear c73
        (first | rw [c73b0] | (simp only [i64_w, i32_w]; rw [c73b0]) | skip)
        have H' := Aside0.mk H
        clear H
        go_wp2
        go_meet
        case rel => exact ⟨_, (true), (by first | rfl | (simp; done) | (simp [*]; done)), H', ⟨by have := HJ13.out; first | omega | exact Nat.le_refl _⟩, ⟨by (with_reducible repeat (first | apply Kd.R_alloc | apply Kd.R_drewN | apply Kd.R_drew)); exact Kd.R_mono HO_223001.out (fun _ hk => ⟨hk.1, hk.2.1⟩)⟩, ⟨by (with_reducible repeat (first | apply Kd.R_alloc | apply Kd.R_drewN | apply Kd.R_drew)); exact Kd.R_mono HO_228001.out (fun _ hk => ⟨hk.1.1, hk.1.2⟩)⟩, ⟨by (with_reducible repeat (first | apply Kd.R_alloc | apply Kd.R_drewN | apply Kd.R_drew)); exact Kd.R_mono HO_234001.out (fun _ hk => ⟨hk.1, hk.2.1⟩)⟩, ⟨by (with_reducible repeat (first | refine blk_drewN ?_ _ | refine blk_drew ?_ | refine blk_alloc ?_ _)); exact BK211.out⟩, ⟨by (with_reducible repeat (first | refine blk_drewN ?_ _ | refine blk_drew ?_ | refine blk_alloc ?_ _)); exact BK222.out⟩, ⟨by (with_reducible repeat (first | refine blk_drewN ?_ _ | refine blk_drew ?_ | refine blk_alloc ?_ _)); exact BK227.out⟩, ⟨by (with_reducible repeat (first | refine blk_drewN ?_ _ | refine blk_drew ?_ | refine blk_alloc ?_ _)); exact BK233.out⟩, ⟨by repeat (first | (with_reducible first | exact HB.out | apply bwA | apply bwN | apply bwD | refine below_set ?_ GE211.out | refine below_set ?_ GE222.out | refine below_set ?_ GE227.out | refine below_set ?_ GE233.out) | exact HB.out)⟩⟩
       ·rw [if_neg c73] at H
        have c73b0 : decide (t240 < 0) = false := decide_eq_false c73
        clear c73
        (first | rw [c73b0] | (simp only [i64_w, i32_w]; rw [c73b0]) | skip)
        replace H := Option.bind_eq_some_iff.mp H
        obtain ⟨t242, A740, H⟩ := H
        replace H : (if t242 = true then (laws_FnExactAddPick.j1 kj13 a1 a2 a3 t221 (t232 != t221) a0_0 l0_1 t217 t218 t228 t229) else (laws_FnExactAddPick.j1 kj13 a1 a2 a3 t221 true a0_0 l0_1 t217 t218 t228 t229)) = some r := H
        have A74 := Aside0.mk A740
        clear A740
        by_cases c75 : t242 = true
        ·subst c75
         have H1 : (laws_FnExactAddPick.j1 kj13 a1 a2 a3 t221 (t232 != t221) a0_0 l0_1 t217 t218 t228 t229) = some r := by rw [if_pos rfl] at H; exact H
         clear H
         have H := H1
         clear H1
         have H' := Aside0.mk H
         clear H
         have hnb76 := NB233_211.out
         have hnc76 := NB211_233.out
         have hnb77 := NB233_222.out
         have hnc77 := NB222_233.out
         have hnb78 := NB233_227.out
         have hnc78 := NB227_233.out
         have hcz79_0 : w72.cell? ⟨gb233, 0, none⟩ = some (.int .i64 t228) := (blk_cell BK233.out 0).trans rfl
         have hcz79_1 : w72.cell? ⟨gb233, 1, none⟩ = some (.slice Ao39 t229.length co39) := (blk_cell BK233.out 1).trans rfl
         have hfz79_0 := blk_frozen BK233.out 0
         have hfz79_1 := blk_frozen BK233.out 1
         have hnb80 := NB222_211.out
         have hnc80 := NB211_222.out
         have hnb81 := NB222_227.out
         have hnc81 := NB227_222.out
         have hcz82_0 : w72.cell? ⟨gb222, 0, none⟩ = some (.int .i64 t217) := (blk_cell BK222.out 0).trans rfl
         have hcz82_1 : w72.cell? ⟨gb222, 1, none⟩ = some (.slice Ao25 t218.length co25) := (blk_cell BK222.out 1).trans rfl
         have hfz82_0 := blk_frozen BK222.out 0
         have hfz82_1 := blk_frozen BK222.out 1
         go_wp2_with (first | (go_at_call 16; (with_reducible refine (laws_eqCircuit.calls kj13 t228 _ _ t229 t217 _ _ t218 true _ ?side1 ?side2 ?side3 ?side4 A74.out).mono ?_); (case side1 => repeat (first | exact (Kd.R_reads' HO_234001.out).2.2 | (with_reducible refine Kd.C_alloc ?_ _) | (with_reducible refine Kd.C_drewN ?_ _) | (with_reducible refine Kd.C_drew ?_))); (case side2 => exact (Kd.R_reads' HO_234001.out).2.1); (case side3 => repeat (first | exact (Kd.R_reads' HO_223001.out).2.2 | (with_reducible refine Kd.C_alloc ?_ _) | (with_reducible refine Kd.C_drewN ?_ _) | (with_reducible refine Kd.C_drew ?_))); (case side4 => exact (Kd.R_reads' HO_223001.out).2.1); rintro e w83 ⟨rfl, hb⟩; have n0_ := Aside0.mk (Kd.R_below (by (with_reducible repeat (first | apply Kd.R_alloc | apply Kd.R_drewN | apply Kd.R_drew)); exact HO_223001.out) hb); have n1_ := Aside0.mk (Kd.R_below (by (with_reducible repeat (first | apply Kd.R_alloc | apply Kd.R_drewN | apply Kd.R_drew)); exact HO_228001.out) hb); have n2_ := Aside0.mk (Kd.R_below (by (with_reducible repeat (first | apply Kd.R_alloc | apply Kd.R_drewN | apply Kd.R_drew)); exact HO_234001.out) hb); have n3_ := Aside0.mk (Kd.R_below (by (with_reducible repeat (first | apply Kd.R_alloc | apply Kd.R_drewN | apply Kd.R_drew)); exact HO238.out) hb); have n4_ := Aside0.mk (blk_below (g := gb211) (o := .cells #[.int .i64 a0_0, .slice A0_1 l0_1.length c0_1] 24 (0, 0)) (by (with_reducible repeat (first | refine blk_drewN ?_ _ | refine blk_drew ?_ | refine blk_alloc ?_ _)); exact BK211.out) hb); have n5_ := Aside0.mk (blk_below (g := gb222) (o := .cells #[.int .i64 t217, .slice Ao25 t218.length co25] 28 (0, 0)) (by (with_reducible repeat (first | refine blk_drewN ?_ _ | refine blk_drew ?_ | refine blk_alloc ?_ _)); exact BK222.out) hb); have n6_ := Aside0.mk (blk_below (g := gb227) (o := .cells #[.int .i64 t223, .slice Ao32 t224.length co32] 28 (0, 0)) (by (with_reducible repeat (first | refine blk_drewN ?_ _ | refine blk_drew ?_ | refine blk_alloc ?_ _)); exact BK227.out) hb); have n7_ := Aside0.mk (blk_below (g := gb233) (o := .cells #[.int .i64 t228, .slice Ao39 t229.length co39] 28 (0, 0)) (by (with_reducible repeat (first | refine blk_drewN ?_ _ | refine blk_drew ?_ | refine blk_alloc ?_ _)); exact BK233.out) hb); have n8_ := Aside0.mk (below_step (by repeat (first | (with_reducible first | exact HB.out | apply bwA | apply bwN | apply bwD | refine below_set ?_ GE211.out | refine below_set ?_ GE222.out | refine below_set ?_ GE227.out | refine below_set ?_ GE233.out) | exact HB.out)) hb); clear HO_223001; clear HO_228001; clear HO_234001; clear HO238; clear BK211; clear BK222; clear BK227; clear BK233; clear HB; have HO_223001 := n0_; have HO_228001 := n1_; have HO_234001 := n2_; have HO238 := n3_; have BK211 := n4_; have BK222 := n5_; have BK227 := n6_; have BK233 := n7_; have HB := n8_; clear n0_ n1_ n2_ n3_ n4_ n5_ n6_ n7_ n8_; (try clear hb); (try clear hb2); (try clear hk); (try clear hi)))
         go_meet
         case rel => exact ⟨_, ((t232 != t221)), (by first | rfl | (simp; done) | (simp [*]; done)), H', ⟨by have := HJ13.out; first | omega | exact Nat.le_refl _⟩, ⟨by (with_reducible repeat (first | apply Kd.R_alloc | apply Kd.R_drewN | apply Kd.R_drew)); exact Kd.R_mono HO_223001.out (fun _ hk => ⟨hk.1, hk.2.1⟩)⟩, ⟨by (with_reducible repeat (first | apply Kd.R_alloc | apply Kd.R_drewN | apply Kd.R_drew)); exact Kd.R_mono HO_228001.out (fun _ hk => ⟨hk.1.1, hk.1.2⟩)⟩, ⟨by (with_reducible repeat (first | apply Kd.R_alloc | apply Kd.R_drewN | apply Kd.R_drew)); exact Kd.R_mono HO_234001.out (fun _ hk => ⟨hk.1, hk.2.1⟩)⟩, ⟨by (with_reducible repeat (first | refine blk_drewN ?_ _ | refine blk_drew ?_ | refine blk_alloc ?_ _)); exact BK211.out⟩, ⟨by (with_reducible repeat (first | refine blk_drewN ?_ _ | refine blk_drew ?_ | refine blk_alloc ?_ _)); exact BK222.out⟩, ⟨by (with_reducible repeat (first | refine blk_drewN ?_ _ | refine blk_drew ?_ | refine blk_alloc ?_ _)); exact BK227.out⟩, ⟨by (with_reducible repeat (first | refine blk_drewN ?_ _ | refine blk_drew ?_ | refine blk_alloc ?_ _)); exact BK233.out⟩, ⟨by repeat (first | (with_reducible first | exact HB.out | apply bwA | apply bwN | apply bwD | refine below_set ?_ GE211.out | refine below_set ?_ GE222.out | refine below_set ?_ GE227.out | refine below_set ?_ GE233.out) | exact HB.out)⟩⟩
        ·replace c75 := Bool.eq_false_iff.mpr c75
         subst c75
         have H1 : (laws_FnExactAddPick.j1 kj13 a1 a2 a3 t221 true a0_0 l0_1 t217 t218 t228 t229) = some r := by rw [if_neg (show ¬ (false = true) by decide)] at H; exact H
         clear H
         have H := H1
         clear H1
         have H' := Aside0.mk H
         clear H
         have hnb84 := NB233_211.out
         have hnc84 := NB211_233.out
         have hnb85 := NB233_222.out
         have hnc85 := NB222_233.out
         have hnb86 := NB233_227.out
         have hnc86 := NB227_233.out
         have hcz87_0 : w72.cell? ⟨gb233, 0, none⟩ = some (.int .i64 t228) := (blk_cell BK233.out 0).trans rfl
         have hcz87_1 : w72.cell? ⟨gb233, 1, none⟩ = some (.slice Ao39 t229.length co39) := (blk_cell BK233.out 1).trans rfl
         have hfz87_0 := blk_frozen BK233.out 0
         have hfz87_1 := blk_frozen BK233.out 1
         have hnb88 := NB222_211.out
         have hnc88 := NB211_222.out
         have hnb89 := NB222_227.out
         have hnc89 := NB227_222.out
         have hcz90_0 : w72.cell? ⟨gb222, 0, none⟩ = some (.int .i64 t217) := (blk_cell BK222.out 0).trans rfl
         have hcz90_1 : w72.cell? ⟨gb222, 1, none⟩ = some (.slice Ao25 t218.length co25) := (blk_cell BK222.out 1).trans rfl
         have hfz90_0 := blk_frozen BK222.out 0
         have hfz90_1 := blk_frozen BK222.out 1
         go_wp2_with (first | (go_at_call 16; (with_reducible refine (laws_eqCircuit.calls kj13 t228 _ _ t229 t217 _ _ t218 false _ ?side1 ?side2 ?side3 ?side4 A74.out).mono ?_); (case side1 => repeat (first | exact (Kd.R_reads' HO_234001.out).2.2 | (with_reducible refine Kd.C_alloc ?_ _) | (with_reducible refine Kd.C_drewN ?_ _) | (with_reducible refine Kd.C_drew ?_))); (case side2 => exact (Kd.R_reads' HO_234001.out).2.1); (case side3 => repeat (first | exact (Kd.R_reads' HO_223001.out).2.2 | (with_reducible refine Kd.C_alloc ?_ _) | (with_reducible refine Kd.C_drewN ?_ _) | (with_reducible refine Kd.C_drew ?_))); (case side4 => exact (Kd.R_reads' HO_223001.out).2.1); rintro e w91 ⟨rfl, hb⟩; have n0_ := Aside0.mk (Kd.R_below (by (with_reducible repeat (first | apply Kd.R_alloc | apply Kd.R_drewN | apply Kd.R_drew)); exact HO_223001.out) hb); have n1_ := Aside0.mk (Kd.R_below (by (with_reducible repeat (first | apply Kd.R_alloc | apply Kd.R_drewN | apply Kd.R_drew)); exact HO_228001.out) hb); have n2_ := Aside0.mk (Kd.R_below (by (with_reducible repeat (first | apply Kd.R_alloc | apply Kd.R_drewN | apply Kd.R_drew)); exact HO_234001.out) hb); have n3_ := Aside0.mk (Kd.R_below (by (with_reducible repeat (first | apply Kd.R_alloc | apply Kd.R_drewN | apply Kd.R_drew)); exact HO238.out) hb); have n4_ := Aside0.mk (blk_below (g := gb211) (o := .cells #[.int .i64 a0_0, .slice A0_1 l0_1.length c0_1] 24 (0, 0)) (by (with_reducible repeat (first | refine blk_drewN ?_ _ | refine blk_drew ?_ | refine blk_alloc ?_ _)); exact BK211.out) hb); have n5_ := Aside0.mk (blk_below (g := gb222) (o := .cells #[.int .i64 t217, .slice Ao25 t218.length co25] 28 (0, 0)) (by (with_reducible repeat (first | refine blk_drewN ?_ _ | refine blk_drew ?_ | refine blk_alloc ?_ _)); exact BK222.out) hb); have n6_ := Aside0.mk (blk_below (g := gb227) (o := .cells #[.int .i64 t223, .slice Ao32 t224.length co32] 28 (0, 0)) (by (with_reducible repeat (first | refine blk_drewN ?_ _ | refine blk_drew ?_ | refine blk_alloc ?_ _)); exact BK227.out) hb); have n7_ := Aside0.mk (blk_below (g := gb233) (o := .cells #[.int .i64 t228, .slice Ao39 t229.length co39] 28 (0, 0)) (by (with_reducible repeat (first | refine blk_drewN ?_ _ | refine blk_drew ?_ | refine blk_alloc ?_ _)); exact BK233.out) hb); have n8_ := Aside0.mk (below_step (by repeat (first | (with_reducible first | exact HB.out | apply bwA | apply bwN | apply bwD | refine below_set ?_ GE211.out | refine below_set ?_ GE222.out | refine below_set ?_ GE227.out | refine below_set ?_ GE233.out) | exact HB.out)) hb); clear HO_223001; clear HO_228001; clear HO_234001; clear HO238; clear BK211; clear BK222; clear BK227; clear BK233; clear HB; have HO_223001 := n0_; have HO_228001 := n1_; have HO_234001 := n2_; have HO238 := n3_; have BK211 := n4_; have BK222 := n5_; have BK227 := n6_; have BK233 := n7_; have HB := n8_; clear n0_ n1_ n2_ n3_ n4_ n5_ n6_ n7_ n8_; (try clear hb); (try clear hb2); (try clear hk); (try clear hi)))
         go_meet
         case rel => exact ⟨_, (true), (by first | rfl | (simp; done) | (simp [*]; done)), H', ⟨by have := HJ13.out; first | omega | exact Nat.le_refl _⟩, ⟨by (with_reducible repeat (first | apply Kd.R_alloc | apply Kd.R_drewN | apply Kd.R_drew)); exact Kd.R_mono HO_223001.out (fun _ hk => ⟨hk.1, hk.2.1⟩)⟩, ⟨by (with_reducible repeat (first | apply Kd.R_alloc | apply Kd.R_drewN | apply Kd.R_drew)); exact Kd.R_mono HO_228001.out (fun _ hk => ⟨hk.1.1, hk.1.2⟩)⟩, ⟨by (with_reducible repeat (first | apply Kd.R_alloc | apply Kd.R_drewN | apply Kd.R_drew)); exact Kd.R_mono HO_234001.out (fun _ hk => ⟨hk.1, hk.2.1⟩)⟩, ⟨by (with_reducible repeat (first | refine blk_drewN ?_ _ | refine blk_drew ?_ | refine blk_alloc ?_ _)); exact BK211.out⟩, ⟨by (with_reducible repeat (first | refine blk_drewN ?_ _ | refine blk_drew ?_ | refine blk_alloc ?_ _)); exact BK222.out⟩, ⟨by (with_reducible repeat (first | refine blk_drewN ?_ _ | refine blk_drew ?_ | refine blk_alloc ?_ _)); exact BK227.out⟩, ⟨by (with_reducible repeat (first | refine blk_drewN ?_ _ | refine blk_drew ?_ | refine blk_alloc ?_ _)); exact BK233.out⟩, ⟨by repeat (first | (with_reducible first | exact HB.out | apply bwA | apply bwN | apply bwD | refine below_set ?_ GE211.out | refine below_set ?_ GE222.out | refine below_set ?_ GE227.out | refine below_set ?_ GE233.out) | exact HB.out)⟩⟩
      case rest =>
       clear HC63
       try clear c1
       try clear c2
       try clear p2
       try clear c3
       try clear c4
       try clear c5
       try clear c6
       try clear c6b0
       try clear c7
       try clear c8
       try clear c12
       try clear c13
       try clear c14
       try clear c15
       try clear c16
       try clear c17
       try clear c23
       try clear c29
       try clear c30
       try clear c35
       try clear c36
       try clear c37
       try clear c41
       try clear c42
       try clear c43
       try clear c44
       try clear c46
       try clear c47
       try clear c50
       try clear c51
       try clear c52
       try clear c54
       try clear c55
       try clear c58
       try clear c61
       try clear c68
       try clear c69
       try clear c70
       try clear c73
       try clear c73b0
       try clear c75
       try clear c76
       try clear c77
       try clear c78
       try clear c80
       try clear c81
       try clear c84
       try clear c85
       try clear c86
       try clear c88
       try clear c89
       try clear hcz16_0
       try clear hcz16_1
       try clear hcz18_0
       try clear hcz18_1
       try clear hcz24_0
       try clear hcz24_1
       try clear hcz26_0
       try clear hcz26_1
       try clear hcz31_0
       try clear hcz31_1
       try clear hcz38_0
       try clear hcz38_1
       try clear hcz45_0
       try clear hcz45_1
       try clear hcz48_0
       try clear hcz48_1
       try clear hcz53_0
       try clear hcz53_1
       try clear hcz56_0
       try clear hcz56_1
       try clear hcz71_0
       try clear hcz71_1
       try clear hcz79_0
       try clear hcz79_1
       try clear hcz82_0
       try clear hcz82_1
       try clear hcz87_0
       try clear hcz87_1
       try clear hcz8_0
       try clear hcz8_1
       try clear hcz90_0
       try clear hcz90_1
       try clear hfz16_0
       try clear hfz16_1
       try clear hfz18_0
       try clear hfz18_1
       try clear hfz24_0
       try clear hfz24_1
       try clear hfz26_0
       try clear hfz26_1
       try clear hfz31_0
       try clear hfz31_1
       try clear hfz38_0
       try clear hfz38_1
       try clear hfz45_0
       try clear hfz45_1
       try clear hfz48_0
       try clear hfz48_1
       try clear hfz53_0
       try clear hfz53_1
       try clear hfz56_0
       try clear hfz56_1
       try clear hfz71_0
       try clear hfz71_1
       try clear hfz79_0
       try clear hfz79_1
       try clear hfz82_0
       try clear hfz82_1
       try clear hfz87_0
       try clear hfz87_1
       try clear hfz8_0
       try clear hfz8_1
       try clear hfz90_0
       try clear hfz90_1
       try clear p2
       obtain ⟨kq, x73_62, rfl, HA, HJ62, HO_223001, HO_228001, HO_234001, BK211, BK222, BK227, BK233, HB⟩ := hcut
       have hl228001_62 := (Kd.R_reads' HO_228001.out).1
       rw [hl228001_62] at HO_228001
       (try simp only [hl228001_62])
       (try simp only [hl228001_62] at BK211)
       (try simp only [hl228001_62] at BK222)
       (try simp only [hl228001_62] at BK227)
       (try simp only [hl228001_62] at BK233)
       (try simp only [hl228001_62] at HO_223001)
       (try simp only [hl228001_62] at HO_234001)
       cases kq with
       | zero => exact absurd HA.out (by simp [laws_FnExactAddPick.j1])
       | succ kj62 =>
        have H := HA.out
        clear HA
        simp only [laws_FnExactAddPick.j1] at H
        by_cases c92 : x73_62 = true
        ·subst c92
         have H1 : (some false) = some r := by rw [if_pos rfl] at H; exact H
         clear H
         have H := H1
         clear H1
         obtain rfl := Option.some.inj H
         go_wp2
         go_ret
         exact ⟨by first | rfl | (simp [errW_none, errW_some] <;> rfl) | (simp [*, errW_none, errW_some] <;> rfl), by repeat (first | (with_reducible first | exact HB.out | apply bwA | apply bwN | apply bwD | refine below_set ?_ GE211.out | refine below_set ?_ GE222.out | refine below_set ?_ GE227.out | refine below_set ?_ GE233.out) | exact HB.out)⟩
        ·replace c92 := Bool.eq_false_iff.mpr c92
         subst c92
         have H1 : ((laws_markCircuit.f kj62 t228 t229 1).bind fun bt243 => ((laws_heldCircuit.f kj62 t228 bt243.2 1).bind fun t245 => (if t245 < 0 then (some false) else (if t245 = bt243.1 then ((laws_toCircuit.f kj62 a0_0 l0_1).bind fun bt246 => ((impl_AddPick.f kj62 bt246.1 bt246.2 a1 a2 a3).bind fun bt250 => ((laws_eqCircuit.f kj62 bt250.1 bt250.2.1 t217 t218).bind fun t256 => (if t256 = true then (laws_FnExactAddPick.j2 kj62 bt243.1 (bt250.2.2 != t221) t228 bt243.2) else (laws_FnExactAddPick.j2 kj62 bt243.1 true t228 bt243.2))))) else (some false))))) = some r := by rw [if_neg (show ¬ (false = true) by decide)] at H; exact H
         clear H
         have H := H1
         clear H1
         replace H := Option.bind_eq_some_iff.mp H
         obtain ⟨⟨t243, t244⟩, A930, H⟩ := H
         replace H : ((laws_heldCircuit.f kj62 t228 t244 1).bind fun t245 => (if t245 < 0 then (some false) else (if t245 = t243 then ((laws_toCircuit.f kj62 a0_0 l0_1).bind fun bt246 => ((impl_AddPick.f kj62 bt246.1 bt246.2 a1 a2 a3).bind fun bt250 => ((laws_eqCircuit.f kj62 bt250.1 bt250.2.1 t217 t218).bind fun t256 => (if t256 = true then (laws_FnExactAddPick.j2 kj62 t243 (bt250.2.2 != t221) t228 t244) else (laws_FnExactAddPick.j2 kj62 t243 true t228 t244))))) else (some false)))) = some r := H
         have A93 := Aside0.mk A930
         clear A930
         replace H := Option.bind_eq_some_iff.mp H
         obtain ⟨t245, A940, H⟩ := H
         replace H : (if t245 < 0 then (some false) else (if t245 = t243 then ((laws_toCircuit.f kj62 a0_0 l0_1).bind fun bt246 => ((impl_AddPick.f kj62 bt246.1 bt246.2 a1 a2 a3).bind fun bt250 => ((laws_eqCircuit.f kj62 bt250.1 bt250.2.1 t217 t218).bind fun t256 => (if t256 = true then (laws_FnExactAddPick.j2 kj62 t243 (bt250.2.2 != t221) t228 t244) else (laws_FnExactAddPick.j2 kj62 t243 true t228 t244))))) else (some false))) = some r := H
         have A94 := Aside0.mk A940
         clear A940
         by_cases c95 : t245 < 0
         ·rw [if_pos c95] at H
          have c95b0 : decide (t245 < 0) = true := decide_eq_true c95
          clear c95
          obtain rfl := Option.some.inj H
          have hnb96 := NB233_211.out
          have hnc96 := NB211_233.out
          have hnb97 := NB233_222.out
          have hnc97 := NB222_233.out
          have hnb98 := NB233_227.out
          have hnc98 := NB227_233.out
          have hcz99_0 : wc.cell? ⟨gb233, 0, none⟩ = some (.int .i64 t228) := (blk_cell BK233.out 0).trans rfl
          have hcz99_1 : wc.cell? ⟨gb233, 1, none⟩ = some (.slice Ao39 t229.length co39) := (blk_cell BK233.out 1).trans rfl
          have hfz99_0 := blk_frozen BK233.out 0
          have hfz99_1 := blk_frozen BK233.out 1
          go_wp2_with (first | ((with_reducible refine gate_callee (f := 17) rfl ?_); refine goesL_ (some 76) rfl rfl Try.func17 (by kernel_rfl) rfl #[.agg #[.int .i64 t228, .slice Ao39 t229.length co39], .int .i64 1] rfl (by (try simp only [List.map_toArray, List.map_cons, List.map_nil]); first | done | rfl | (simp only [List.length_drop, List.length_take]; rfl)) ?_; (with_reducible refine (laws_markCircuit.calls kj62 t228 (fun k_ => some k_ = (.slice Ao39 t229.length co39 : Value).ownBlock) (.slice Ao39 t229.length co39) t229 1 t243 t244 w _ ?side1 ?side2 A93.out).mono ?_); (case side1 => repeat (first | (with_reducible first | exact HB.out | apply bwA | apply bwN | apply bwD | refine below_set ?_ GE211.out | refine below_set ?_ GE222.out | refine below_set ?_ GE227.out | refine below_set ?_ GE233.out) | exact HB.out)); (case side2 => exact Kd.R_tight rfl HO_234001.out); rintro e w100 ⟨rfl, hy0, hb, hkp⟩; refine ⟨_, rfl, ?_⟩; have n0_ := Aside0.mk (Kd.R_mono (ok' := fun k_ => some k_ ≠ (.slice Ao32 t241.length co32 : Value).ownBlock ∧ some k_ ≠ (.slice Ao39 t229.length co39 : Value).ownBlock) (Kd.R_keptB (HO_223001.out) hkp (fun k_ hk_ hs_ => (hk_.2) hs_)) (fun k_ hk_ => ⟨hk_.1.1, hk_.1.2⟩)); have n1_ := Aside0.mk (Kd.R_mono (ok' := fun k_ => some k_ ≠ (.slice Ao25 t218.length co25 : Value).ownBlock ∧ some k_ ≠ (.slice Ao39 t229.length co39 : Value).ownBlock) (Kd.R_keptB (HO_228001.out) hkp (fun k_ hk_ hs_ => (hk_.2) hs_)) (fun k_ hk_ => ⟨hk_.1.1, hk_.1.2⟩)); have n2_ := Aside0.mk (Kd.R_reok rfl hy0 (fun k_ e_ => HO_234001.out.1 k_ e_)); have n3_ := Aside0.mk (blk_kept (by (with_reducible repeat (first | refine blk_drewN ?_ _ | refine blk_drew ?_ | refine blk_alloc ?_ _)); exact BK211.out) hkp (fun hs_ => (fun e_ => (Kd.R_ne HO_234001.out BK211.out (by decide)) e_) hs_)); have n4_ := Aside0.mk (blk_kept (by (with_reducible repeat (first | refine blk_drewN ?_ _ | refine blk_drew ?_ | refine blk_alloc ?_ _)); exact BK222.out) hkp (fun hs_ => (fun e_ => (Kd.R_ne HO_234001.out BK222.out (by decide)) e_) hs_)); have n5_ := Aside0.mk (blk_kept (by (with_reducible repeat (first | refine blk_drewN ?_ _ | refine blk_drew ?_ | refine blk_alloc ?_ _)); exact BK227.out) hkp (fun hs_ => (fun e_ => (Kd.R_ne HO_234001.out BK227.out (by decide)) e_) hs_)); have n6_ := Aside0.mk (blk_kept (by (with_reducible repeat (first | refine blk_drewN ?_ _ | refine blk_drew ?_ | refine blk_alloc ?_ _)); exact BK233.out) hkp (fun hs_ => (fun e_ => (Kd.R_ne HO_234001.out BK233.out (by decide)) e_) hs_)); have n7_ := Aside0.mk (hb); clear HO_223001; clear HO_228001; clear HO_234001; clear BK211; clear BK222; clear BK227; clear BK233; clear HB; have HO_223001 := n0_; have HO_228001 := n1_; have HO_234001 := n2_; have BK211 := n3_; have BK222 := n4_; have BK227 := n5_; have BK233 := n6_; have HB := n7_; clear n0_ n1_ n2_ n3_ n4_ n5_ n6_ n7_; (try clear hb); (try clear hkp); (try clear hy0); have hcz101_0 : w100.cell? ⟨gb233, 0, none⟩ = some (.int .i64 t228) := (blk_cell BK233.out 0).trans rfl; have hcz101_1 : w100.cell? ⟨gb233, 1, none⟩ = some (.slice Ao39 t229.length co39) := (blk_cell BK233.out 1).trans rfl; have hfz101_0 := blk_frozen BK233.out 0; have hfz101_1 := blk_frozen BK233.out 1) | ((with_reducible refine gate_callee (f := 18) rfl ?_); refine goesL_ (some 79) rfl rfl Try.func18 (by kernel_rfl) rfl #[.agg #[.int .i64 t228, .slice Ao39 t244.length co39], .int .i64 1] rfl (by (try simp only [List.map_toArray, List.map_cons, List.map_nil]); first | done | (rw [show t244.length = t229.length from (Kd.R_reads' HO_234001.out).1.symm] <;> rfl) | rfl | (simp only [List.length_drop, List.length_take]; rfl)) ?_; (with_reducible refine (laws_heldCircuit.calls kj62 t228 _ _ t244 1 t245 _ ?side1 ?side2 A94.out).mono ?_); (case side1 => repeat (first | exact (Kd.R_reads' HO_234001.out).2.2 | (with_reducible refine Kd.C_alloc ?_ _) | (with_reducible refine Kd.C_drewN ?_ _) | (with_reducible refine Kd.C_drew ?_))); (case side2 => rw [show t244.length = t229.length from (Kd.R_reads' HO_234001.out).1.symm]; exact (Kd.R_reads' HO_234001.out).2.1); rintro e w102 ⟨rfl, hb⟩; refine ⟨_, rfl, ?_⟩; have n0_ := Aside0.mk (Kd.R_below (by (with_reducible repeat (first | apply Kd.R_alloc | apply Kd.R_drewN | apply Kd.R_drew)); exact HO_223001.out) hb); have n1_ := Aside0.mk (Kd.R_below (by (with_reducible repeat (first | apply Kd.R_alloc | apply Kd.R_drewN | apply Kd.R_drew)); exact HO_228001.out) hb); have n2_ := Aside0.mk (Kd.R_below (by (with_reducible repeat (first | apply Kd.R_alloc | apply Kd.R_drewN | apply Kd.R_drew)); exact HO_234001.out) hb); have n3_ := Aside0.mk (blk_below (g := gb211) (o := .cells #[.int .i64 a0_0, .slice A0_1 l0_1.length c0_1] 24 (0, 0)) (by (with_reducible repeat (first | refine blk_drewN ?_ _ | refine blk_drew ?_ | refine blk_alloc ?_ _)); exact BK211.out) hb); have n4_ := Aside0.mk (blk_below (g := gb222) (o := .cells #[.int .i64 t217, .slice Ao25 t218.length co25] 28 (0, 0)) (by (with_reducible repeat (first | refine blk_drewN ?_ _ | refine blk_drew ?_ | refine blk_alloc ?_ _)); exact BK222.out) hb); have n5_ := Aside0.mk (blk_below (g := gb227) (o := .cells #[.int .i64 t223, .slice Ao32 t241.length co32] 28 (0, 0)) (by (with_reducible repeat (first | refine blk_drewN ?_ _ | refine blk_drew ?_ | refine blk_alloc ?_ _)); exact BK227.out) hb); have n6_ := Aside0.mk (blk_below (g := gb233) (o := .cells #[.int .i64 t228, .slice Ao39 t229.length co39] 28 (0, 0)) (by (with_reducible repeat (first | refine blk_drewN ?_ _ | refine blk_drew ?_ | refine blk_alloc ?_ _)); exact BK233.out) hb); have n7_ := Aside0.mk (below_step (by repeat (first | (with_reducible first | exact HB.out | apply bwA | apply bwN | apply bwD | refine below_set ?_ GE211.out | refine below_set ?_ GE222.out | refine below_set ?_ GE227.out | refine below_set ?_ GE233.out) | exact HB.out)) hb); clear HO_223001; clear HO_228001; clear HO_234001; clear BK211; clear BK222; clear BK227; clear BK233; clear HB; have HO_223001 := n0_; have HO_228001 := n1_; have HO_234001 := n2_; have BK211 := n3_; have BK222 := n4_; have BK227 := n5_; have BK233 := n6_; have HB := n7_; clear n0_ n1_ n2_ n3_ n4_ n5_ n6_ n7_; (try clear hb); (try clear hb2); (try clear hk); (try clear hi)))
          go_ret
          exact ⟨by first | rfl | (simp [errW_none, errW_some] <;> rfl) | (simp [*, errW_none, errW_some] <;> rfl), by repeat (first | (with_reducible first | exact HB.out | apply bwA | apply bwN | apply bwD | refine below_set ?_ GE211.out | refine below_set ?_ GE222.out | refine below_set ?_ GE227.out | refine below_set ?_ GE233.out) | exact HB.out)⟩
         ·rw [if_neg c95] at H
          have c95b0 : decide (t245 < 0) = false := decide_eq_false c95
          clear c95
          by_cases c103 : t245 = t243
          ·rw [if_pos c103] at H
           have c103b0 : (t245 == t243) = true := beq_iff_eq.mpr c103
           have c103b1 : (t245 != t243) = false := bne_eq_false_iff_eq.mpr c103
           clear c103
           replace H := Option.bind_eq_some_iff.mp H
           obtain ⟨⟨t246, t247⟩, A1040, H⟩ := H
           replace H : ((impl_AddPick.f kj62 t246 t247 a1 a2 a3).bind fun bt250 => ((laws_eqCircuit.f kj62 bt250.1 bt250.2.1 t217 t218).bind fun t256 => (if t256 = true then (laws_FnExactAddPick.j2 kj62 t243 (bt250.2.2 != t221) t228 t244) else (laws_FnExactAddPick.j2 kj62 t243 true t228 t244)))) = some r := H
           have A104 := Aside0.mk A1040
           clear A1040
           replace H := Option.bind_eq_some_iff.mp H
           obtain ⟨⟨t250, t251, t254⟩, A1050, H⟩ := H
           replace H : ((laws_eqCircuit.f kj62 t250 t251 t217 t218).bind fun t256 => (if t256 = true then (laws_FnExactAddPick.j2 kj62 t243 (t254 != t221) t228 t244) else (laws_FnExactAddPick.j2 kj62 t243 true t228 t244))) = some r := H
           have A105 := Aside0.mk A1050
           clear A1050
           have HC106 := Aside0.mk H
           clear H
           have hnb107 := NB233_211.out
           have hnc107 := NB211_233.out
           have hnb108 := NB233_222.out
           have hnc108 := NB222_233.out
           have hnb109 := NB233_227.out
           have hnc109 := NB227_233.out
           have hcz110_0 : wc.cell? ⟨gb233, 0, none⟩ = some (.int .i64 t228) := (blk_cell BK233.out 0).trans rfl
           have hcz110_1 : wc.cell? ⟨gb233, 1, none⟩ = some (.slice Ao39 t229.length co39) := (blk_cell BK233.out 1).trans rfl
           have hfz110_0 := blk_frozen BK233.out 0
           have hfz110_1 := blk_frozen BK233.out 1
           go_upto_region 25 with (first | ((with_reducible refine gate_callee (f := 17) rfl ?_); refine goesL_ (some 76) rfl rfl Try.func17 (by kernel_rfl) rfl #[.agg #[.int .i64 t228, .slice Ao39 t229.length co39], .int .i64 1] rfl (by (try simp only [List.map_toArray, List.map_cons, List.map_nil]); first | done | rfl | (simp only [List.length_drop, List.length_take]; rfl)) ?_; (with_reducible refine (laws_markCircuit.calls kj62 t228 (fun k_ => some k_ = (.slice Ao39 t229.length co39 : Value).ownBlock) (.slice Ao39 t229.length co39) t229 1 t243 t244 w _ ?side1 ?side2 A93.out).mono ?_); (case side1 => repeat (first | (with_reducible first | exact HB.out | apply bwA | apply bwN | apply bwD | refine below_set ?_ GE211.out | refine below_set ?_ GE222.out | refine below_set ?_ GE227.out | refine below_set ?_ GE233.out) | exact HB.out)); (case side2 => exact Kd.R_tight rfl HO_234001.out); rintro e w111 ⟨rfl, hy0, hb, hkp⟩; refine ⟨_, rfl, ?_⟩; have n0_ := Aside0.mk (Kd.R_mono (ok' := fun k_ => some k_ ≠ (.slice Ao32 t241.length co32 : Value).ownBlock ∧ some k_ ≠ (.slice Ao39 t229.length co39 : Value).ownBlock) (Kd.R_keptB (HO_223001.out) hkp (fun k_ hk_ hs_ => (hk_.2) hs_)) (fun k_ hk_ => ⟨hk_.1.1, hk_.1.2⟩)); have n1_ := Aside0.mk (Kd.R_mono (ok' := fun k_ => some k_ ≠ (.slice Ao25 t218.length co25 : Value).ownBlock ∧ some k_ ≠ (.slice Ao39 t229.length co39 : Value).ownBlock) (Kd.R_keptB (HO_228001.out) hkp (fun k_ hk_ hs_ => (hk_.2) hs_)) (fun k_ hk_ => ⟨hk_.1.1, hk_.1.2⟩)); have n2_ := Aside0.mk (Kd.R_reok rfl hy0 (fun k_ e_ => HO_234001.out.1 k_ e_)); have n3_ := Aside0.mk (blk_kept (by (with_reducible repeat (first | refine blk_drewN ?_ _ | refine blk_drew ?_ | refine blk_alloc ?_ _)); exact BK211.out) hkp (fun hs_ => (fun e_ => (Kd.R_ne HO_234001.out BK211.out (by decide)) e_) hs_)); have n4_ := Aside0.mk (blk_kept (by (with_reducible repeat (first | refine blk_drewN ?_ _ | refine blk_drew ?_ | refine blk_alloc ?_ _)); exact BK222.out) hkp (fun hs_ => (fun e_ => (Kd.R_ne HO_234001.out BK222.out (by decide)) e_) hs_)); have n5_ := Aside0.mk (blk_kept (by (with_reducible repeat (first | refine blk_drewN ?_ _ | refine blk_drew ?_ | refine blk_alloc ?_ _)); exact BK227.out) hkp (fun hs_ => (fun e_ => (Kd.R_ne HO_234001.out BK227.out (by decide)) e_) hs_)); have n6_ := Aside0.mk (blk_kept (by (with_reducible repeat (first | refine blk_drewN ?_ _ | refine blk_drew ?_ | refine blk_alloc ?_ _)); exact BK233.out) hkp (fun hs_ => (fun e_ => (Kd.R_ne HO_234001.out BK233.out (by decide)) e_) hs_)); have n7_ := Aside0.mk (hb); clear HO_223001; clear HO_228001; clear HO_234001; clear BK211; clear BK222; clear BK227; clear BK233; clear HB; have HO_223001 := n0_; have HO_228001 := n1_; have HO_234001 := n2_; have BK211 := n3_; have BK222 := n4_; have BK227 := n5_; have BK233 := n6_; have HB := n7_; clear n0_ n1_ n2_ n3_ n4_ n5_ n6_ n7_; (try clear hb); (try clear hkp); (try clear hy0); have hcz112_0 : w111.cell? ⟨gb233, 0, none⟩ = some (.int .i64 t228) := (blk_cell BK233.out 0).trans rfl; have hcz112_1 : w111.cell? ⟨gb233, 1, none⟩ = some (.slice Ao39 t229.length co39) := (blk_cell BK233.out 1).trans rfl; have hfz112_0 := blk_frozen BK233.out 0; have hfz112_1 := blk_frozen BK233.out 1) | ((with_reducible refine gate_callee (f := 18) rfl ?_); refine goesL_ (some 79) rfl rfl Try.func18 (by kernel_rfl) rfl #[.agg #[.int .i64 t228, .slice Ao39 t244.length co39], .int .i64 1] rfl (by (try simp only [List.map_toArray, List.map_cons, List.map_nil]); first | done | (rw [show t244.length = t229.length from (Kd.R_reads' HO_234001.out).1.symm] <;> rfl) | rfl | (simp only [List.length_drop, List.length_take]; rfl)) ?_; (with_reducible refine (laws_heldCircuit.calls kj62 t228 _ _ t244 1 t245 _ ?side1 ?side2 A94.out).mono ?_); (case side1 => repeat (first | exact (Kd.R_reads' HO_234001.out).2.2 | (with_reducible refine Kd.C_alloc ?_ _) | (with_reducible refine Kd.C_drewN ?_ _) | (with_reducible refine Kd.C_drew ?_))); (case side2 => rw [show t244.length = t229.length from (Kd.R_reads' HO_234001.out).1.symm]; exact (Kd.R_reads' HO_234001.out).2.1); rintro e w113 ⟨rfl, hb⟩; refine ⟨_, rfl, ?_⟩; have n0_ := Aside0.mk (Kd.R_below (by (with_reducible repeat (first | apply Kd.R_alloc | apply Kd.R_drewN | apply Kd.R_drew)); exact HO_223001.out) hb); have n1_ := Aside0.mk (Kd.R_below (by (with_reducible repeat (first | apply Kd.R_alloc | apply Kd.R_drewN | apply Kd.R_drew)); exact HO_228001.out) hb); have n2_ := Aside0.mk (Kd.R_below (by (with_reducible repeat (first | apply Kd.R_alloc | apply Kd.R_drewN | apply Kd.R_drew)); exact HO_234001.out) hb); have n3_ := Aside0.mk (blk_below (g := gb211) (o := .cells #[.int .i64 a0_0, .slice A0_1 l0_1.length c0_1] 24 (0, 0)) (by (with_reducible repeat (first | refine blk_drewN ?_ _ | refine blk_drew ?_ | refine blk_alloc ?_ _)); exact BK211.out) hb); have n4_ := Aside0.mk (blk_below (g := gb222) (o := .cells #[.int .i64 t217, .slice Ao25 t218.length co25] 28 (0, 0)) (by (with_reducible repeat (first | refine blk_drewN ?_ _ | refine blk_drew ?_ | refine blk_alloc ?_ _)); exact BK222.out) hb); have n5_ := Aside0.mk (blk_below (g := gb227) (o := .cells #[.int .i64 t223, .slice Ao32 t241.length co32] 28 (0, 0)) (by (with_reducible repeat (first | refine blk_drewN ?_ _ | refine blk_drew ?_ | refine blk_alloc ?_ _)); exact BK227.out) hb); have n6_ := Aside0.mk (blk_below (g := gb233) (o := .cells #[.int .i64 t228, .slice Ao39 t229.length co39] 28 (0, 0)) (by (with_reducible repeat (first | refine blk_drewN ?_ _ | refine blk_drew ?_ | refine blk_alloc ?_ _)); exact BK233.out) hb); have n7_ := Aside0.mk (below_step (by repeat (first | (with_reducible first | exact HB.out | apply bwA | apply bwN | apply bwD | refine below_set ?_ GE211.out | refine below_set ?_ GE222.out | refine below_set ?_ GE227.out | refine below_set ?_ GE233.out) | exact HB.out)) hb); clear HO_223001; clear HO_228001; clear HO_234001; clear BK211; clear BK222; clear BK227; clear BK233; clear HB; have HO_223001 := n0_; have HO_228001 := n1_; have HO_234001 := n2_; have BK211 := n3_; have BK222 := n4_; have BK227 := n5_; have BK233 := n6_; have HB := n7_; clear n0_ n1_ n2_ n3_ n4_ n5_ n6_ n7_; (try clear hb); (try clear hb2); (try clear hk); (try clear hi); have hnb114 := NB211_222.out; have hnc114 := NB222_211.out; have hnb115 := NB211_227.out; have hnc115 := NB227_211.out; have hcz116_0 : w113.cell? ⟨gb211, 0, none⟩ = some (.int .i64 a0_0) := (blk_cell BK211.out 0).trans rfl; have hcz116_1 : w113.cell? ⟨gb211, 1, none⟩ = some (.slice A0_1 l0_1.length c0_1) := (blk_cell BK211.out 1).trans rfl; have hfz116_0 := blk_frozen BK211.out 0; have hfz116_1 := blk_frozen BK211.out 1) | ((with_reducible refine gate_callee (f := 14) rfl ?_); refine goesL_ (some 87) rfl rfl Try.func14 (by kernel_rfl) rfl #[.agg #[.int .i64 a0_0, .slice A0_1 l0_1.length c0_1]] rfl (by (try simp only [List.map_toArray, List.map_cons, List.map_nil]); first | done | rfl | (simp only [List.length_drop, List.length_take]; rfl)) ?_; (with_reducible refine (laws_toCircuit.calls kj62 a0_0 _ _ l0_1 t246 t247 _ ?side1 ?side2 A104.out).mono ?_); (case side1 => repeat (first | exact (Kd.C_below HR0_1.out HB.out) | (with_reducible refine Kd.C_alloc ?_ _) | (with_reducible refine Kd.C_drewN ?_ _) | (with_reducible refine Kd.C_drew ?_))); (case side2 => exact HC0_1.out); rintro e w117 ⟨v248, rfl, ho0, hb⟩; refine ⟨_, rfl, ?_⟩; have n0_ := Aside0.mk (Kd.R_elder' (by (with_reducible repeat (first | apply Kd.R_alloc | apply Kd.R_drewN | apply Kd.R_drew)); exact HO_223001.out) (Kd.R_base ho0) hb); have n1_ := Aside0.mk (Kd.R_elder' (by (with_reducible repeat (first | apply Kd.R_alloc | apply Kd.R_drewN | apply Kd.R_drew)); exact HO_228001.out) (Kd.R_base ho0) hb); have n2_ := Aside0.mk (Kd.R_elder' (by (with_reducible repeat (first | apply Kd.R_alloc | apply Kd.R_drewN | apply Kd.R_drew)); exact HO_234001.out) (Kd.R_base ho0) hb); have n3_ := Aside0.mk (Kd.R_lower (Kd.R_new' (Kd.R_new' (Kd.R_new' ho0 (Kd.R_lt (by (with_reducible repeat (first | apply Kd.R_alloc | apply Kd.R_drewN | apply Kd.R_drew)); exact HO_223001.out))) (Kd.R_lt (by (with_reducible repeat (first | apply Kd.R_alloc | apply Kd.R_drewN | apply Kd.R_drew)); exact HO_228001.out))) (Kd.R_lt (by (with_reducible repeat (first | apply Kd.R_alloc | apply Kd.R_drewN | apply Kd.R_drew)); exact HO_234001.out))) (below_size (by repeat (first | (with_reducible first | exact HB.out | apply bwA | apply bwN | apply bwD | refine below_set ?_ GE211.out | refine below_set ?_ GE222.out | refine below_set ?_ GE227.out | refine below_set ?_ GE233.out) | exact HB.out)))); have n4_ := Aside0.mk (blk_below (g := gb211) (o := .cells #[.int .i64 a0_0, .slice A0_1 l0_1.length c0_1] 24 (0, 0)) (by (with_reducible repeat (first | refine blk_drewN ?_ _ | refine blk_drew ?_ | refine blk_alloc ?_ _)); exact BK211.out) hb); have n5_ := Aside0.mk (blk_below (g := gb222) (o := .cells #[.int .i64 t217, .slice Ao25 t218.length co25] 28 (0, 0)) (by (with_reducible repeat (first | refine blk_drewN ?_ _ | refine blk_drew ?_ | refine blk_alloc ?_ _)); exact BK222.out) hb); have n6_ := Aside0.mk (blk_below (g := gb227) (o := .cells #[.int .i64 t223, .slice Ao32 t241.length co32] 28 (0, 0)) (by (with_reducible repeat (first | refine blk_drewN ?_ _ | refine blk_drew ?_ | refine blk_alloc ?_ _)); exact BK227.out) hb); have n7_ := Aside0.mk (blk_below (g := gb233) (o := .cells #[.int .i64 t228, .slice Ao39 t229.length co39] 28 (0, 0)) (by (with_reducible repeat (first | refine blk_drewN ?_ _ | refine blk_drew ?_ | refine blk_alloc ?_ _)); exact BK233.out) hb); have n8_ := Aside0.mk (below_step (by repeat (first | (with_reducible first | exact HB.out | apply bwA | apply bwN | apply bwD | refine below_set ?_ GE211.out | refine below_set ?_ GE222.out | refine below_set ?_ GE227.out | refine below_set ?_ GE233.out) | exact HB.out)) hb); clear HO_223001; clear HO_228001; clear HO_234001; clear BK211; clear BK222; clear BK227; clear BK233; clear HB; have HO_223001 := n0_; have HO_228001 := n1_; have HO_234001 := n2_; have HO249 := n3_; have BK211 := n4_; have BK222 := n5_; have BK227 := n6_; have BK233 := n7_; have HB := n8_; clear n0_ n1_ n2_ n3_ n4_ n5_ n6_ n7_ n8_; (try clear hb); (try clear hb2); (try clear hk); (try clear hi); (try clear ho0); obtain ⟨Ao118, co118, eo118⟩ := Kd.R_slice HO249.out; subst eo118) | ((with_reducible refine gate_callee (f := 15) rfl ?_); refine goesL_ (some 91) rfl rfl Try.func15 (by kernel_rfl) rfl #[.agg #[.int .i64 t246, .slice Ao118 t247.length co118], .int .i64 a1, .int .i64 a2, .int .i64 a3] rfl (by (try simp only [List.map_toArray, List.map_cons, List.map_nil]); first | done | rfl | (simp only [List.length_drop, List.length_take]; rfl)) ?_; (with_reducible refine (impl_AddPick.calls kj62 t246 _ _ t247 a1 a2 a3 t250 t251 t254 _ ?side1 ?side2 A105.out).mono ?_); (case side1 => repeat (first | exact (Kd.R_reads' HO249.out).2.2 | (with_reducible refine Kd.C_alloc ?_ _) | (with_reducible refine Kd.C_drewN ?_ _) | (with_reducible refine Kd.C_drew ?_))); (case side2 => exact (Kd.R_reads' HO249.out).2.1); rintro e w119 ⟨v252, rfl, ho0, hb⟩; refine ⟨_, rfl, ?_⟩; have n0_ := Aside0.mk (Kd.R_elder' (by (with_reducible repeat (first | apply Kd.R_alloc | apply Kd.R_drewN | apply Kd.R_drew)); exact HO_223001.out) (Kd.R_base ho0) hb); have n1_ := Aside0.mk (Kd.R_elder' (by (with_reducible repeat (first | apply Kd.R_alloc | apply Kd.R_drewN | apply Kd.R_drew)); exact HO_228001.out) (Kd.R_base ho0) hb); have n2_ := Aside0.mk (Kd.R_elder' (by (with_reducible repeat (first | apply Kd.R_alloc | apply Kd.R_drewN | apply Kd.R_drew)); exact HO_234001.out) (Kd.R_base ho0) hb); have n3_ := Aside0.mk (Kd.R_elder' (by (with_reducible repeat (first | apply Kd.R_alloc | apply Kd.R_drewN | apply Kd.R_drew)); exact HO249.out) (Kd.R_base ho0) hb); have n4_ := Aside0.mk (Kd.R_lower (Kd.R_new' (Kd.R_new' (Kd.R_new' (Kd.R_new' ho0 (Kd.R_lt (by (with_reducible repeat (first | apply Kd.R_alloc | apply Kd.R_drewN | apply Kd.R_drew)); exact HO_223001.out))) (Kd.R_lt (by (with_reducible repeat (first | apply Kd.R_alloc | apply Kd.R_drewN | apply Kd.R_drew)); exact HO_228001.out))) (Kd.R_lt (by (with_reducible repeat (first | apply Kd.R_alloc | apply Kd.R_drewN | apply Kd.R_drew)); exact HO_234001.out))) (Kd.R_lt (by (with_reducible repeat (first | apply Kd.R_alloc | apply Kd.R_drewN | apply Kd.R_drew)); exact HO249.out))) (below_size (by repeat (first | (with_reducible first | exact HB.out | apply bwA | apply bwN | apply bwD | refine below_set ?_ GE211.out | refine below_set ?_ GE222.out | refine below_set ?_ GE227.out | refine below_set ?_ GE233.out) | exact HB.out)))); have n5_ := Aside0.mk (blk_below (g := gb211) (o := .cells #[.int .i64 a0_0, .slice A0_1 l0_1.length c0_1] 24 (0, 0)) (by (with_reducible repeat (first | refine blk_drewN ?_ _ | refine blk_drew ?_ | refine blk_alloc ?_ _)); exact BK211.out) hb); have n6_ := Aside0.mk (blk_below (g := gb222) (o := .cells #[.int .i64 t217, .slice Ao25 t218.length co25] 28 (0, 0)) (by (with_reducible repeat (first | refine blk_drewN ?_ _ | refine blk_drew ?_ | refine blk_alloc ?_ _)); exact BK222.out) hb); have n7_ := Aside0.mk (blk_below (g := gb227) (o := .cells #[.int .i64 t223, .slice Ao32 t241.length co32] 28 (0, 0)) (by (with_reducible repeat (first | refine blk_drewN ?_ _ | refine blk_drew ?_ | refine blk_alloc ?_ _)); exact BK227.out) hb); have n8_ := Aside0.mk (blk_below (g := gb233) (o := .cells #[.int .i64 t228, .slice Ao39 t229.length co39] 28 (0, 0)) (by (with_reducible repeat (first | refine blk_drewN ?_ _ | refine blk_drew ?_ | refine blk_alloc ?_ _)); exact BK233.out) hb); have n9_ := Aside0.mk (below_step (by repeat (first | (with_reducible first | exact HB.out | apply bwA | apply bwN | apply bwD | refine below_set ?_ GE211.out | refine below_set ?_ GE222.out | refine below_set ?_ GE227.out | refine below_set ?_ GE233.out) | exact HB.out)) hb); clear HO_223001; clear HO_228001; clear HO_234001; clear HO249; clear BK211; clear BK222; clear BK227; clear BK233; clear HB; have HO_223001 := n0_; have HO_228001 := n1_; have HO_234001 := n2_; have HO249 := n3_; have HO253 := n4_; have BK211 := n5_; have BK222 := n6_; have BK227 := n7_; have BK233 := n8_; have HB := n9_; clear n0_ n1_ n2_ n3_ n4_ n5_ n6_ n7_ n8_ n9_; (try clear hb); (try clear hb2); (try clear hk); (try clear hi); (try clear ho0)) | ((with_reducible refine gate_dst (N := 18) rfl ?_); refine box_event ?hg (N := 18) ?hd (cs := #[.int .i64 0, .slice none 0 0]) (t := 28) ?hr ?_; (case hd => rfl); (case hg => rfl); (case hr => first | (go_simp; done) | (go_simp; rfl)); intro gb255 hg w120 hbox hb; have n0_ := Aside0.mk (Kd.R_below (by (with_reducible repeat (first | apply Kd.R_alloc | apply Kd.R_drewN | apply Kd.R_drew)); exact HO_223001.out) hb); have n1_ := Aside0.mk (Kd.R_below (by (with_reducible repeat (first | apply Kd.R_alloc | apply Kd.R_drewN | apply Kd.R_drew)); exact HO_228001.out) hb); have n2_ := Aside0.mk (Kd.R_below (by (with_reducible repeat (first | apply Kd.R_alloc | apply Kd.R_drewN | apply Kd.R_drew)); exact HO_234001.out) hb); have n3_ := Aside0.mk (Kd.R_below (by (with_reducible repeat (first | apply Kd.R_alloc | apply Kd.R_drewN | apply Kd.R_drew)); exact HO249.out) hb); have n4_ := Aside0.mk (Kd.R_below (by (with_reducible repeat (first | apply Kd.R_alloc | apply Kd.R_drewN | apply Kd.R_drew)); exact HO253.out) hb); have n5_ := Aside0.mk (blk_below (g := gb211) (o := .cells #[.int .i64 a0_0, .slice A0_1 l0_1.length c0_1] 24 (0, 0)) (by (with_reducible repeat (first | refine blk_drewN ?_ _ | refine blk_drew ?_ | refine blk_alloc ?_ _)); exact BK211.out) hb); have n6_ := Aside0.mk (blk_below (g := gb222) (o := .cells #[.int .i64 t217, .slice Ao25 t218.length co25] 28 (0, 0)) (by (with_reducible repeat (first | refine blk_drewN ?_ _ | refine blk_drew ?_ | refine blk_alloc ?_ _)); exact BK222.out) hb); have n7_ := Aside0.mk (blk_below (g := gb227) (o := .cells #[.int .i64 t223, .slice Ao32 t241.length co32] 28 (0, 0)) (by (with_reducible repeat (first | refine blk_drewN ?_ _ | refine blk_drew ?_ | refine blk_alloc ?_ _)); exact BK227.out) hb); have n8_ := Aside0.mk (blk_below (g := gb233) (o := .cells #[.int .i64 t228, .slice Ao39 t229.length co39] 28 (0, 0)) (by (with_reducible repeat (first | refine blk_drewN ?_ _ | refine blk_drew ?_ | refine blk_alloc ?_ _)); exact BK233.out) hb); have n9_ := Aside0.mk (below_step (by repeat (first | (with_reducible first | exact HB.out | apply bwA | apply bwN | apply bwD | refine below_set ?_ GE211.out | refine below_set ?_ GE222.out | refine below_set ?_ GE227.out | refine below_set ?_ GE233.out) | exact HB.out)) hb); have n10_ := Aside0.mk (hbox); have n11_ := Aside0.mk ((by rw [hg]; exact (below_size (by repeat (first | (with_reducible first | exact HB.out | apply bwA | apply bwN | apply bwD | refine below_set ?_ GE211.out | refine below_set ?_ GE222.out | refine below_set ?_ GE227.out | refine below_set ?_ GE233.out) | exact HB.out))) : w.heap.size ≤ gb255)); have n12_ := Aside0.mk ((by rw [hg]; exact (below_size (by repeat (first | (with_reducible first | exact HB.out | apply bwA | apply bwN | apply bwD | refine below_set ?_ GE211.out | refine below_set ?_ GE222.out | refine below_set ?_ GE227.out | refine below_set ?_ GE233.out) | exact HB.out))) : w.heap.size ≤ gb255)); have n13_ := Aside0.mk ((by rw [hg]; exact Nat.ne_of_lt (blk_lt (g := gb211) (o := .cells #[.int .i64 a0_0, .slice A0_1 l0_1.length c0_1] 24 (0, 0)) (by (with_reducible repeat (first | refine blk_drewN ?_ _ | refine blk_drew ?_ | refine blk_alloc ?_ _)); exact BK211.out)) : gb211 ≠ gb255)); have n14_ := Aside0.mk ((by rw [hg]; exact Nat.ne_of_gt (blk_lt (g := gb211) (o := .cells #[.int .i64 a0_0, .slice A0_1 l0_1.length c0_1] 24 (0, 0)) (by (with_reducible repeat (first | refine blk_drewN ?_ _ | refine blk_drew ?_ | refine blk_alloc ?_ _)); exact BK211.out)) : gb255 ≠ gb211)); have n15_ := Aside0.mk ((by rw [hg]; exact Nat.ne_of_lt (blk_lt (g := gb222) (o := .cells #[.int .i64 t217, .slice Ao25 t218.length co25] 28 (0, 0)) (by (with_reducible repeat (first | refine blk_drewN ?_ _ | refine blk_drew ?_ | refine blk_alloc ?_ _)); exact BK222.out)) : gb222 ≠ gb255)); have n16_ := Aside0.mk ((by rw [hg]; exact Nat.ne_of_gt (blk_lt (g := gb222) (o := .cells #[.int .i64 t217, .slice Ao25 t218.length co25] 28 (0, 0)) (by (with_reducible repeat (first | refine blk_drewN ?_ _ | refine blk_drew ?_ | refine blk_alloc ?_ _)); exact BK222.out)) : gb255 ≠ gb222)); have n17_ := Aside0.mk ((by rw [hg]; exact Nat.ne_of_lt (blk_lt (g := gb227) (o := .cells #[.int .i64 t223, .slice Ao32 t241.length co32] 28 (0, 0)) (by (with_reducible repeat (first | refine blk_drewN ?_ _ | refine blk_drew ?_ | refine blk_alloc ?_ _)); exact BK227.out)) : gb227 ≠ gb255)); have n18_ := Aside0.mk ((by rw [hg]; exact Nat.ne_of_gt (blk_lt (g := gb227) (o := .cells #[.int .i64 t223, .slice Ao32 t241.length co32] 28 (0, 0)) (by (with_reducible repeat (first | refine blk_drewN ?_ _ | refine blk_drew ?_ | refine blk_alloc ?_ _)); exact BK227.out)) : gb255 ≠ gb227)); have n19_ := Aside0.mk ((by rw [hg]; exact Nat.ne_of_lt (blk_lt (g := gb233) (o := .cells #[.int .i64 t228, .slice Ao39 t229.length co39] 28 (0, 0)) (by (with_reducible repeat (first | refine blk_drewN ?_ _ | refine blk_drew ?_ | refine blk_alloc ?_ _)); exact BK233.out)) : gb233 ≠ gb255)); have n20_ := Aside0.mk ((by rw [hg]; exact Nat.ne_of_gt (blk_lt (g := gb233) (o := .cells #[.int .i64 t228, .slice Ao39 t229.length co39] 28 (0, 0)) (by (with_reducible repeat (first | refine blk_drewN ?_ _ | refine blk_drew ?_ | refine blk_alloc ?_ _)); exact BK233.out)) : gb255 ≠ gb233)); clear HO_223001; clear HO_228001; clear HO_234001; clear HO249; clear HO253; clear BK211; clear BK222; clear BK227; clear BK233; clear HB; have HO_223001 := n0_; have HO_228001 := n1_; have HO_234001 := n2_; have HO249 := n3_; have HO253 := n4_; have BK211 := n5_; have BK222 := n6_; have BK227 := n7_; have BK233 := n8_; have HB := n9_; have BK255 := n10_; have GW255 := n11_; have GE255 := n12_; have NB211_255 := n13_; have NB255_211 := n14_; have NB222_255 := n15_; have NB255_222 := n16_; have NB227_255 := n17_; have NB255_227 := n18_; have NB233_255 := n19_; have NB255_233 := n20_; clear n0_ n1_ n2_ n3_ n4_ n5_ n6_ n7_ n8_ n9_ n10_ n11_ n12_ n13_ n14_ n15_ n16_ n17_ n18_ n19_ n20_; clear hb hbox hg; have hnb121 := NB255_211.out; have hnc121 := NB211_255.out; have hnb122 := NB255_222.out; have hnc122 := NB222_255.out; have hnb123 := NB255_227.out; have hnc123 := NB227_255.out; have hnb124 := NB255_233.out; have hnc124 := NB233_255.out; have hcz125_0 : w120.cell? ⟨gb255, 0, none⟩ = some (.int .i64 0) := (blk_cell BK255.out 0).trans rfl; have hcz125_1 : w120.cell? ⟨gb255, 1, none⟩ = some (.slice none 0 0) := (blk_cell BK255.out 1).trans rfl; have hfz125_0 := blk_frozen BK255.out 0; have hfz125_1 := blk_frozen BK255.out 1; obtain ⟨Ao126, co126, eo126⟩ := Kd.R_slice HO253.out; subst eo126))
           (try simp only [Act.put, List.setIfInBounds_toArray, List.set_cons_zero, List.set_cons_succ])
           go_cut [102] (fun v102 wc => ∃ (kq : Nat) (x102_105 : Bool), v102 = .bool x102_105 ∧ Aside0 (laws_FnExactAddPick.j2 kq t243 x102_105 t228 t244 = some r) ∧ Aside0 (kq ≤ kj62) ∧ Aside0 (Kd.R k92 92 wc w.heap.size (fun k_ => some k_ ≠ ((.slice Ao32 t241.length co32) : Value).ownBlock ∧ some k_ ≠ ((.slice Ao39 t229.length co39) : Value).ownBlock ∧ some k_ ≠ ((.slice Ao126 t251.length co126) : Value).ownBlock) (.slice Ao25 t218.length co25) t218) ∧ Aside0 (Kd.R k92 92 wc w.heap.size (fun k_ => some k_ ≠ ((.slice Ao25 t218.length co25) : Value).ownBlock ∧ some k_ ≠ ((.slice Ao39 t229.length co39) : Value).ownBlock ∧ some k_ ≠ ((.slice Ao126 t251.length co126) : Value).ownBlock) (.slice Ao32 t241.length co32) t241) ∧ Aside0 (Kd.R k92 92 wc w.heap.size (fun k_ => some k_ ≠ ((.slice Ao25 t218.length co25) : Value).ownBlock ∧ some k_ ≠ ((.slice Ao32 t241.length co32) : Value).ownBlock ∧ some k_ ≠ ((.slice Ao126 t251.length co126) : Value).ownBlock) (.slice Ao39 t229.length co39) t244) ∧ Aside0 (Kd.R k92 92 wc w.heap.size (fun k_ => some k_ ≠ ((.slice Ao25 t218.length co25) : Value).ownBlock ∧ some k_ ≠ ((.slice Ao32 t241.length co32) : Value).ownBlock ∧ some k_ ≠ ((.slice Ao39 t229.length co39) : Value).ownBlock) (.slice Ao126 t251.length co126) t251) ∧ Aside0 (wc.heap[gb211]? = some (.cells #[.int .i64 a0_0, (.slice A0_1 l0_1.length c0_1)] 24 (0, 0))) ∧ Aside0 (wc.heap[gb222]? = some (.cells #[.int .i64 t217, (.slice Ao25 t218.length co25)] 28 (0, 0))) ∧ Aside0 (wc.heap[gb227]? = some (.cells #[.int .i64 t223, (.slice Ao32 t241.length co32)] 28 (0, 0))) ∧ Aside0 (wc.heap[gb233]? = some (.cells #[.int .i64 t228, (.slice Ao39 t229.length co39)] 28 (0, 0))) ∧ Aside0 (wc.heap[gb255]? = some (.cells #[.int .i64 t250, (.slice Ao126 t251.length co126)] 28 (0, 0))) ∧ Aside0 (Below w.heap.size w wc))
           case first =>
            have H := HC106.out
            clear HC106
            replace H := Option.bind_eq_some_iff.mp H
            obtain ⟨t256, A1270, H⟩ := H
            replace H : (if t256 = true then (laws_FnExactAddPick.j2 kj62 t243 (t254 != t221) t228 t244) else (laws_FnExactAddPick.j2 kj62 t243 true t228 t244)) = some r := H
            have A127 := Aside0.mk A1270
            clear A1270
            by_cases c128 : t256 = true
            ·subst c128
             have H1 : (laws_FnExactAddPick.j2 kj62 t243 (t254 != t221) t228 t244) = some r := by rw [if_pos rfl] at H; exact H
             clear H
             have H := H1
             clear H1
             have H' := Aside0.mk H
             clear H
             have hnb129 := NB255_211.out
             have hnc129 := NB211_255.out
             have hnb130 := NB255_222.out
             have hnc130 := NB222_255.out
             have hnb131 := NB255_227.out
             have hnc131 := NB227_255.out
             have hnb132 := NB255_233.out
             have hnc132 := NB233_255.out
             have hcz133_0 : w120.cell? ⟨gb255, 0, none⟩ = some (.int .i64 0) := (blk_cell BK255.out 0).trans rfl
             have hcz133_1 : w120.cell? ⟨gb255, 1, none⟩ = some (.slice none 0 0) := (blk_cell BK255.out 1).trans rfl
             have hfz133_0 := blk_frozen BK255.out 0
             have hfz133_1 := blk_frozen BK255.out 1
             have hnb134 := NB222_211.out
             have hnc134 := NB211_222.out
             have hnb135 := NB222_227.out
             have hnc135 := NB227_222.out
             have hnb136 := NB222_233.out
             have hnc136 := NB233_222.out
             have hcz137_0 : w120.cell? ⟨gb222, 0, none⟩ = some (.int .i64 t217) := (blk_cell BK222.out 0).trans rfl
             have hcz137_1 : w120.cell? ⟨gb222, 1, none⟩ = some (.slice Ao25 t218.length co25) := (blk_cell BK222.out 1).trans rfl
             have hfz137_0 := blk_frozen BK222.out 0
             have hfz137_1 := blk_frozen BK222.out 1
             go_wp2_with (first | ((with_reducible refine gate_callee (f := 16) rfl ?_); refine goesL_ (some 96) rfl rfl Try.func16 (by kernel_rfl) rfl #[.agg #[.int .i64 t250, .slice Ao126 t251.length co126], .agg #[.int .i64 t217, .slice Ao25 t218.length co25]] rfl (by (try simp only [List.map_toArray, List.map_cons, List.map_nil]); first | done | rfl | (simp only [List.length_drop, List.length_take]; rfl)) ?_; (with_reducible refine (laws_eqCircuit.calls kj62 t250 _ _ t251 t217 _ _ t218 true _ ?side1 ?side2 ?side3 ?side4 A127.out).mono ?_); (case side1 => refine (Kd.R_reads' (e := 92) (base := w.heap.size) (ok := fun k_ => ((((True ∧ some k_ ≠ (.slice Ao25 t218.length co25 : Value).ownBlock) ∧ some k_ ≠ (.slice Ao32 t241.length co32 : Value).ownBlock) ∧ some k_ ≠ (.slice Ao39 t229.length co39 : Value).ownBlock) ∧ some k_ ≠ (.slice Ao118 t247.length co118 : Value).ownBlock)) (n := t251.length) (c := co126) ?_).2.2; exact (by (with_reducible repeat (first | apply Kd.R_alloc | apply Kd.R_drewN | apply Kd.R_drew)); exact (Kd.R_mono (Kd.R_far (p := ⟨gb255, 1, none⟩) (Kd.R_far (p := ⟨gb255, 0, none⟩) (Kd.R_types HO253.out BK255.out (by decide)) (fun _ hk => hk.2) (.int .i64 t250)) (fun _ hk => hk.2) (.slice Ao126 t251.length co126)) (fun _ h_ => h_.1)))); (case side2 => exact (Kd.R_reads' HO253.out).2.1); (case side3 => refine (Kd.R_reads' (e := 92) (base := w.heap.size) (ok := fun k_ => (((some k_ ≠ (.slice Ao32 t241.length co32 : Value).ownBlock ∧ some k_ ≠ (.slice Ao39 t229.length co39 : Value).ownBlock) ∧ some k_ ≠ (.slice Ao118 t247.length co118 : Value).ownBlock) ∧ some k_ ≠ (.slice Ao126 t251.length co126 : Value).ownBlock)) (n := t218.length) (c := co25) ?_).2.2; exact (by (with_reducible repeat (first | apply Kd.R_alloc | apply Kd.R_drewN | apply Kd.R_drew)); exact (Kd.R_mono (Kd.R_far (p := ⟨gb255, 1, none⟩) (Kd.R_far (p := ⟨gb255, 0, none⟩) (Kd.R_types HO_223001.out BK255.out (by decide)) (fun _ hk => hk.2) (.int .i64 t250)) (fun _ hk => hk.2) (.slice Ao126 t251.length co126)) (fun _ h_ => h_.1)))); (case side4 => exact (Kd.R_reads' HO_223001.out).2.1); rintro e w138 ⟨rfl, hb⟩; refine ⟨_, rfl, ?_⟩; have n0_ := Aside0.mk (Kd.R_below (by (with_reducible repeat (first | apply Kd.R_alloc | apply Kd.R_drewN | apply Kd.R_drew)); exact (Kd.R_mono (Kd.R_far (p := ⟨gb255, 1, none⟩) (Kd.R_far (p := ⟨gb255, 0, none⟩) (Kd.R_types HO_223001.out BK255.out (by decide)) (fun _ hk => hk.2) (.int .i64 t250)) (fun _ hk => hk.2) (.slice Ao126 t251.length co126)) (fun _ h_ => h_.1))) hb); have n1_ := Aside0.mk (Kd.R_below (by (with_reducible repeat (first | apply Kd.R_alloc | apply Kd.R_drewN | apply Kd.R_drew)); exact (Kd.R_mono (Kd.R_far (p := ⟨gb255, 1, none⟩) (Kd.R_far (p := ⟨gb255, 0, none⟩) (Kd.R_types HO_228001.out BK255.out (by decide)) (fun _ hk => hk.2) (.int .i64 t250)) (fun _ hk => hk.2) (.slice Ao126 t251.length co126)) (fun _ h_ => h_.1))) hb); have n2_ := Aside0.mk (Kd.R_below (by (with_reducible repeat (first | apply Kd.R_alloc | apply Kd.R_drewN | apply Kd.R_drew)); exact (Kd.R_mono (Kd.R_far (p := ⟨gb255, 1, none⟩) (Kd.R_far (p := ⟨gb255, 0, none⟩) (Kd.R_types HO_234001.out BK255.out (by decide)) (fun _ hk => hk.2) (.int .i64 t250)) (fun _ hk => hk.2) (.slice Ao126 t251.length co126)) (fun _ h_ => h_.1))) hb); have n3_ := Aside0.mk (Kd.R_below (by (with_reducible repeat (first | apply Kd.R_alloc | apply Kd.R_drewN | apply Kd.R_drew)); exact (Kd.R_mono (Kd.R_far (p := ⟨gb255, 1, none⟩) (Kd.R_far (p := ⟨gb255, 0, none⟩) (Kd.R_types HO249.out BK255.out (by decide)) (fun _ hk => hk.2) (.int .i64 t250)) (fun _ hk => hk.2) (.slice Ao126 t251.length co126)) (fun _ h_ => h_.1))) hb); have n4_ := Aside0.mk (Kd.R_below (by (with_reducible repeat (first | apply Kd.R_alloc | apply Kd.R_drewN | apply Kd.R_drew)); exact (Kd.R_mono (Kd.R_far (p := ⟨gb255, 1, none⟩) (Kd.R_far (p := ⟨gb255, 0, none⟩) (Kd.R_types HO253.out BK255.out (by decide)) (fun _ hk => hk.2) (.int .i64 t250)) (fun _ hk => hk.2) (.slice Ao126 t251.length co126)) (fun _ h_ => h_.1))) hb); have n5_ := Aside0.mk (blk_below (g := gb211) (o := .cells #[.int .i64 a0_0, .slice A0_1 l0_1.length c0_1] 24 (0, 0)) (by (with_reducible repeat (first | refine blk_drewN ?_ _ | refine blk_drew ?_ | refine blk_alloc ?_ _)); refine blk_far ?_ NB211_255.out _; (with_reducible repeat (first | refine blk_drewN ?_ _ | refine blk_drew ?_ | refine blk_alloc ?_ _)); refine blk_far ?_ NB211_255.out _; (with_reducible repeat (first | refine blk_drewN ?_ _ | refine blk_drew ?_ | refine blk_alloc ?_ _)); exact BK211.out) hb); have n6_ := Aside0.mk (blk_below (g := gb222) (o := .cells #[.int .i64 t217, .slice Ao25 t218.length co25] 28 (0, 0)) (by (with_reducible repeat (first | refine blk_drewN ?_ _ | refine blk_drew ?_ | refine blk_alloc ?_ _)); refine blk_far ?_ NB222_255.out _; (with_reducible repeat (first | refine blk_drewN ?_ _ | refine blk_drew ?_ | refine blk_alloc ?_ _)); refine blk_far ?_ NB222_255.out _; (with_reducible repeat (first | refine blk_drewN ?_ _ | refine blk_drew ?_ | refine blk_alloc ?_ _)); exact BK222.out) hb); have n7_ := Aside0.mk (blk_below (g := gb227) (o := .cells #[.int .i64 t223, .slice Ao32 t241.length co32] 28 (0, 0)) (by (with_reducible repeat (first | refine blk_drewN ?_ _ | refine blk_drew ?_ | refine blk_alloc ?_ _)); refine blk_far ?_ NB227_255.out _; (with_reducible repeat (first | refine blk_drewN ?_ _ | refine blk_drew ?_ | refine blk_alloc ?_ _)); refine blk_far ?_ NB227_255.out _; (with_reducible repeat (first | refine blk_drewN ?_ _ | refine blk_drew ?_ | refine blk_alloc ?_ _)); exact BK227.out) hb); have n8_ := Aside0.mk (blk_below (g := gb233) (o := .cells #[.int .i64 t228, .slice Ao39 t229.length co39] 28 (0, 0)) (by (with_reducible repeat (first | refine blk_drewN ?_ _ | refine blk_drew ?_ | refine blk_alloc ?_ _)); refine blk_far ?_ NB233_255.out _; (with_reducible repeat (first | refine blk_drewN ?_ _ | refine blk_drew ?_ | refine blk_alloc ?_ _)); refine blk_far ?_ NB233_255.out _; (with_reducible repeat (first | refine blk_drewN ?_ _ | refine blk_drew ?_ | refine blk_alloc ?_ _)); exact BK233.out) hb); have n9_ := Aside0.mk (blk_below (g := gb255) (o := .cells #[.int .i64 t250, .slice Ao126 t251.length co126] 28 (0, 0)) (by (with_reducible repeat (first | refine blk_drewN ?_ _ | refine blk_drew ?_ | refine blk_alloc ?_ _)); refine blk_put (cs := #[.int .i64 t250, .slice none 0 0]) ?_ 1 _ rfl; (with_reducible repeat (first | refine blk_drewN ?_ _ | refine blk_drew ?_ | refine blk_alloc ?_ _)); refine blk_put (cs := #[.int .i64 0, .slice none 0 0]) ?_ 0 _ rfl; (with_reducible repeat (first | refine blk_drewN ?_ _ | refine blk_drew ?_ | refine blk_alloc ?_ _)); exact BK255.out) hb); have n10_ := Aside0.mk (below_step (by repeat (first | (with_reducible first | exact HB.out | apply bwA | apply bwN | apply bwD | refine below_set ?_ GE211.out | refine below_set ?_ GE222.out | refine below_set ?_ GE227.out | refine below_set ?_ GE233.out | refine below_set ?_ GE255.out) | exact HB.out)) hb); clear HO_223001; clear HO_228001; clear HO_234001; clear HO249; clear HO253; clear BK211; clear BK222; clear BK227; clear BK233; clear BK255; clear HB; have HO_223001 := n0_; have HO_228001 := n1_; have HO_234001 := n2_; have HO249 := n3_; have HO253 := n4_; have BK211 := n5_; have BK222 := n6_; have BK227 := n7_; have BK233 := n8_; have BK255 := n9_; have HB := n10_; clear n0_ n1_ n2_ n3_ n4_ n5_ n6_ n7_ n8_ n9_ n10_; (try clear hb); (try clear hb2); (try clear hk); (try clear hi)))
             go_meet
             case rel => exact ⟨_, ((t254 != t221)), (by first | rfl | (simp; done) | (simp [*]; done)), H', ⟨by have := HJ13.out; have := HJ62.out; first | omega | exact Nat.le_refl _⟩, ⟨by (try simp only [hl228001_62]); (with_reducible repeat (first | apply Kd.R_alloc | apply Kd.R_drewN | apply Kd.R_drew)); exact Kd.R_mono HO_223001.out (fun _ hk => ⟨hk.1.1.1, ⟨hk.1.1.2, hk.2⟩⟩)⟩, ⟨by (try simp only [hl228001_62]); (with_reducible repeat (first | apply Kd.R_alloc | apply Kd.R_drewN | apply Kd.R_drew)); exact Kd.R_mono HO_228001.out (fun _ hk => ⟨hk.1.1.1, ⟨hk.1.1.2, hk.2⟩⟩)⟩, ⟨by (try simp only [hl228001_62]); (with_reducible repeat (first | apply Kd.R_alloc | apply Kd.R_drewN | apply Kd.R_drew)); exact Kd.R_mono HO_234001.out (fun _ hk => ⟨hk.1.1.1, ⟨hk.1.1.2, hk.2⟩⟩)⟩, ⟨by (try simp only [hl228001_62]); (with_reducible repeat (first | apply Kd.R_alloc | apply Kd.R_drewN | apply Kd.R_drew)); exact Kd.R_mono HO253.out (fun _ hk => ⟨hk.1.1.1.2, ⟨hk.1.1.2, hk.1.2⟩⟩)⟩, ⟨by (try simp only [hl228001_62]); (with_reducible repeat (first | refine blk_drewN ?_ _ | refine blk_drew ?_ | refine blk_alloc ?_ _)); exact BK211.out⟩, ⟨by (try simp only [hl228001_62]); (with_reducible repeat (first | refine blk_drewN ?_ _ | refine blk_drew ?_ | refine blk_alloc ?_ _)); exact BK222.out⟩, ⟨by (try simp only [hl228001_62]); (with_reducible repeat (first | refine blk_drewN ?_ _ | refine blk_drew ?_ | refine blk_alloc ?_ _)); exact BK227.out⟩, ⟨by (try simp only [hl228001_62]); (with_reducible repeat (first | refine blk_drewN ?_ _ | refine blk_drew ?_ | refine blk_alloc ?_ _)); exact BK233.out⟩, ⟨by (try simp only [hl228001_62]); (with_reducible repeat (first | refine blk_drewN ?_ _ | refine blk_drew ?_ | refine blk_alloc ?_ _)); exact BK255.out⟩, ⟨by repeat (first | (with_reducible first | exact HB.out | apply bwA | apply bwN | apply bwD | refine below_set ?_ GE211.out | refine below_set ?_ GE222.out | refine below_set ?_ GE227.out | refine below_set ?_ GE233.out | refine below_set ?_ GE255.out) | exact HB.out)⟩⟩
            ·replace c128 := Bool.eq_false_iff.mpr c128
             subst c128
             have H1 : (laws_FnExactAddPick.j2 kj62 t243 true t228 t244) = some r := by rw [if_neg (show ¬ (false = true) by decide)] at H; exact H
             clear H
             have H := H1
             clear H1
             have H' := Aside0.mk H
             clear H
             have hnb139 := NB255_211.out
             have hnc139 := NB211_255.out
             have hnb140 := NB255_222.out
             have hnc140 := NB222_255.out
             have hnb141 := NB255_227.out
             have hnc141 := NB227_255.out
             have hnb142 := NB255_233.out
             have hnc142 := NB233_255.out
             have hcz143_0 : w120.cell? ⟨gb255, 0, none⟩ = some (.int .i64 0) := (blk_cell BK255.out 0).trans rfl
             have hcz143_1 : w120.cell? ⟨gb255, 1, none⟩ = some (.slice none 0 0) := (blk_cell BK255.out 1).trans rfl
             have hfz143_0 := blk_frozen BK255.out 0
             have hfz143_1 := blk_frozen BK255.out 1
             have hnb144 := NB222_211.out
             have hnc144 := NB211_222.out
             have hnb145 := NB222_227.out
             have hnc145 := NB227_222.out
             have hnb146 := NB222_233.out
             have hnc146 := NB233_222.out
             have hcz147_0 : w120.cell? ⟨gb222, 0, none⟩ = some (.int .i64 t217) := (blk_cell BK222.out 0).trans rfl
             have hcz147_1 : w120.cell? ⟨gb222, 1, none⟩ = some (.slice Ao25 t218.length co25) := (blk_cell BK222.out 1).trans rfl
             have hfz147_0 := blk_frozen BK222.out 0
             have hfz147_1 := blk_frozen BK222.out 1
             go_wp2_with (first | ((with_reducible refine gate_callee (f := 16) rfl ?_); refine goesL_ (some 96) rfl rfl Try.func16 (by kernel_rfl) rfl #[.agg #[.int .i64 t250, .slice Ao126 t251.length co126], .agg #[.int .i64 t217, .slice Ao25 t218.length co25]] rfl (by (try simp only [List.map_toArray, List.map_cons, List.map_nil]); first | done | rfl | (simp only [List.length_drop, List.length_take]; rfl)) ?_; (with_reducible refine (laws_eqCircuit.calls kj62 t250 _ _ t251 t217 _ _ t218 false _ ?side1 ?side2 ?side3 ?side4 A127.out).mono ?_); (case side1 => refine (Kd.R_reads' (e := 92) (base := w.heap.size) (ok := fun k_ => ((((True ∧ some k_ ≠ (.slice Ao25 t218.length co25 : Value).ownBlock) ∧ some k_ ≠ (.slice Ao32 t241.length co32 : Value).ownBlock) ∧ some k_ ≠ (.slice Ao39 t229.length co39 : Value).ownBlock) ∧ some k_ ≠ (.slice Ao118 t247.length co118 : Value).ownBlock)) (n := t251.length) (c := co126) ?_).2.2; exact (by (with_reducible repeat (first | apply Kd.R_alloc | apply Kd.R_drewN | apply Kd.R_drew)); exact (Kd.R_mono (Kd.R_far (p := ⟨gb255, 1, none⟩) (Kd.R_far (p := ⟨gb255, 0, none⟩) (Kd.R_types HO253.out BK255.out (by decide)) (fun _ hk => hk.2) (.int .i64 t250)) (fun _ hk => hk.2) (.slice Ao126 t251.length co126)) (fun _ h_ => h_.1)))); (case side2 => exact (Kd.R_reads' HO253.out).2.1); (case side3 => refine (Kd.R_reads' (e := 92) (base := w.heap.size) (ok := fun k_ => (((some k_ ≠ (.slice Ao32 t241.length co32 : Value).ownBlock ∧ some k_ ≠ (.slice Ao39 t229.length co39 : Value).ownBlock) ∧ some k_ ≠ (.slice Ao118 t247.length co118 : Value).ownBlock) ∧ some k_ ≠ (.slice Ao126 t251.length co126 : Value).ownBlock)) (n := t218.length) (c := co25) ?_).2.2; exact (by (with_reducible repeat (first | apply Kd.R_alloc | apply Kd.R_drewN | apply Kd.R_drew)); exact (Kd.R_mono (Kd.R_far (p := ⟨gb255, 1, none⟩) (Kd.R_far (p := ⟨gb255, 0, none⟩) (Kd.R_types HO_223001.out BK255.out (by decide)) (fun _ hk => hk.2) (.int .i64 t250)) (fun _ hk => hk.2) (.slice Ao126 t251.length co126)) (fun _ h_ => h_.1)))); (case side4 => exact (Kd.R_reads' HO_223001.out).2.1); rintro e w148 ⟨rfl, hb⟩; refine ⟨_, rfl, ?_⟩; have n0_ := Aside0.mk (Kd.R_below (by (with_reducible repeat (first | apply Kd.R_alloc | apply Kd.R_drewN | apply Kd.R_drew)); exact (Kd.R_mono (Kd.R_far (p := ⟨gb255, 1, none⟩) (Kd.R_far (p := ⟨gb255, 0, none⟩) (Kd.R_types HO_223001.out BK255.out (by decide)) (fun _ hk => hk.2) (.int .i64 t250)) (fun _ hk => hk.2) (.slice Ao126 t251.length co126)) (fun _ h_ => h_.1))) hb); have n1_ := Aside0.mk (Kd.R_below (by (with_reducible repeat (first | apply Kd.R_alloc | apply Kd.R_drewN | apply Kd.R_drew)); exact (Kd.R_mono (Kd.R_far (p := ⟨gb255, 1, none⟩) (Kd.R_far (p := ⟨gb255, 0, none⟩) (Kd.R_types HO_228001.out BK255.out (by decide)) (fun _ hk => hk.2) (.int .i64 t250)) (fun _ hk => hk.2) (.slice Ao126 t251.length co126)) (fun _ h_ => h_.1))) hb); have n2_ := Aside0.mk (Kd.R_below (by (with_reducible repeat (first | apply Kd.R_alloc | apply Kd.R_drewN | apply Kd.R_drew)); exact (Kd.R_mono (Kd.R_far (p := ⟨gb255, 1, none⟩) (Kd.R_far (p := ⟨gb255, 0, none⟩) (Kd.R_types HO_234001.out BK255.out (by decide)) (fun _ hk => hk.2) (.int .i64 t250)) (fun _ hk => hk.2) (.slice Ao126 t251.length co126)) (fun _ h_ => h_.1))) hb); have n3_ := Aside0.mk (Kd.R_below (by (with_reducible repeat (first | apply Kd.R_alloc | apply Kd.R_drewN | apply Kd.R_drew)); exact (Kd.R_mono (Kd.R_far (p := ⟨gb255, 1, none⟩) (Kd.R_far (p := ⟨gb255, 0, none⟩) (Kd.R_types HO249.out BK255.out (by decide)) (fun _ hk => hk.2) (.int .i64 t250)) (fun _ hk => hk.2) (.slice Ao126 t251.length co126)) (fun _ h_ => h_.1))) hb); have n4_ := Aside0.mk (Kd.R_below (by (with_reducible repeat (first | apply Kd.R_alloc | apply Kd.R_drewN | apply Kd.R_drew)); exact (Kd.R_mono (Kd.R_far (p := ⟨gb255, 1, none⟩) (Kd.R_far (p := ⟨gb255, 0, none⟩) (Kd.R_types HO253.out BK255.out (by decide)) (fun _ hk => hk.2) (.int .i64 t250)) (fun _ hk => hk.2) (.slice Ao126 t251.length co126)) (fun _ h_ => h_.1))) hb); have n5_ := Aside0.mk (blk_below (g := gb211) (o := .cells #[.int .i64 a0_0, .slice A0_1 l0_1.length c0_1] 24 (0, 0)) (by (with_reducible repeat (first | refine blk_drewN ?_ _ | refine blk_drew ?_ | refine blk_alloc ?_ _)); refine blk_far ?_ NB211_255.out _; (with_reducible repeat (first | refine blk_drewN ?_ _ | refine blk_drew ?_ | refine blk_alloc ?_ _)); refine blk_far ?_ NB211_255.out _; (with_reducible repeat (first | refine blk_drewN ?_ _ | refine blk_drew ?_ | refine blk_alloc ?_ _)); exact BK211.out) hb); have n6_ := Aside0.mk (blk_below (g := gb222) (o := .cells #[.int .i64 t217, .slice Ao25 t218.length co25] 28 (0, 0)) (by (with_reducible repeat (first | refine blk_drewN ?_ _ | refine blk_drew ?_ | refine blk_alloc ?_ _)); refine blk_far ?_ NB222_255.out _; (with_reducible repeat (first | refine blk_drewN ?_ _ | refine blk_drew ?_ | refine blk_alloc ?_ _)); refine blk_far ?_ NB222_255.out _; (with_reducible repeat (first | refine blk_drewN ?_ _ | refine blk_drew ?_ | refine blk_alloc ?_ _)); exact BK222.out) hb); have n7_ := Aside0.mk (blk_below (g := gb227) (o := .cells #[.int .i64 t223, .slice Ao32 t241.length co32] 28 (0, 0)) (by (with_reducible repeat (first | refine blk_drewN ?_ _ | refine blk_drew ?_ | refine blk_alloc ?_ _)); refine blk_far ?_ NB227_255.out _; (with_reducible repeat (first | refine blk_drewN ?_ _ | refine blk_drew ?_ | refine blk_alloc ?_ _)); refine blk_far ?_ NB227_255.out _; (with_reducible repeat (first | refine blk_drewN ?_ _ | refine blk_drew ?_ | refine blk_alloc ?_ _)); exact BK227.out) hb); have n8_ := Aside0.mk (blk_below (g := gb233) (o := .cells #[.int .i64 t228, .slice Ao39 t229.length co39] 28 (0, 0)) (by (with_reducible repeat (first | refine blk_drewN ?_ _ | refine blk_drew ?_ | refine blk_alloc ?_ _)); refine blk_far ?_ NB233_255.out _; (with_reducible repeat (first | refine blk_drewN ?_ _ | refine blk_drew ?_ | refine blk_alloc ?_ _)); refine blk_far ?_ NB233_255.out _; (with_reducible repeat (first | refine blk_drewN ?_ _ | refine blk_drew ?_ | refine blk_alloc ?_ _)); exact BK233.out) hb); have n9_ := Aside0.mk (blk_below (g := gb255) (o := .cells #[.int .i64 t250, .slice Ao126 t251.length co126] 28 (0, 0)) (by (with_reducible repeat (first | refine blk_drewN ?_ _ | refine blk_drew ?_ | refine blk_alloc ?_ _)); refine blk_put (cs := #[.int .i64 t250, .slice none 0 0]) ?_ 1 _ rfl; (with_reducible repeat (first | refine blk_drewN ?_ _ | refine blk_drew ?_ | refine blk_alloc ?_ _)); refine blk_put (cs := #[.int .i64 0, .slice none 0 0]) ?_ 0 _ rfl; (with_reducible repeat (first | refine blk_drewN ?_ _ | refine blk_drew ?_ | refine blk_alloc ?_ _)); exact BK255.out) hb); have n10_ := Aside0.mk (below_step (by repeat (first | (with_reducible first | exact HB.out | apply bwA | apply bwN | apply bwD | refine below_set ?_ GE211.out | refine below_set ?_ GE222.out | refine below_set ?_ GE227.out | refine below_set ?_ GE233.out | refine below_set ?_ GE255.out) | exact HB.out)) hb); clear HO_223001; clear HO_228001; clear HO_234001; clear HO249; clear HO253; clear BK211; clear BK222; clear BK227; clear BK233; clear BK255; clear HB; have HO_223001 := n0_; have HO_228001 := n1_; have HO_234001 := n2_; have HO249 := n3_; have HO253 := n4_; have BK211 := n5_; have BK222 := n6_; have BK227 := n7_; have BK233 := n8_; have BK255 := n9_; have HB := n10_; clear n0_ n1_ n2_ n3_ n4_ n5_ n6_ n7_ n8_ n9_ n10_; (try clear hb); (try clear hb2); (try clear hk); (try clear hi)))
             go_meet
             case rel => exact ⟨_, (true), (by first | rfl | (simp; done) | (simp [*]; done)), H', ⟨by have := HJ13.out; have := HJ62.out; first | omega | exact Nat.le_refl _⟩, ⟨by (try simp only [hl228001_62]); (with_reducible repeat (first | apply Kd.R_alloc | apply Kd.R_drewN | apply Kd.R_drew)); exact Kd.R_mono HO_223001.out (fun _ hk => ⟨hk.1.1.1, ⟨hk.1.1.2, hk.2⟩⟩)⟩, ⟨by (try simp only [hl228001_62]); (with_reducible repeat (first | apply Kd.R_alloc | apply Kd.R_drewN | apply Kd.R_drew)); exact Kd.R_mono HO_228001.out (fun _ hk => ⟨hk.1.1.1, ⟨hk.1.1.2, hk.2⟩⟩)⟩, ⟨by (try simp only [hl228001_62]); (with_reducible repeat (first | apply Kd.R_alloc | apply Kd.R_drewN | apply Kd.R_drew)); exact Kd.R_mono HO_234001.out (fun _ hk => ⟨hk.1.1.1, ⟨hk.1.1.2, hk.2⟩⟩)⟩, ⟨by (try simp only [hl228001_62]); (with_reducible repeat (first | apply Kd.R_alloc | apply Kd.R_drewN | apply Kd.R_drew)); exact Kd.R_mono HO253.out (fun _ hk => ⟨hk.1.1.1.2, ⟨hk.1.1.2, hk.1.2⟩⟩)⟩, ⟨by (try simp only [hl228001_62]); (with_reducible repeat (first | refine blk_drewN ?_ _ | refine blk_drew ?_ | refine blk_alloc ?_ _)); exact BK211.out⟩, ⟨by (try simp only [hl228001_62]); (with_reducible repeat (first | refine blk_drewN ?_ _ | refine blk_drew ?_ | refine blk_alloc ?_ _)); exact BK222.out⟩, ⟨by (try simp only [hl228001_62]); (with_reducible repeat (first | refine blk_drewN ?_ _ | refine blk_drew ?_ | refine blk_alloc ?_ _)); exact BK227.out⟩, ⟨by (try simp only [hl228001_62]); (with_reducible repeat (first | refine blk_drewN ?_ _ | refine blk_drew ?_ | refine blk_alloc ?_ _)); exact BK233.out⟩, ⟨by (try simp only [hl228001_62]); (with_reducible repeat (first | refine blk_drewN ?_ _ | refine blk_drew ?_ | refine blk_alloc ?_ _)); exact BK255.out⟩, ⟨by repeat (first | (with_reducible first | exact HB.out | apply bwA | apply bwN | apply bwD | refine below_set ?_ GE211.out | refine below_set ?_ GE222.out | refine below_set ?_ GE227.out | refine below_set ?_ GE233.out | refine below_set ?_ GE255.out) | exact HB.out)⟩⟩
           case rest =>
            clear HC106
            try clear c1
            try clear c2
            try clear p2
            try clear c3
            try clear c4
            try clear c5
            try clear c6
            try clear c6b0
            try clear c7
            try clear c8
            try clear c9
            try clear c10
            try clear c11
            try clear c12
            try clear c13
            try clear c14
            try clear c15
            try clear c16
            try clear c17
            try clear c18
            try clear c23
            try clear c29
            try clear c30
            try clear c35
            try clear c36
            try clear c37
            try clear c41
            try clear c42
            try clear c43
            try clear c44
            try clear c46
            try clear c47
            try clear c50
            try clear c51
            try clear c52
            try clear c54
            try clear c55
            try clear c58
            try clear c61
            try clear c68
            try clear c69
            try clear c70
            try clear c73
            try clear c73b0
            try clear c75
            try clear c76
            try clear c77
            try clear c78
            try clear c80
            try clear c81
            try clear c84
            try clear c85
            try clear c86
            try clear c88
            try clear c89
            try clear c92
            try clear c95
            try clear c95b0
            try clear c96
            try clear c97
            try clear c98
            try clear c103
            try clear c103b0
            try clear c103b1
            try clear c107
            try clear c108
            try clear c109
            try clear c114
            try clear c115
            try clear c121
            try clear c122
            try clear c123
            try clear c124
            try clear c128
            try clear c129
            try clear c130
            try clear c131
            try clear c132
            try clear c134
            try clear c135
            try clear c136
            try clear c139
            try clear c140
            try clear c141
            try clear c142
            try clear c144
            try clear c145
            try clear c146
            try clear hcz101_0
            try clear hcz101_1
            try clear hcz110_0
            try clear hcz110_1
            try clear hcz112_0
            try clear hcz112_1
            try clear hcz116_0
            try clear hcz116_1
            try clear hcz125_0
            try clear hcz125_1
            try clear hcz133_0
            try clear hcz133_1
            try clear hcz137_0
            try clear hcz137_1
            try clear hcz143_0
            try clear hcz143_1
            try clear hcz147_0
            try clear hcz147_1
            try clear hcz16_0
            try clear hcz16_1
            try clear hcz18_0
            try clear hcz18_1
            try clear hcz24_0
            try clear hcz24_1
            try clear hcz26_0
            try clear hcz26_1
            try clear hcz31_0
            try clear hcz31_1
            try clear hcz38_0
            try clear hcz38_1
            try clear hcz45_0
            try clear hcz45_1
            try clear hcz48_0
            try clear hcz48_1
            try clear hcz53_0
            try clear hcz53_1
            try clear hcz56_0
            try clear hcz56_1
            try clear hcz71_0
            try clear hcz71_1
            try clear hcz79_0
            try clear hcz79_1
            try clear hcz82_0
            try clear hcz82_1
            try clear hcz87_0
            try clear hcz87_1
            try clear hcz8_0
            try clear hcz8_1
            try clear hcz90_0
            try clear hcz90_1
            try clear hcz99_0
            try clear hcz99_1
            try clear hfz101_0
            try clear hfz101_1
            try clear hfz110_0
            try clear hfz110_1
            try clear hfz112_0
            try clear hfz112_1
            try clear hfz116_0
            try clear hfz116_1
            try clear hfz125_0
            try clear hfz125_1
            try clear hfz133_0
            try clear hfz133_1
            try clear hfz137_0
            try clear hfz137_1
            try clear hfz143_0
            try clear hfz143_1
            try clear hfz147_0
            try clear hfz147_1
            try clear hfz16_0
            try clear hfz16_1
            try clear hfz18_0
            try clear hfz18_1
            try clear hfz24_0
            try clear hfz24_1
            try clear hfz26_0
            try clear hfz26_1
            try clear hfz31_0
            try clear hfz31_1
            try clear hfz38_0
            try clear hfz38_1
            try clear hfz45_0
            try clear hfz45_1
            try clear hfz48_0
            try clear hfz48_1
            try clear hfz53_0
            try clear hfz53_1
            try clear hfz56_0
            try clear hfz56_1
            try clear hfz71_0
            try clear hfz71_1
            try clear hfz79_0
            try clear hfz79_1
            try clear hfz82_0
            try clear hfz82_1
            try clear hfz87_0
            try clear hfz87_1
            try clear hfz8_0
            try clear hfz8_1
            try clear hfz90_0
            try clear hfz90_1
            try clear hfz99_0
            try clear hfz99_1
            try clear p2
            obtain ⟨kq, x102_105, rfl, HA, HJ105, HO_223001, HO_228001, HO_234001, HO_256001, BK211, BK222, BK227, BK233, BK255, HB⟩ := hcut
            have hl234001_105 := (Kd.R_reads' HO_234001.out).1
            rw [hl234001_105] at HO_234001
            (try simp only [hl234001_105])
            (try simp only [hl234001_105] at BK211)
            (try simp only [hl234001_105] at BK222)
            (try simp only [hl234001_105] at BK227)
            (try simp only [hl234001_105] at BK233)
            (try simp only [hl234001_105] at BK255)
            (try simp only [hl234001_105] at HO_223001)
            (try simp only [hl234001_105] at HO_228001)
            (try simp only [hl234001_105] at HO_256001)
            cases kq with
            | zero => exact absurd HA.out (by simp [laws_FnExactAddPick.j2])
            | succ kj105 =>
             have H := HA.out
             clear HA
             simp only [laws_FnExactAddPick.j2] at H
             by_cases c149 : x102_105 = true
             ·subst c149
              have H1 : (some false) = some r := by rw [if_pos rfl] at H; exact H
              clear H
              have H := H1
              clear H1
              obtain rfl := Option.some.inj H
              go_wp2
              go_ret
              exact ⟨by first | rfl | (simp [errW_none, errW_some] <;> rfl) | (simp [*, errW_none, errW_some] <;> rfl), by repeat (first | (with_reducible first | exact HB.out | apply bwA | apply bwN | apply bwD | refine below_set ?_ GE211.out | refine below_set ?_ GE222.out | refine below_set ?_ GE227.out | refine below_set ?_ GE233.out | refine below_set ?_ GE255.out) | exact HB.out)⟩
             ·replace c149 := Bool.eq_false_iff.mpr c149
              subst c149
              have H1 : ((laws_heldCircuit.f kj105 t228 t244 1).bind fun t257 => (if t257 < 0 then (some false) else (if t257 = t243 then (some true) else (some false)))) = some r := by rw [if_neg (show ¬ (false = true) by decide)] at H; exact H
              clear H
              have H := H1
              clear H1
              replace H := Option.bind_eq_some_iff.mp H
              obtain ⟨t257, A1500, H⟩ := H
              replace H : (if t257 < 0 then (some false) else (if t257 = t243 then (some true) else (some false))) = some r := H
              have A150 := Aside0.mk A1500
              clear A1500
              by_cases c151 : t257 < 0
              ·rw [if_pos c151] at H
               have c151b0 : decide (t257 < 0) = true := decide_eq_true c151
               clear c151
               obtain rfl := Option.some.inj H
               have hnb152 := NB233_211.out
               have hnc152 := NB211_233.out
               have hnb153 := NB233_222.out
               have hnc153 := NB222_233.out
               have hnb154 := NB233_227.out
               have hnc154 := NB227_233.out
               have hnb155 := NB233_255.out
               have hnc155 := NB255_233.out
               have hcz156_0 : wc.cell? ⟨gb233, 0, none⟩ = some (.int .i64 t228) := (blk_cell BK233.out 0).trans rfl
               have hcz156_1 : wc.cell? ⟨gb233, 1, none⟩ = some (.slice Ao39 t244.length co39) := (blk_cell BK233.out 1).trans rfl
               have hfz156_0 := blk_frozen BK233.out 0
               have hfz156_1 := blk_frozen BK233.out 1
               go_wp2_with (first | ((with_reducible refine gate_callee (f := 18) rfl ?_); refine goesL_ (some 105) rfl rfl Try.func18 (by kernel_rfl) rfl #[.agg #[.int .i64 t228, .slice Ao39 t244.length co39], .int .i64 1] rfl (by (try simp only [List.map_toArray, List.map_cons, List.map_nil]); first | done | rfl | (simp only [List.length_drop, List.length_take]; rfl)) ?_; (with_reducible refine (laws_heldCircuit.calls kj105 t228 _ _ t244 1 t257 _ ?side1 ?side2 A150.out).mono ?_); (case side1 => repeat (first | exact (Kd.R_reads' HO_234001.out).2.2 | (with_reducible refine Kd.C_alloc ?_ _) | (with_reducible refine Kd.C_drewN ?_ _) | (with_reducible refine Kd.C_drew ?_))); (case side2 => exact (Kd.R_reads' HO_234001.out).2.1); rintro e w157 ⟨rfl, hb⟩; refine ⟨_, rfl, ?_⟩; have n0_ := Aside0.mk (Kd.R_below (by (with_reducible repeat (first | apply Kd.R_alloc | apply Kd.R_drewN | apply Kd.R_drew)); exact HO_223001.out) hb); have n1_ := Aside0.mk (Kd.R_below (by (with_reducible repeat (first | apply Kd.R_alloc | apply Kd.R_drewN | apply Kd.R_drew)); exact HO_228001.out) hb); have n2_ := Aside0.mk (Kd.R_below (by (with_reducible repeat (first | apply Kd.R_alloc | apply Kd.R_drewN | apply Kd.R_drew)); exact HO_234001.out) hb); have n3_ := Aside0.mk (Kd.R_below (by (with_reducible repeat (first | apply Kd.R_alloc | apply Kd.R_drewN | apply Kd.R_drew)); exact HO_256001.out) hb); have n4_ := Aside0.mk (blk_below (g := gb211) (o := .cells #[.int .i64 a0_0, .slice A0_1 l0_1.length c0_1] 24 (0, 0)) (by (with_reducible repeat (first | refine blk_drewN ?_ _ | refine blk_drew ?_ | refine blk_alloc ?_ _)); exact BK211.out) hb); have n5_ := Aside0.mk (blk_below (g := gb222) (o := .cells #[.int .i64 t217, .slice Ao25 t218.length co25] 28 (0, 0)) (by (with_reducible repeat (first | refine blk_drewN ?_ _ | refine blk_drew ?_ | refine blk_alloc ?_ _)); exact BK222.out) hb); have n6_ := Aside0.mk (blk_below (g := gb227) (o := .cells #[.int .i64 t223, .slice Ao32 t241.length co32] 28 (0, 0)) (by (with_reducible repeat (first | refine blk_drewN ?_ _ | refine blk_drew ?_ | refine blk_alloc ?_ _)); exact BK227.out) hb); have n7_ := Aside0.mk (blk_below (g := gb233) (o := .cells #[.int .i64 t228, .slice Ao39 t244.length co39] 28 (0, 0)) (by (with_reducible repeat (first | refine blk_drewN ?_ _ | refine blk_drew ?_ | refine blk_alloc ?_ _)); exact BK233.out) hb); have n8_ := Aside0.mk (blk_below (g := gb255) (o := .cells #[.int .i64 t250, .slice Ao126 t251.length co126] 28 (0, 0)) (by (with_reducible repeat (first | refine blk_drewN ?_ _ | refine blk_drew ?_ | refine blk_alloc ?_ _)); exact BK255.out) hb); have n9_ := Aside0.mk (below_step (by repeat (first | (with_reducible first | exact HB.out | apply bwA | apply bwN | apply bwD | refine below_set ?_ GE211.out | refine below_set ?_ GE222.out | refine below_set ?_ GE227.out | refine below_set ?_ GE233.out | refine below_set ?_ GE255.out) | exact HB.out)) hb); clear HO_223001; clear HO_228001; clear HO_234001; clear HO_256001; clear BK211; clear BK222; clear BK227; clear BK233; clear BK255; clear HB; have HO_223001 := n0_; have HO_228001 := n1_; have HO_234001 := n2_; have HO_256001 := n3_; have BK211 := n4_; have BK222 := n5_; have BK227 := n6_; have BK233 := n7_; have BK255 := n8_; have HB := n9_; clear n0_ n1_ n2_ n3_ n4_ n5_ n6_ n7_ n8_ n9_; (try clear hb); (try clear hb2); (try clear hk); (try clear hi)))
               go_ret
               exact ⟨by first | rfl | (simp [errW_none, errW_some] <;> rfl) | (simp [*, errW_none, errW_some] <;> rfl), by repeat (first | (with_reducible first | exact HB.out | apply bwA | apply bwN | apply bwD | refine below_set ?_ GE211.out | refine below_set ?_ GE222.out | refine below_set ?_ GE227.out | refine below_set ?_ GE233.out | refine below_set ?_ GE255.out) | exact HB.out)⟩
              ·rw [if_neg c151] at H
               have c151b0 : decide (t257 < 0) = false := decide_eq_false c151
               clear c151
               by_cases c158 : t257 = t243
               ·rw [if_pos c158] at H
                have c158b0 : (t257 == t243) = true := beq_iff_eq.mpr c158
                have c158b1 : (t257 != t243) = false := bne_eq_false_iff_eq.mpr c158
                clear c158
                obtain rfl := Option.some.inj H
                have hnb159 := NB233_211.out
                have hnc159 := NB211_233.out
                have hnb160 := NB233_222.out
                have hnc160 := NB222_233.out
                have hnb161 := NB233_227.out
                have hnc161 := NB227_233.out
                have hnb162 := NB233_255.out
                have hnc162 := NB255_233.out
                have hcz163_0 : wc.cell? ⟨gb233, 0, none⟩ = some (.int .i64 t228) := (blk_cell BK233.out 0).trans rfl
                have hcz163_1 : wc.cell? ⟨gb233, 1, none⟩ = some (.slice Ao39 t244.length co39) := (blk_cell BK233.out 1).trans rfl
                have hfz163_0 := blk_frozen BK233.out 0
                have hfz163_1 := blk_frozen BK233.out 1
                go_wp2_with (first | ((with_reducible refine gate_callee (f := 18) rfl ?_); refine goesL_ (some 105) rfl rfl Try.func18 (by kernel_rfl) rfl #[.agg #[.int .i64 t228, .slice Ao39 t244.length co39], .int .i64 1] rfl (by (try simp only [List.map_toArray, List.map_cons, List.map_nil]); first | done | rfl | (simp only [List.length_drop, List.length_take]; rfl)) ?_; (with_reducible refine (laws_heldCircuit.calls kj105 t228 _ _ t244 1 t257 _ ?side1 ?side2 A150.out).mono ?_); (case side1 => repeat (first | exact (Kd.R_reads' HO_234001.out).2.2 | (with_reducible refine Kd.C_alloc ?_ _) | (with_reducible refine Kd.C_drewN ?_ _) | (with_reducible refine Kd.C_drew ?_))); (case side2 => exact (Kd.R_reads' HO_234001.out).2.1); rintro e w164 ⟨rfl, hb⟩; refine ⟨_, rfl, ?_⟩; have n0_ := Aside0.mk (Kd.R_below (by (with_reducible repeat (first | apply Kd.R_alloc | apply Kd.R_drewN | apply Kd.R_drew)); exact HO_223001.out) hb); have n1_ := Aside0.mk (Kd.R_below (by (with_reducible repeat (first | apply Kd.R_alloc | apply Kd.R_drewN | apply Kd.R_drew)); exact HO_228001.out) hb); have n2_ := Aside0.mk (Kd.R_below (by (with_reducible repeat (first | apply Kd.R_alloc | apply Kd.R_drewN | apply Kd.R_drew)); exact HO_234001.out) hb); have n3_ := Aside0.mk (Kd.R_below (by (with_reducible repeat (first | apply Kd.R_alloc | apply Kd.R_drewN | apply Kd.R_drew)); exact HO_256001.out) hb); have n4_ := Aside0.mk (blk_below (g := gb211) (o := .cells #[.int .i64 a0_0, .slice A0_1 l0_1.length c0_1] 24 (0, 0)) (by (with_reducible repeat (first | refine blk_drewN ?_ _ | refine blk_drew ?_ | refine blk_alloc ?_ _)); exact BK211.out) hb); have n5_ := Aside0.mk (blk_below (g := gb222) (o := .cells #[.int .i64 t217, .slice Ao25 t218.length co25] 28 (0, 0)) (by (with_reducible repeat (first | refine blk_drewN ?_ _ | refine blk_drew ?_ | refine blk_alloc ?_ _)); exact BK222.out) hb); have n6_ := Aside0.mk (blk_below (g := gb227) (o := .cells #[.int .i64 t223, .slice Ao32 t241.length co32] 28 (0, 0)) (by (with_reducible repeat (first | refine blk_drewN ?_ _ | refine blk_drew ?_ | refine blk_alloc ?_ _)); exact BK227.out) hb); have n7_ := Aside0.mk (blk_below (g := gb233) (o := .cells #[.int .i64 t228, .slice Ao39 t244.length co39] 28 (0, 0)) (by (with_reducible repeat (first | refine blk_drewN ?_ _ | refine blk_drew ?_ | refine blk_alloc ?_ _)); exact BK233.out) hb); have n8_ := Aside0.mk (blk_below (g := gb255) (o := .cells #[.int .i64 t250, .slice Ao126 t251.length co126] 28 (0, 0)) (by (with_reducible repeat (first | refine blk_drewN ?_ _ | refine blk_drew ?_ | refine blk_alloc ?_ _)); exact BK255.out) hb); have n9_ := Aside0.mk (below_step (by repeat (first | (with_reducible first | exact HB.out | apply bwA | apply bwN | apply bwD | refine below_set ?_ GE211.out | refine below_set ?_ GE222.out | refine below_set ?_ GE227.out | refine below_set ?_ GE233.out | refine below_set ?_ GE255.out) | exact HB.out)) hb); clear HO_223001; clear HO_228001; clear HO_234001; clear HO_256001; clear BK211; clear BK222; clear BK227; clear BK233; clear BK255; clear HB; have HO_223001 := n0_; have HO_228001 := n1_; have HO_234001 := n2_; have HO_256001 := n3_; have BK211 := n4_; have BK222 := n5_; have BK227 := n6_; have BK233 := n7_; have BK255 := n8_; have HB := n9_; clear n0_ n1_ n2_ n3_ n4_ n5_ n6_ n7_ n8_ n9_; (try clear hb); (try clear hb2); (try clear hk); (try clear hi)))
                go_ret
                exact ⟨by first | rfl | (simp [errW_none, errW_some] <;> rfl) | (simp [*, errW_none, errW_some] <;> rfl), by repeat (first | (with_reducible first | exact HB.out | apply bwA | apply bwN | apply bwD | refine below_set ?_ GE211.out | refine below_set ?_ GE222.out | refine below_set ?_ GE227.out | refine below_set ?_ GE233.out | refine below_set ?_ GE255.out) | exact HB.out)⟩
               ·rw [if_neg c158] at H
                have c158b0 : (t257 == t243) = false := beq_eq_false_iff_ne.mpr c158
                have c158b1 : (t257 != t243) = true := bne_iff_ne.mpr c158
                obtain rfl := Option.some.inj H
                have hnb165 := NB233_211.out
                have hnc165 := NB211_233.out
                have hnb166 := NB233_222.out
                have hnc166 := NB222_233.out
                have hnb167 := NB233_227.out
                have hnc167 := NB227_233.out
                have hnb168 := NB233_255.out
                have hnc168 := NB255_233.out
                have hcz169_0 : wc.cell? ⟨gb233, 0, none⟩ = some (.int .i64 t228) := (blk_cell BK233.out 0).trans rfl
                have hcz169_1 : wc.cell? ⟨gb233, 1, none⟩ = some (.slice Ao39 t244.length co39) := (blk_cell BK233.out 1).trans rfl
                have hfz169_0 := blk_frozen BK233.out 0
                have hfz169_1 := blk_frozen BK233.out 1
                go_wp2_with (first | ((with_reducible refine gate_callee (f := 18) rfl ?_); refine goesL_ (some 105) rfl rfl Try.func18 (by kernel_rfl) rfl #[.agg #[.int .i64 t228, .slice Ao39 t244.length co39], .int .i64 1] rfl (by (try simp only [List.map_toArray, List.map_cons, List.map_nil]); first | done | rfl | (simp only [List.length_drop, List.length_take]; rfl)) ?_; (with_reducible refine (laws_heldCircuit.calls kj105 t228 _ _ t244 1 t257 _ ?side1 ?side2 A150.out).mono ?_); (case side1 => repeat (first | exact (Kd.R_reads' HO_234001.out).2.2 | (with_reducible refine Kd.C_alloc ?_ _) | (with_reducible refine Kd.C_drewN ?_ _) | (with_reducible refine Kd.C_drew ?_))); (case side2 => exact (Kd.R_reads' HO_234001.out).2.1); rintro e w170 ⟨rfl, hb⟩; refine ⟨_, rfl, ?_⟩; have n0_ := Aside0.mk (Kd.R_below (by (with_reducible repeat (first | apply Kd.R_alloc | apply Kd.R_drewN | apply Kd.R_drew)); exact HO_223001.out) hb); have n1_ := Aside0.mk (Kd.R_below (by (with_reducible repeat (first | apply Kd.R_alloc | apply Kd.R_drewN | apply Kd.R_drew)); exact HO_228001.out) hb); have n2_ := Aside0.mk (Kd.R_below (by (with_reducible repeat (first | apply Kd.R_alloc | apply Kd.R_drewN | apply Kd.R_drew)); exact HO_234001.out) hb); have n3_ := Aside0.mk (Kd.R_below (by (with_reducible repeat (first | apply Kd.R_alloc | apply Kd.R_drewN | apply Kd.R_drew)); exact HO_256001.out) hb); have n4_ := Aside0.mk (blk_below (g := gb211) (o := .cells #[.int .i64 a0_0, .slice A0_1 l0_1.length c0_1] 24 (0, 0)) (by (with_reducible repeat (first | refine blk_drewN ?_ _ | refine blk_drew ?_ | refine blk_alloc ?_ _)); exact BK211.out) hb); have n5_ := Aside0.mk (blk_below (g := gb222) (o := .cells #[.int .i64 t217, .slice Ao25 t218.length co25] 28 (0, 0)) (by (with_reducible repeat (first | refine blk_drewN ?_ _ | refine blk_drew ?_ | refine blk_alloc ?_ _)); exact BK222.out) hb); have n6_ := Aside0.mk (blk_below (g := gb227) (o := .cells #[.int .i64 t223, .slice Ao32 t241.length co32] 28 (0, 0)) (by (with_reducible repeat (first | refine blk_drewN ?_ _ | refine blk_drew ?_ | refine blk_alloc ?_ _)); exact BK227.out) hb); have n7_ := Aside0.mk (blk_below (g := gb233) (o := .cells #[.int .i64 t228, .slice Ao39 t244.length co39] 28 (0, 0)) (by (with_reducible repeat (first | refine blk_drewN ?_ _ | refine blk_drew ?_ | refine blk_alloc ?_ _)); exact BK233.out) hb); have n8_ := Aside0.mk (blk_below (g := gb255) (o := .cells #[.int .i64 t250, .slice Ao126 t251.length co126] 28 (0, 0)) (by (with_reducible repeat (first | refine blk_drewN ?_ _ | refine blk_drew ?_ | refine blk_alloc ?_ _)); exact BK255.out) hb); have n9_ := Aside0.mk (below_step (by repeat (first | (with_reducible first | exact HB.out | apply bwA | apply bwN | apply bwD | refine below_set ?_ GE211.out | refine below_set ?_ GE222.out | refine below_set ?_ GE227.out | refine below_set ?_ GE233.out | refine below_set ?_ GE255.out) | exact HB.out)) hb); clear HO_223001; clear HO_228001; clear HO_234001; clear HO_256001; clear BK211; clear BK222; clear BK227; clear BK233; clear BK255; clear HB; have HO_223001 := n0_; have HO_228001 := n1_; have HO_234001 := n2_; have HO_256001 := n3_; have BK211 := n4_; have BK222 := n5_; have BK227 := n6_; have BK233 := n7_; have BK255 := n8_; have HB := n9_; clear n0_ n1_ n2_ n3_ n4_ n5_ n6_ n7_ n8_ n9_; (try clear hb); (try clear hb2); (try clear hk); (try clear hi)))
                go_ret
                exact ⟨by first | rfl | (simp [errW_none, errW_some] <;> rfl) | (simp [*, errW_none, errW_some] <;> rfl), by repeat (first | (with_reducible first | exact HB.out | apply bwA | apply bwN | apply bwD | refine below_set ?_ GE211.out | refine below_set ?_ GE222.out | refine below_set ?_ GE227.out | refine below_set ?_ GE233.out | refine below_set ?_ GE255.out) | exact HB.out)⟩
          ·rw [if_neg c103] at H
           have c103b0 : (t245 == t243) = false := beq_eq_false_iff_ne.mpr c103
           have c103b1 : (t245 != t243) = true := bne_iff_ne.mpr c103
           obtain rfl := Option.some.inj H
           have hnb171 := NB233_211.out
           have hnc171 := NB211_233.out
           have hnb172 := NB233_222.out
           have hnc172 := NB222_233.out
           have hnb173 := NB233_227.out
           have hnc173 := NB227_233.out
           have hcz174_0 : wc.cell? ⟨gb233, 0, none⟩ = some (.int .i64 t228) := (blk_cell BK233.out 0).trans rfl
           have hcz174_1 : wc.cell? ⟨gb233, 1, none⟩ = some (.slice Ao39 t229.length co39) := (blk_cell BK233.out 1).trans rfl
           have hfz174_0 := blk_frozen BK233.out 0
           have hfz174_1 := blk_frozen BK233.out 1
           go_wp2_with (first | ((with_reducible refine gate_callee (f := 17) rfl ?_); refine goesL_ (some 76) rfl rfl Try.func17 (by kernel_rfl) rfl #[.agg #[.int .i64 t228, .slice Ao39 t229.length co39], .int .i64 1] rfl (by (try simp only [List.map_toArray, List.map_cons, List.map_nil]); first | done | rfl | (simp only [List.length_drop, List.length_take]; rfl)) ?_; (with_reducible refine (laws_markCircuit.calls kj62 t228 (fun k_ => some k_ = (.slice Ao39 t229.length co39 : Value).ownBlock) (.slice Ao39 t229.length co39) t229 1 t243 t244 w _ ?side1 ?side2 A93.out).mono ?_); (case side1 => repeat (first | (with_reducible first | exact HB.out | apply bwA | apply bwN | apply bwD | refine below_set ?_ GE211.out | refine below_set ?_ GE222.out | refine below_set ?_ GE227.out | refine below_set ?_ GE233.out) | exact HB.out)); (case side2 => exact Kd.R_tight rfl HO_234001.out); rintro e w175 ⟨rfl, hy0, hb, hkp⟩; refine ⟨_, rfl, ?_⟩; have n0_ := Aside0.mk (Kd.R_mono (ok' := fun k_ => some k_ ≠ (.slice Ao32 t241.length co32 : Value).ownBlock ∧ some k_ ≠ (.slice Ao39 t229.length co39 : Value).ownBlock) (Kd.R_keptB (HO_223001.out) hkp (fun k_ hk_ hs_ => (hk_.2) hs_)) (fun k_ hk_ => ⟨hk_.1.1, hk_.1.2⟩)); have n1_ := Aside0.mk (Kd.R_mono (ok' := fun k_ => some k_ ≠ (.slice Ao25 t218.length co25 : Value).ownBlock ∧ some k_ ≠ (.slice Ao39 t229.length co39 : Value).ownBlock) (Kd.R_keptB (HO_228001.out) hkp (fun k_ hk_ hs_ => (hk_.2) hs_)) (fun k_ hk_ => ⟨hk_.1.1, hk_.1.2⟩)); have n2_ := Aside0.mk (Kd.R_reok rfl hy0 (fun k_ e_ => HO_234001.out.1 k_ e_)); have n3_ := Aside0.mk (blk_kept (by (with_reducible repeat (first | refine blk_drewN ?_ _ | refine blk_drew ?_ | refine blk_alloc ?_ _)); exact BK211.out) hkp (fun hs_ => (fun e_ => (Kd.R_ne HO_234001.out BK211.out (by decide)) e_) hs_)); have n4_ := Aside0.mk (blk_kept (by (with_reducible repeat (first | refine blk_drewN ?_ _ | refine blk_drew ?_ | refine blk_alloc ?_ _)); exact BK222.out) hkp (fun hs_ => (fun e_ => (Kd.R_ne HO_234001.out BK222.out (by decide)) e_) hs_)); have n5_ := Aside0.mk (blk_kept (by (with_reducible repeat (first | refine blk_drewN ?_ _ | refine blk_drew ?_ | refine blk_alloc ?_ _)); exact BK227.out) hkp (fun hs_ => (fun e_ => (Kd.R_ne HO_234001.out BK227.out (by decide)) e_) hs_)); have n6_ := Aside0.mk (blk_kept (by (with_reducible repeat (first | refine blk_drewN ?_ _ | refine blk_drew ?_ | refine blk_alloc ?_ _)); exact BK233.out) hkp (fun hs_ => (fun e_ => (Kd.R_ne HO_234001.out BK233.out (by decide)) e_) hs_)); have n7_ := Aside0.mk (hb); clear HO_223001; clear HO_228001; clear HO_234001; clear BK211; clear BK222; clear BK227; clear BK233; clear HB; have HO_223001 := n0_; have HO_228001 := n1_; have HO_234001 := n2_; have BK211 := n3_; have BK222 := n4_; have BK227 := n5_; have BK233 := n6_; have HB := n7_; clear n0_ n1_ n2_ n3_ n4_ n5_ n6_ n7_; (try clear hb); (try clear hkp); (try clear hy0); have hcz176_0 : w175.cell? ⟨gb233, 0, none⟩ = some (.int .i64 t228) := (blk_cell BK233.out 0).trans rfl; have hcz176_1 : w175.cell? ⟨gb233, 1, none⟩ = some (.slice Ao39 t229.length co39) := (blk_cell BK233.out 1).trans rfl; have hfz176_0 := blk_frozen BK233.out 0; have hfz176_1 := blk_frozen BK233.out 1) | ((with_reducible refine gate_callee (f := 18) rfl ?_); refine goesL_ (some 79) rfl rfl Try.func18 (by kernel_rfl) rfl #[.agg #[.int .i64 t228, .slice Ao39 t244.length co39], .int .i64 1] rfl (by (try simp only [List.map_toArray, List.map_cons, List.map_nil]); first | done | (rw [show t244.length = t229.length from (Kd.R_reads' HO_234001.out).1.symm] <;> rfl) | rfl | (simp only [List.length_drop, List.length_take]; rfl)) ?_; (with_reducible refine (laws_heldCircuit.calls kj62 t228 _ _ t244 1 t245 _ ?side1 ?side2 A94.out).mono ?_); (case side1 => repeat (first | exact (Kd.R_reads' HO_234001.out).2.2 | (with_reducible refine Kd.C_alloc ?_ _) | (with_reducible refine Kd.C_drewN ?_ _) | (with_reducible refine Kd.C_drew ?_))); (case side2 => rw [show t244.length = t229.length from (Kd.R_reads' HO_234001.out).1.symm]; exact (Kd.R_reads' HO_234001.out).2.1); rintro e w177 ⟨rfl, hb⟩; refine ⟨_, rfl, ?_⟩; have n0_ := Aside0.mk (Kd.R_below (by (with_reducible repeat (first | apply Kd.R_alloc | apply Kd.R_drewN | apply Kd.R_drew)); exact HO_223001.out) hb); have n1_ := Aside0.mk (Kd.R_below (by (with_reducible repeat (first | apply Kd.R_alloc | apply Kd.R_drewN | apply Kd.R_drew)); exact HO_228001.out) hb); have n2_ := Aside0.mk (Kd.R_below (by (with_reducible repeat (first | apply Kd.R_alloc | apply Kd.R_drewN | apply Kd.R_drew)); exact HO_234001.out) hb); have n3_ := Aside0.mk (blk_below (g := gb211) (o := .cells #[.int .i64 a0_0, .slice A0_1 l0_1.length c0_1] 24 (0, 0)) (by (with_reducible repeat (first | refine blk_drewN ?_ _ | refine blk_drew ?_ | refine blk_alloc ?_ _)); exact BK211.out) hb); have n4_ := Aside0.mk (blk_below (g := gb222) (o := .cells #[.int .i64 t217, .slice Ao25 t218.length co25] 28 (0, 0)) (by (with_reducible repeat (first | refine blk_drewN ?_ _ | refine blk_drew ?_ | refine blk_alloc ?_ _)); exact BK222.out) hb); have n5_ := Aside0.mk (blk_below (g := gb227) (o := .cells #[.int .i64 t223, .slice Ao32 t241.length co32] 28 (0, 0)) (by (with_reducible repeat (first | refine blk_drewN ?_ _ | refine blk_drew ?_ | refine blk_alloc ?_ _)); exact BK227.out) hb); have n6_ := Aside0.mk (blk_below (g := gb233) (o := .cells #[.int .i64 t228, .slice Ao39 t229.length co39] 28 (0, 0)) (by (with_reducible repeat (first | refine blk_drewN ?_ _ | refine blk_drew ?_ | refine blk_alloc ?_ _)); exact BK233.out) hb); have n7_ := Aside0.mk (below_step (by repeat (first | (with_reducible first | exact HB.out | apply bwA | apply bwN | apply bwD | refine below_set ?_ GE211.out | refine below_set ?_ GE222.out | refine below_set ?_ GE227.out | refine below_set ?_ GE233.out) | exact HB.out)) hb); clear HO_223001; clear HO_228001; clear HO_234001; clear BK211; clear BK222; clear BK227; clear BK233; clear HB; have HO_223001 := n0_; have HO_228001 := n1_; have HO_234001 := n2_; have BK211 := n3_; have BK222 := n4_; have BK227 := n5_; have BK233 := n6_; have HB := n7_; clear n0_ n1_ n2_ n3_ n4_ n5_ n6_ n7_; (try clear hb); (try clear hb2); (try clear hk); (try clear hi)))
           go_ret
           exact ⟨by first | rfl | (simp [errW_none, errW_some] <;> rfl) | (simp [*, errW_none, errW_some] <;> rfl), by repeat (first | (with_reducible first | exact HB.out | apply bwA | apply bwN | apply bwD | refine below_set ?_ GE211.out | refine below_set ?_ GE222.out | refine below_set ?_ GE227.out | refine below_set ?_ GE233.out) | exact HB.out)⟩
     ·replace c61 := Bool.eq_false_iff.mpr c61
      subst c61
      have H1 : (some false) = some r := by rw [if_neg (show ¬ (false = true) by decide)] at H; exact H
      clear H
      have H := H1
      clear H1
      obtain rfl := Option.some.inj H
      try go_wp2
      have n0_ := Aside0.mk (Kd.R_drew HO_223001.out)
      have n1_ := Aside0.mk (Kd.R_drew HO_228001.out)
      have n2_ := Aside0.mk (Kd.R_drew HO_234001.out)
      have n3_ := Aside0.mk (blk_drew BK211.out)
      have n4_ := Aside0.mk (blk_drew BK222.out)
      have n5_ := Aside0.mk (blk_drew BK227.out)
      have n6_ := Aside0.mk (blk_drew BK233.out)
      have n7_ := Aside0.mk (below_drew1 HB.out)
      clear HO_223001
      clear HO_228001
      clear HO_234001
      clear BK211
      clear BK222
      clear BK227
      clear BK233
      clear HB
      have HO_223001 := n0_
      have HO_228001 := n1_
      have HO_234001 := n2_
      have BK211 := n3_
      have BK222 := n4_
      have BK227 := n5_
      have BK233 := n6_
      have HB := n7_
      clear n0_ n1_ n2_ n3_ n4_ n5_ n6_ n7_
      refine start_ (n := 5) (S := fun w' => w'.cell? ⟨gb227, 0, none⟩ = some (.int .i64 t223) ∧ w'.cell? ⟨gb227, 1, none⟩ = some (.slice Ao32 t224.length co32) ∧ w'.cell? ⟨gb211, 0, none⟩ = some (.int .i64 a0_0) ∧ w'.cell? ⟨gb211, 1, none⟩ = some (.slice A0_1 l0_1.length c0_1)) (ds := []) #[false, false, false, false, false] (by kernel_rfl) rfl rfl ⟨(blk_cell BK227.out 0).trans rfl, (blk_cell BK227.out 1).trans rfl, (blk_cell BK211.out 0).trans rfl, (blk_cell BK211.out 1).trans rfl⟩ (fun hHeld => ?_)
      generalize wc.drew = w178 at HO_223001 HO_228001 HO_234001 BK211 BK222 BK227 BK233 HB hHeld ⊢
      refine take_ (i := 0) (N := some 53) (v := ?_) (a' := ?_) #[true, false, false, false, false] rfl rfl (by kernel_rfl) (fun _ _ _ h => h) (Or.inl ⟨by rfl, ?_⟩) hHeld ?_ ?_
      rotate_left
      ·rintro w' ⟨s0, s1, s2, s3⟩
       go_simp
       with_reducible rfl
      rotate_left
      ·simp only [Act.put, List.setIfInBounds_toArray, List.set_cons_zero, List.set_cons_succ, i64_w, i32_w]
       rfl
      refine take_ (i := 1) (N := some 54) (v := ?_) (a' := ?_) #[true, true, false, false, false] rfl rfl (by kernel_rfl) (fun _ _ _ h => h) (Or.inl ⟨by rfl, ?_⟩) hHeld ?_ ?_
      rotate_left
      ·rintro w' ⟨s0, s1, s2, s3⟩
       go_simp
       with_reducible rfl
      rotate_left
      ·simp only [Act.put, List.setIfInBounds_toArray, List.set_cons_zero, List.set_cons_succ, i64_w, i32_w]
       rfl
      refine one_ (i := 2) (N := some 55) #[true, true, true, false, false] rfl rfl (by kernel_rfl) (by decide) (fun K hK => ?_)
      refine goes_ Try.func14 (by kernel_rfl) rfl #[.agg #[.int .i64 a0_0, .slice A0_1 l0_1.length c0_1]] (by rfl) rfl rfl (by (try simp only [List.map_toArray, List.map_cons, List.map_nil]); first | done | rfl | (simp only [List.length_drop, List.length_take]; rfl)) ?_
      with_reducible refine (laws_toCircuit.calls kj13 a0_0 _ _ l0_1 t235 t236 _ ?side1 ?side2 A59.out).mono ?_
      (case side1 => repeat (first | exact (Kd.C_below HR0_1.out HB.out) | (with_reducible refine Kd.C_alloc ?_ _) | (with_reducible refine Kd.C_drewN ?_ _) | (with_reducible refine Kd.C_drew ?_)))
      (case side2 => exact HC0_1.out)
      rintro e w179 ⟨v237, rfl, ho0, hb⟩
      refine ⟨_, rfl, ?_⟩
      have n0_ := Aside0.mk (Kd.R_elder' (by (with_reducible repeat (first | apply Kd.R_alloc | apply Kd.R_drewN | apply Kd.R_drew)); exact HO_223001.out) (Kd.R_base ho0) hb)
      have n1_ := Aside0.mk (Kd.R_elder' (by (with_reducible repeat (first | apply Kd.R_alloc | apply Kd.R_drewN | apply Kd.R_drew)); exact HO_228001.out) (Kd.R_base ho0) hb)
      have n2_ := Aside0.mk (Kd.R_elder' (by (with_reducible repeat (first | apply Kd.R_alloc | apply Kd.R_drewN | apply Kd.R_drew)); exact HO_234001.out) (Kd.R_base ho0) hb)
      have n3_ := Aside0.mk (Kd.R_lower (Kd.R_new' (Kd.R_new' (Kd.R_new' ho0 (Kd.R_lt (by (with_reducible repeat (first | apply Kd.R_alloc | apply Kd.R_drewN | apply Kd.R_drew)); exact HO_223001.out))) (Kd.R_lt (by (with_reducible repeat (first | apply Kd.R_alloc | apply Kd.R_drewN | apply Kd.R_drew)); exact HO_228001.out))) (Kd.R_lt (by (with_reducible repeat (first | apply Kd.R_alloc | apply Kd.R_drewN | apply Kd.R_drew)); exact HO_234001.out))) (below_size (by repeat (first | (with_reducible first | exact HB.out | apply bwA | apply bwN | apply bwD | refine below_set ?_ GE211.out | refine below_set ?_ GE222.out | refine below_set ?_ GE227.out | refine below_set ?_ GE233.out) | exact HB.out))))
      have n4_ := Aside0.mk (blk_below (g := gb211) (o := .cells #[.int .i64 a0_0, .slice A0_1 l0_1.length c0_1] 24 (0, 0)) (by (with_reducible repeat (first | refine blk_drewN ?_ _ | refine blk_drew ?_ | refine blk_alloc ?_ _)); exact BK211.out) hb)
      have n5_ := Aside0.mk (blk_below (g := gb222) (o := .cells #[.int .i64 t217, .slice Ao25 t218.length co25] 28 (0, 0)) (by (with_reducible repeat (first | refine blk_drewN ?_ _ | refine blk_drew ?_ | refine blk_alloc ?_ _)); exact BK222.out) hb)
      have n6_ := Aside0.mk (blk_below (g := gb227) (o := .cells #[.int .i64 t223, .slice Ao32 t224.length co32] 28 (0, 0)) (by (with_reducible repeat (first | refine blk_drewN ?_ _ | refine blk_drew ?_ | refine blk_alloc ?_ _)); exact BK227.out) hb)
      have n7_ := Aside0.mk (blk_below (g := gb233) (o := .cells #[.int .i64 t228, .slice Ao39 t229.length co39] 28 (0, 0)) (by (with_reducible repeat (first | refine blk_drewN ?_ _ | refine blk_drew ?_ | refine blk_alloc ?_ _)); exact BK233.out) hb)
      have n8_ := Aside0.mk (below_step (by repeat (first | (with_reducible first | exact HB.out | apply bwA | apply bwN | apply bwD | refine below_set ?_ GE211.out | refine below_set ?_ GE222.out | refine below_set ?_ GE227.out | refine below_set ?_ GE233.out) | exact HB.out)) hb)
      clear HO_223001
      clear HO_228001
      clear HO_234001
      clear BK211
      clear BK222
      clear BK227
      clear BK233
      clear HB
      have HO_223001 := n0_
      have HO_228001 := n1_
      have HO_234001 := n2_
      have HO238 := n3_
      have BK211 := n4_
      have BK222 := n5_
      have BK227 := n6_
      have BK233 := n7_
      have HB := n8_
      clear n0_ n1_ n2_ n3_ n4_ n5_ n6_ n7_ n8_
      (try clear hb)
      (try clear hb2)
      (try clear hk)
      (try clear hi)
      (try clear ho0)
      obtain ⟨Ao180, co180, eo180⟩ := Kd.R_slice HO238.out
      (first | subst eo180 | (injection eo180 with f1_ f2_ f3_; have f4_ := f1_.symm; have f5_ := f3_.symm; clear f1_ f2_ f3_; subst f4_; subst f5_))
      refine hK.out _ _ ⟨(blk_cell BK227.out 0).trans rfl, (blk_cell BK227.out 1).trans rfl, (blk_cell BK211.out 0).trans rfl, (blk_cell BK211.out 1).trans rfl⟩ (fun hHeld => ?_)
      clear hK K
      refine norm_ (a' := ?_) ?_ ?_
      rotate_left
      ·show Act.put _ (some 55) _ = _
       simp only [Act.put, List.setIfInBounds_toArray, List.set_cons_zero, List.set_cons_succ, i64_w, i32_w]
       rfl
      refine one_ (i := 3) (N := some 56) #[true, true, true, true, false] rfl rfl (by kernel_rfl) (by decide) (fun K hK => ?_)
      refine goes_ Try.func16 (by kernel_rfl) rfl #[.agg #[.int .i64 t223, .slice Ao32 t224.length co32], .agg #[.int .i64 t235, .slice Ao180 t236.length co180]] (by rfl) rfl rfl (by (try simp only [List.map_toArray, List.map_cons, List.map_nil]); first | done | rfl | (simp only [List.length_drop, List.length_take]; rfl)) ?_
      with_reducible refine (laws_eqCircuit.calls kj13 t223 _ _ t224 t235 _ _ t236 false _ ?side1 ?side2 ?side3 ?side4 A60.out).mono ?_
      (case side1 => repeat (first | exact (Kd.R_reads' HO_228001.out).2.2 | (with_reducible refine Kd.C_alloc ?_ _) | (with_reducible refine Kd.C_drewN ?_ _) | (with_reducible refine Kd.C_drew ?_)))
      (case side2 => exact (Kd.R_reads' HO_228001.out).2.1)
      (case side3 => repeat (first | exact (Kd.R_reads' HO238.out).2.2 | (with_reducible refine Kd.C_alloc ?_ _) | (with_reducible refine Kd.C_drewN ?_ _) | (with_reducible refine Kd.C_drew ?_)))
      (case side4 => exact (Kd.R_reads' HO238.out).2.1)
      rintro e w181 ⟨rfl, hb⟩
      refine ⟨_, rfl, ?_⟩
      have n0_ := Aside0.mk (Kd.R_below (by (with_reducible repeat (first | apply Kd.R_alloc | apply Kd.R_drewN | apply Kd.R_drew)); exact HO_223001.out) hb)
      have n1_ := Aside0.mk (Kd.R_below (by (with_reducible repeat (first | apply Kd.R_alloc | apply Kd.R_drewN | apply Kd.R_drew)); exact HO_228001.out) hb)
      have n2_ := Aside0.mk (Kd.R_below (by (with_reducible repeat (first | apply Kd.R_alloc | apply Kd.R_drewN | apply Kd.R_drew)); exact HO_234001.out) hb)
      have n3_ := Aside0.mk (Kd.R_below (by (with_reducible repeat (first | apply Kd.R_alloc | apply Kd.R_drewN | apply Kd.R_drew)); exact HO238.out) hb)
      have n4_ := Aside0.mk (blk_below (g := gb211) (o := .cells #[.int .i64 a0_0, .slice A0_1 l0_1.length c0_1] 24 (0, 0)) (by (with_reducible repeat (first | refine blk_drewN ?_ _ | refine blk_drew ?_ | refine blk_alloc ?_ _)); exact BK211.out) hb)
      have n5_ := Aside0.mk (blk_below (g := gb222) (o := .cells #[.int .i64 t217, .slice Ao25 t218.length co25] 28 (0, 0)) (by (with_reducible repeat (first | refine blk_drewN ?_ _ | refine blk_drew ?_ | refine blk_alloc ?_ _)); exact BK222.out) hb)
      have n6_ := Aside0.mk (blk_below (g := gb227) (o := .cells #[.int .i64 t223, .slice Ao32 t224.length co32] 28 (0, 0)) (by (with_reducible repeat (first | refine blk_drewN ?_ _ | refine blk_drew ?_ | refine blk_alloc ?_ _)); exact BK227.out) hb)
      have n7_ := Aside0.mk (blk_below (g := gb233) (o := .cells #[.int .i64 t228, .slice Ao39 t229.length co39] 28 (0, 0)) (by (with_reducible repeat (first | refine blk_drewN ?_ _ | refine blk_drew ?_ | refine blk_alloc ?_ _)); exact BK233.out) hb)
      have n8_ := Aside0.mk (below_step (by repeat (first | (with_reducible first | exact HB.out | apply bwA | apply bwN | apply bwD | refine below_set ?_ GE211.out | refine below_set ?_ GE222.out | refine below_set ?_ GE227.out | refine below_set ?_ GE233.out) | exact HB.out)) hb)
      clear HO_223001
      clear HO_228001
      clear HO_234001
      clear HO238
      clear BK211
      clear BK222
      clear BK227
      clear BK233
      clear HB
      have HO_223001 := n0_
      have HO_228001 := n1_
      have HO_234001 := n2_
      have HO238 := n3_
      have BK211 := n4_
      have BK222 := n5_
      have BK227 := n6_
      have BK233 := n7_
      have HB := n8_
      clear n0_ n1_ n2_ n3_ n4_ n5_ n6_ n7_ n8_
      (try clear hb)
      (try clear hb2)
      (try clear hk)
      (try clear hi)
      refine hK.out _ _ ⟨(blk_cell BK227.out 0).trans rfl, (blk_cell BK227.out 1).trans rfl, (blk_cell BK211.out 0).trans rfl, (blk_cell BK211.out 1).trans rfl⟩ (fun hHeld => ?_)
      clear hK K
      refine norm_ (a' := ?_) ?_ ?_
      rotate_left
      ·show Act.put _ (some 56) _ = _
       simp only [Act.put, List.setIfInBounds_toArray, List.set_cons_zero, List.set_cons_succ, i64_w, i32_w]
       rfl
      refine pure_ (i := 4) (N := some 57) (v := ?_) (a' := ?_) #[true, true, true, true, true] rfl rfl (by kernel_rfl) (fun _ _ _ h => h) (Or.inl ⟨by rfl, ?_⟩) ?_ ?_
      rotate_left
      ·intro w'
       go_simp
       with_reducible rfl
      rotate_left
      ·simp only [Act.put, List.setIfInBounds_toArray, List.set_cons_zero, List.set_cons_succ, i64_w, i32_w]
       rfl
      refine done_ (by kernel_rfl) ?_
      try go_wp2
      go_ret
      exact ⟨by first | rfl | (simp [errW_none, errW_some] <;> rfl) | (simp [*, errW_none, errW_some] <;> rfl), by repeat (first | (with_reducible first | exact HB.out | apply bwA | apply bwN | apply bwD | refine below_set ?_ GE211.out | refine below_set ?_ GE222.out | refine below_set ?_ GE227.out | refine below_set ?_ GE233.out) | exact HB.out)⟩
def GoodIi64 (x : Int) : Prop := (Lit.int .i64 x).wf = true
def GoodS113 (x : S113) : Prop := GoodIi64 x.f0 ∧ GoodIi64 x.f1
def GoodL3 (x : List (S113)) : Prop := (x.length ≤ maxLen ∧ ∀ x_ ∈ x, GoodS113 x_)
/-- THE ONE PURE STATEMENT of laws_FnExactAddPick. -/
def laws_FnExactAddPick.Pure : Prop := ∀ (a0_0 : Int) (l0_1 : List (S113)) (a1 : Int) (a2 : Int) (a3 : Int), GoodIi64 a0_0 → GoodL3 l0_1 → GoodIi64 a1 → GoodIi64 a2 → GoodIi64 a3 → ∃ k, laws_FnExactAddPick.f k a0_0 l0_1 a1 a2 a3 = some true
theorem laws_FnExactAddPick.walk (P : laws_FnExactAddPick.Pure) (a0_0 : Int) (A0_1 : Option Addr) (c0_1 : Nat) (l0_1 : List (S113)) (a1 : Int) (a2 : Int) (a3 : Int) (w : World) (hr0_1 : Kd.C k113 w A0_1 l0_1.length l0_1) (hc0_1 : l0_1.length ≤ c0_1) (g0_0 : GoodIi64 a0_0) (g0_1 : GoodL3 l0_1) (g1 : GoodIi64 a1) (g2 : GoodIi64 a2) (g3 : GoodIi64 a3) :
  Calls Try.prog 3 #[.agg #[.int .i64 a0_0, .slice A0_1 l0_1.length c0_1], .int .i64 a1, .int .i64 a2, .int .i64 a3] w fun e w' => e = .returned (.bool true) ∧ Below w.heap.size w w' := by
 obtain ⟨k, h⟩ := P a0_0 l0_1 a1 a2 a3 g0_0 g0_1 g1 g2 g3
 refine (laws_FnExactAddPick.calls k a0_0 _ _ l0_1 a1 a2 a3 true w hr0_1 hc0_1 h).mono ?_
 rintro e w' ⟨rfl, hd⟩
 exact ⟨rfl, hd⟩

end Go.Proofs.Ytpcckoljocpchaa.QFnExactAddPick
