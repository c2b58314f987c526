-- Written by a program of this session (mk.py). Lean checks it.
import Derived.Test.YtpcckoljocpchaaQFnExactFixedx0
import Derived.Test.YtpcckoljocpchaaQFnExactFixedx1
import Derived.Test.YtpcckoljocpchaaQFnExactFixedx2
import Derived.Test.YtpcckoljocpchaaQFnExactFixedx4
import Derived.Test.YtpcckoljocpchaaQFnExactFixedx6
namespace Go.Proofs.Ytpcckoljocpchaa.QFnExactFixed
open Go.RowKit Go.Proofs.YtpcckoljocpchaaW.PrintWords Go.Proofs.YtpcckoljocpchaaW.PrintLast Go.Proofs.YtpcckoljocpchaaW.PrintMore
attribute [local go_sem] max2_int min2_int max_two min_two max_three min_three max_four min_four   -- for this text's walks alone
set_option linter.unusedVariables false
set_option linter.unusedSimpArgs false

/-! ### laws_FnExactFixed: function 5 -/
mutual
def laws_FnExactFixed.j0 : Nat → Int → Int → Int → Int → Int → Bool → Int → List (S113) → Int → List (S92) → Int → List (S92) → Int → List (S92) → Option (Bool)
 | 0, _, _, _, _, _, _, _, _, _, _, _, _, _, _ => none
 | k + 1, x1, x2, x3, x11, x14, x52, x215000, x215001, x226000, x226001, x231000, x231001, x237000, x237001 => if x52 = true then (some false) else ((laws_toCircuit.f k x215000 x215001).bind fun bt238 => ((laws_eqCircuit.f k x231000 x231001 bt238.1 bt238.2).bind fun t242 => (if t242 = true then ((laws_markCircuit.f k x231000 x231001 1).bind fun bt243 => (if bt243.1 < 0 then (laws_FnExactFixed.j1 k x1 x2 x3 x11 true x215000 x215001 x226000 x226001 x237000 x237001) else ((laws_eqCircuit.f k x237000 x237001 x226000 x226001).bind fun t245 => (if t245 = true then (laws_FnExactFixed.j1 k x1 x2 x3 x11 (x14 != x11) x215000 x215001 x226000 x226001 x237000 x237001) else (laws_FnExactFixed.j1 k x1 x2 x3 x11 true x215000 x215001 x226000 x226001 x237000 x237001))))) else (some false))))
def laws_FnExactFixed.j1 : Nat → Int → Int → Int → Int → Bool → Int → List (S113) → Int → List (S92) → Int → List (S92) → Option (Bool)
 | 0, _, _, _, _, _, _, _, _, _, _, _ => none
 | k + 1, x1, x2, x3, x11, x73, x215000, x215001, x226000, x226001, x237000, x237001 => if x73 = true then (some false) else ((laws_markCircuit.f k x237000 x237001 1).bind fun bt246 => ((laws_heldCircuit.f k x237000 bt246.2 1).bind fun t248 => (if t248 < 0 then (some false) else (if t248 = bt246.1 then ((laws_toCircuit.f k x215000 x215001).bind fun bt249 => ((impl_Fixed.f k bt249.1 bt249.2 x1 x2 x3).bind fun bt253 => ((laws_eqCircuit.f k bt253.1 bt253.2.1 x226000 x226001).bind fun t259 => (if t259 = true then (laws_FnExactFixed.j2 k bt246.1 (bt253.2.2 != x11) x237000 bt246.2) else (laws_FnExactFixed.j2 k bt246.1 true x237000 bt246.2))))) else (some false)))))
def laws_FnExactFixed.j2 : Nat → Int → Bool → Int → List (S92) → Option (Bool)
 | 0, _, _, _, _ => none
 | k + 1, x16, x102, x237000, x237001 => if x102 = true then (some false) else ((laws_heldCircuit.f k x237000 x237001 1).bind fun t260 => (if t260 < 0 then (some false) else (if t260 = x16 then (some true) else (some false))))
end
def laws_FnExactFixed.f (k : Nat) (a0_0 : Int) (l0_1 : List (S113)) (a1 : Int) (a2 : Int) (a3 : Int) : Option (Bool) := (laws_szCircuit.f a0_0 l0_1 1048576).bind fun t215 => (if t215 < 0 then (some true) else ((laws_toCircuit.f k a0_0 l0_1).bind fun bt216 => ((spec_Fixed.f k bt216.1 bt216.2 a1 a2 a3).bind fun bt220 => ((laws_toCircuit.f k a0_0 l0_1).bind fun bt226 => ((impl_Fixed.f k bt226.1 bt226.2 a1 a2 a3).bind fun bt231 => ((laws_eqCircuit.f k bt231.1 bt231.2.1 bt220.1 bt220.2.1).bind fun t237 => (if t237 = true then (laws_FnExactFixed.j0 k a1 a2 a3 bt220.2.2 bt231.2.2 (bt231.2.2 != bt220.2.2) a0_0 l0_1 bt220.1 bt220.2.1 bt226.1 bt226.2 bt231.1 bt231.2.1) else (laws_FnExactFixed.j0 k a1 a2 a3 bt220.2.2 bt231.2.2 true a0_0 l0_1 bt220.1 bt220.2.1 bt226.1 bt226.2 bt231.1 bt231.2.1))))))))
theorem laws_FnExactFixed.mono_l : ∀ k, (∀ y0 y1 y2 y3 y4 y5 y6 y7 y8 y9 y10 y11 y12 y13, LeO (laws_FnExactFixed.j0 k y0 y1 y2 y3 y4 y5 y6 y7 y8 y9 y10 y11 y12 y13) (laws_FnExactFixed.j0 (k + 1) y0 y1 y2 y3 y4 y5 y6 y7 y8 y9 y10 y11 y12 y13)) ∧ (∀ y0 y1 y2 y3 y4 y5 y6 y7 y8 y9 y10, LeO (laws_FnExactFixed.j1 k y0 y1 y2 y3 y4 y5 y6 y7 y8 y9 y10) (laws_FnExactFixed.j1 (k + 1) y0 y1 y2 y3 y4 y5 y6 y7 y8 y9 y10)) ∧ (∀ y0 y1 y2 y3, LeO (laws_FnExactFixed.j2 k y0 y1 y2 y3) (laws_FnExactFixed.j2 (k + 1) y0 y1 y2 y3))
 | 0 => ⟨fun _ _ _ _ _ _ _ _ _ _ _ _ _ _ r h => by simp [laws_FnExactFixed.j0] at h, fun _ _ _ _ _ _ _ _ _ _ _ r h => by simp [laws_FnExactFixed.j1] at h, fun _ _ _ _ r h => by simp [laws_FnExactFixed.j2] at h⟩
 | k + 1 => by
  obtain ⟨ih0, ih1, ih2⟩ := laws_FnExactFixed.mono_l k
  refine ⟨?_, ?_, ?_⟩
  ·intro y0 y1 y2 y3 y4 y5 y6 y7 y8 y9 y10 y11 y12 y13
   unfold laws_FnExactFixed.j0
   repeat' first
   | (with_reducible exact ih0 _ _ _ _ _ _ _ _ _ _ _ _ _ _)
   | (with_reducible exact ih1 _ _ _ _ _ _ _ _ _ _ _)
   | (with_reducible exact ih2 _ _ _ _)
   | (with_reducible exact impl_Fixed.mono _ _ _ _ _ _)
   | (with_reducible exact laws_eqCircuit.mono _ _ _ _ _)
   | (with_reducible exact laws_heldCircuit.mono _ _ _ _)
   | (with_reducible exact laws_markCircuit.mono _ _ _ _)
   | (with_reducible exact laws_toCircuit.mono _ _ _)
   | (with_reducible exact spec_Fixed.mono _ _ _ _ _ _)
   | (with_reducible exact LeO.refl _)
   | (with_reducible exact LeO.none _)
   | (with_reducible refine LeO.ite ?_ ?_)
   | (with_reducible refine LeO.bind ?_ (fun _ => ?_))
   | exact ih0 _ _ _ _ _ _ _ _ _ _ _ _ _ _
   | exact ih1 _ _ _ _ _ _ _ _ _ _ _
   | exact ih2 _ _ _ _
   | exact impl_Fixed.mono _ _ _ _ _ _
   | exact laws_eqCircuit.mono _ _ _ _ _
   | exact laws_heldCircuit.mono _ _ _ _
   | exact laws_markCircuit.mono _ _ _ _
   | exact laws_toCircuit.mono _ _ _
   | exact spec_Fixed.mono _ _ _ _ _ _
   | exact LeO.none _
   | refine LeO.ite ?_ ?_
   | refine LeO.bind ?_ (fun _ => ?_)
  ·intro y0 y1 y2 y3 y4 y5 y6 y7 y8 y9 y10
   unfold laws_FnExactFixed.j1
   repeat' first
   | (with_reducible exact ih0 _ _ _ _ _ _ _ _ _ _ _ _ _ _)
   | (with_reducible exact ih1 _ _ _ _ _ _ _ _ _ _ _)
   | (with_reducible exact ih2 _ _ _ _)
   | (with_reducible exact impl_Fixed.mono _ _ _ _ _ _)
   | (with_reducible exact laws_eqCircuit.mono _ _ _ _ _)
   | (with_reducible exact laws_heldCircuit.mono _ _ _ _)
   | (with_reducible exact laws_markCircuit.mono _ _ _ _)
   | (with_reducible exact laws_toCircuit.mono _ _ _)
   | (with_reducible exact spec_Fixed.mono _ _ _ _ _ _)
   | (with_reducible exact LeO.refl _)
   | (with_reducible exact LeO.none _)
   | (with_reducible refine LeO.ite ?_ ?_)
   | (with_reducible refine LeO.bind ?_ (fun _ => ?_))
   | exact ih0 _ _ _ _ _ _ _ _ _ _ _ _ _ _
   | exact ih1 _ _ _ _ _ _ _ _ _ _ _
   | exact ih2 _ _ _ _
   | exact impl_Fixed.mono _ _ _ _ _ _
   | exact laws_eqCircuit.mono _ _ _ _ _
   | exact laws_heldCircuit.mono _ _ _ _
   | exact laws_markCircuit.mono _ _ _ _
   | exact laws_toCircuit.mono _ _ _
   | exact spec_Fixed.mono _ _ _ _ _ _
   | exact LeO.none _
   | refine LeO.ite ?_ ?_
   | refine LeO.bind ?_ (fun _ => ?_)
  ·intro y0 y1 y2 y3
   unfold laws_FnExactFixed.j2
   repeat' first
   | (with_reducible exact ih0 _ _ _ _ _ _ _ _ _ _ _ _ _ _)
   | (with_reducible exact ih1 _ _ _ _ _ _ _ _ _ _ _)
   | (with_reducible exact ih2 _ _ _ _)
   | (with_reducible exact impl_Fixed.mono _ _ _ _ _ _)
   | (with_reducible exact laws_eqCircuit.mono _ _ _ _ _)
   | (with_reducible exact laws_heldCircuit.mono _ _ _ _)
   | (with_reducible exact laws_markCircuit.mono _ _ _ _)
   | (with_reducible exact laws_toCircuit.mono _ _ _)
   | (with_reducible exact spec_Fixed.mono _ _ _ _ _ _)
   | (with_reducible exact LeO.refl _)
   | (with_reducible exact LeO.none _)
   | (with_reducible refine LeO.ite ?_ ?_)
   | (with_reducible refine LeO.bind ?_ (fun _ => ?_))
   | exact ih0 _ _ _ _ _ _ _ _ _ _ _ _ _ _
   | exact ih1 _ _ _ _ _ _ _ _ _ _ _
   | exact ih2 _ _ _ _
   | exact impl_Fixed.mono _ _ _ _ _ _
   | exact laws_eqCircuit.mono _ _ _ _ _
   | exact laws_heldCircuit.mono _ _ _ _
   | exact laws_markCircuit.mono _ _ _ _
   | exact laws_toCircuit.mono _ _ _
   | exact spec_Fixed.mono _ _ _ _ _ _
   | exact LeO.none _
   | refine LeO.ite ?_ ?_
   | refine LeO.bind ?_ (fun _ => ?_)
theorem laws_FnExactFixed.mono : ∀ a0 a1 a2 a3 a4 k, LeO (laws_FnExactFixed.f k a0 a1 a2 a3 a4) (laws_FnExactFixed.f (k + 1) a0 a1 a2 a3 a4) := by
 intro a0 a1 a2 a3 a4 k
 obtain ⟨ih0, ih1, ih2⟩ := laws_FnExactFixed.mono_l k
 unfold laws_FnExactFixed.f
 repeat' first
   | (with_reducible exact ih0 _ _ _ _ _ _ _ _ _ _ _ _ _ _)
   | (with_reducible exact ih1 _ _ _ _ _ _ _ _ _ _ _)
   | (with_reducible exact ih2 _ _ _ _)
   | (with_reducible exact impl_Fixed.mono _ _ _ _ _ _)
   | (with_reducible exact laws_eqCircuit.mono _ _ _ _ _)
   | (with_reducible exact laws_heldCircuit.mono _ _ _ _)
   | (with_reducible exact laws_markCircuit.mono _ _ _ _)
   | (with_reducible exact laws_toCircuit.mono _ _ _)
   | (with_reducible exact spec_Fixed.mono _ _ _ _ _ _)
   | (with_reducible exact LeO.refl _)
   | (with_reducible exact LeO.none _)
   | (with_reducible refine LeO.ite ?_ ?_)
   | (with_reducible refine LeO.bind ?_ (fun _ => ?_))
   | exact ih0 _ _ _ _ _ _ _ _ _ _ _ _ _ _
   | exact ih1 _ _ _ _ _ _ _ _ _ _ _
   | exact ih2 _ _ _ _
   | exact impl_Fixed.mono _ _ _ _ _ _
   | exact laws_eqCircuit.mono _ _ _ _ _
   | exact laws_heldCircuit.mono _ _ _ _
   | exact laws_markCircuit.mono _ _ _ _
   | exact laws_toCircuit.mono _ _ _
   | exact spec_Fixed.mono _ _ _ _ _ _
   | exact LeO.none _
   | refine LeO.ite ?_ ?_
   | refine LeO.bind ?_ (fun _ => ?_)
set_option maxHeartbeats 8000000 in
set_option maxRecDepth 100000 in
theorem laws_FnExactFixed.calls (k : Nat) (a0_0 : Int) (A0_1 : Option Addr) (c0_1 : Nat) (l0_1 : List (S113)) (a1 : Int) (a2 : Int) (a3 : Int) (r : Bool) (w : World) (hr0_1 : Kd.C k113 w A0_1 l0_1.length l0_1) (hc0_1 : l0_1.length ≤ c0_1) (h : laws_FnExactFixed.f k a0_0 l0_1 a1 a2 a3 = some r) :
  Calls Try.prog 5 #[.agg #[.int .i64 a0_0, .slice A0_1 l0_1.length c0_1], .int .i64 a1, .int .i64 a2, .int .i64 a3] w fun e w' => e = .returned (.bool r) ∧ Below w.heap.size w w' := by
 have hu24 := Try.underlying24
 have hu28 := Try.underlying28
 have HR0_1 := Aside0.mk hr0_1
 have HC0_1 := Aside0.mk hc0_1
 clear hr0_1 hc0_1
 have HB := Aside0.mk (Below.refl w.heap.size w)
 have H : ((laws_szCircuit.f a0_0 l0_1 1048576).bind fun t215 => (if t215 < 0 then (some true) else ((laws_toCircuit.f k a0_0 l0_1).bind fun bt216 => ((spec_Fixed.f k bt216.1 bt216.2 a1 a2 a3).bind fun bt220 => ((laws_toCircuit.f k a0_0 l0_1).bind fun bt226 => ((impl_Fixed.f k bt226.1 bt226.2 a1 a2 a3).bind fun bt231 => ((laws_eqCircuit.f k bt231.1 bt231.2.1 bt220.1 bt220.2.1).bind fun t237 => (if t237 = true then (laws_FnExactFixed.j0 k a1 a2 a3 bt220.2.2 bt231.2.2 (bt231.2.2 != bt220.2.2) a0_0 l0_1 bt220.1 bt220.2.1 bt226.1 bt226.2 bt231.1 bt231.2.1) else (laws_FnExactFixed.j0 k a1 a2 a3 bt220.2.2 bt231.2.2 true a0_0 l0_1 bt220.1 bt220.2.1 bt226.1 bt226.2 bt231.1 bt231.2.1))))))))) = some r := h
 clear h
 replace H := Option.bind_eq_some_iff.mp H
 obtain ⟨t215, A50, H⟩ := H
 replace H : (if t215 < 0 then (some true) else ((laws_toCircuit.f k a0_0 l0_1).bind fun bt216 => ((spec_Fixed.f k bt216.1 bt216.2 a1 a2 a3).bind fun bt220 => ((laws_toCircuit.f k a0_0 l0_1).bind fun bt226 => ((impl_Fixed.f k bt226.1 bt226.2 a1 a2 a3).bind fun bt231 => ((laws_eqCircuit.f k bt231.1 bt231.2.1 bt220.1 bt220.2.1).bind fun t237 => (if t237 = true then (laws_FnExactFixed.j0 k a1 a2 a3 bt220.2.2 bt231.2.2 (bt231.2.2 != bt220.2.2) a0_0 l0_1 bt220.1 bt220.2.1 bt226.1 bt226.2 bt231.1 bt231.2.1) else (laws_FnExactFixed.j0 k a1 a2 a3 bt220.2.2 bt231.2.2 true a0_0 l0_1 bt220.1 bt220.2.1 bt226.1 bt226.2 bt231.1 bt231.2.1)))))))) = some r := H
 have A5 := Aside0.mk A50
 clear A50
 by_cases c6 : t215 < 0
 ·rw [if_pos c6] at H
  have c6b0 : decide (t215 < 0) = true := decide_eq_true c6
  clear c6
  obtain rfl := Option.some.inj H
  go_enter Try.func5, Try.ntmps5
  go_wp2_with (first | ((with_reducible refine gate_dst (N := 4) rfl ?_); refine box_event ?hg (N := 4) ?hd (cs := #[.int .i64 a0_0, .slice A0_1 l0_1.length c0_1]) (t := 24) ?hr ?_; (case hd => rfl); (case hg => rfl); (case hr => first | (go_simp; done) | (go_simp; rfl)); intro gb214 hg w7 hbox hb; have n0_ := Aside0.mk (below_step (by repeat (first | (with_reducible first | exact HB.out | apply bwA | apply bwN | apply bwD) | exact HB.out)) hb); have n1_ := Aside0.mk (hbox); have n2_ := Aside0.mk ((by rw [hg]; exact (below_size (by repeat (first | (with_reducible first | exact HB.out | apply bwA | apply bwN | apply bwD) | exact HB.out))) : w.heap.size ≤ gb214)); have n3_ := Aside0.mk ((by rw [hg]; exact (below_size (by repeat (first | (with_reducible first | exact HB.out | apply bwA | apply bwN | apply bwD) | exact HB.out))) : w.heap.size ≤ gb214)); clear HB; have HB := n0_; have BK214 := n1_; have GW214 := n2_; have GE214 := n3_; clear n0_ n1_ n2_ n3_; clear hb hbox hg; have hcz8_0 : w7.cell? ⟨gb214, 0, none⟩ = some (.int .i64 a0_0) := (blk_cell BK214.out 0).trans rfl; have hcz8_1 : w7.cell? ⟨gb214, 1, none⟩ = some (.slice A0_1 l0_1.length c0_1) := (blk_cell BK214.out 1).trans rfl; have hfz8_0 := blk_frozen BK214.out 0; have hfz8_1 := blk_frozen BK214.out 1) | ((with_reducible refine gate_callee (f := 12) rfl ?_); refine goesL_ (some 22) rfl rfl Try.func12 (by kernel_rfl) rfl #[.agg #[.int .i64 a0_0, .slice A0_1 l0_1.length c0_1], .int .i64 1048576] rfl (by (try simp only [List.map_toArray, List.map_cons, List.map_nil]); first | done | rfl | (simp only [List.length_drop, List.length_take]; rfl)) ?_; (with_reducible refine (laws_szCircuit.calls a0_0 _ _ l0_1 1048576 t215 _ ?side1 ?side2 A5.out).mono ?_); (case side1 => repeat (first | exact (Kd.C_below HR0_1.out HB.out) | (with_reducible refine Kd.C_alloc ?_ _) | (with_reducible refine Kd.C_drewN ?_ _) | (with_reducible refine Kd.C_drew ?_))); (case side2 => exact HC0_1.out); rintro e w9 ⟨rfl, hb⟩; refine ⟨_, rfl, ?_⟩; have n0_ := Aside0.mk (blk_below (g := gb214) (o := .cells #[.int .i64 a0_0, .slice A0_1 l0_1.length c0_1] 24 (0, 0)) (by (with_reducible repeat (first | refine blk_drewN ?_ _ | refine blk_drew ?_ | refine blk_alloc ?_ _)); exact BK214.out) hb); have n1_ := Aside0.mk (below_step (by repeat (first | (with_reducible first | exact HB.out | apply bwA | apply bwN | apply bwD | refine below_set ?_ GE214.out) | exact HB.out)) hb); clear BK214; clear HB; have BK214 := n0_; have HB := n1_; clear n0_ n1_; (try clear hb); (try clear hb2); (try clear hk); (try clear hi)))
  go_ret
  exact ⟨by first | rfl | (simp [errW_none, errW_some] <;> rfl) | (simp [*, errW_none, errW_some] <;> rfl), by repeat (first | (with_reducible first | exact HB.out | apply bwA | apply bwN | apply bwD | refine below_set ?_ GE214.out) | exact HB.out)⟩
 ·rw [if_neg c6] at H
  have c6b0 : decide (t215 < 0) = false := decide_eq_false c6
  clear c6
  replace H := Option.bind_eq_some_iff.mp H
  obtain ⟨⟨t216, t217⟩, A100, H⟩ := H
  replace H : ((spec_Fixed.f k t216 t217 a1 a2 a3).bind fun bt220 => ((laws_toCircuit.f k a0_0 l0_1).bind fun bt226 => ((impl_Fixed.f k bt226.1 bt226.2 a1 a2 a3).bind fun bt231 => ((laws_eqCircuit.f k bt231.1 bt231.2.1 bt220.1 bt220.2.1).bind fun t237 => (if t237 = true then (laws_FnExactFixed.j0 k a1 a2 a3 bt220.2.2 bt231.2.2 (bt231.2.2 != bt220.2.2) a0_0 l0_1 bt220.1 bt220.2.1 bt226.1 bt226.2 bt231.1 bt231.2.1) else (laws_FnExactFixed.j0 k a1 a2 a3 bt220.2.2 bt231.2.2 true a0_0 l0_1 bt220.1 bt220.2.1 bt226.1 bt226.2 bt231.1 bt231.2.1)))))) = some r := H
  have A10 := Aside0.mk A100
  clear A100
  replace H := Option.bind_eq_some_iff.mp H
  obtain ⟨⟨t220, t221, t224⟩, A110, H⟩ := H
  replace H : ((laws_toCircuit.f k a0_0 l0_1).bind fun bt226 => ((impl_Fixed.f k bt226.1 bt226.2 a1 a2 a3).bind fun bt231 => ((laws_eqCircuit.f k bt231.1 bt231.2.1 t220 t221).bind fun t237 => (if t237 = true then (laws_FnExactFixed.j0 k a1 a2 a3 t224 bt231.2.2 (bt231.2.2 != t224) a0_0 l0_1 t220 t221 bt226.1 bt226.2 bt231.1 bt231.2.1) else (laws_FnExactFixed.j0 k a1 a2 a3 t224 bt231.2.2 true a0_0 l0_1 t220 t221 bt226.1 bt226.2 bt231.1 bt231.2.1))))) = some r := H
  have A11 := Aside0.mk A110
  clear A110
  replace H := Option.bind_eq_some_iff.mp H
  obtain ⟨⟨t226, t227⟩, A120, H⟩ := H
  replace H : ((impl_Fixed.f k t226 t227 a1 a2 a3).bind fun bt231 => ((laws_eqCircuit.f k bt231.1 bt231.2.1 t220 t221).bind fun t237 => (if t237 = true then (laws_FnExactFixed.j0 k a1 a2 a3 t224 bt231.2.2 (bt231.2.2 != t224) a0_0 l0_1 t220 t221 t226 t227 bt231.1 bt231.2.1) else (laws_FnExactFixed.j0 k a1 a2 a3 t224 bt231.2.2 true a0_0 l0_1 t220 t221 t226 t227 bt231.1 bt231.2.1)))) = some r := H
  have A12 := Aside0.mk A120
  clear A120
  replace H := Option.bind_eq_some_iff.mp H
  obtain ⟨⟨t231, t232, t235⟩, A130, H⟩ := H
  replace H : ((laws_eqCircuit.f k t231 t232 t220 t221).bind fun t237 => (if t237 = true then (laws_FnExactFixed.j0 k a1 a2 a3 t224 t235 (t235 != t224) a0_0 l0_1 t220 t221 t226 t227 t231 t232) else (laws_FnExactFixed.j0 k a1 a2 a3 t224 t235 true a0_0 l0_1 t220 t221 t226 t227 t231 t232))) = some r := H
  have A13 := Aside0.mk A130
  clear A130
  have HC14 := Aside0.mk H
  clear H
  go_enter Try.func5, Try.ntmps5
  go_upto_region 8 with (first | ((with_reducible refine gate_dst (N := 4) rfl ?_); refine box_event ?hg (N := 4) ?hd (cs := #[.int .i64 a0_0, .slice A0_1 l0_1.length c0_1]) (t := 24) ?hr ?_; (case hd => rfl); (case hg => rfl); (case hr => first | (go_simp; done) | (go_simp; rfl)); intro gb214 hg w15 hbox hb; have n0_ := Aside0.mk (below_step (by repeat (first | (with_reducible first | exact HB.out | apply bwA | apply bwN | apply bwD) | exact HB.out)) hb); have n1_ := Aside0.mk (hbox); have n2_ := Aside0.mk ((by rw [hg]; exact (below_size (by repeat (first | (with_reducible first | exact HB.out | apply bwA | apply bwN | apply bwD) | exact HB.out))) : w.heap.size ≤ gb214)); have n3_ := Aside0.mk ((by rw [hg]; exact (below_size (by repeat (first | (with_reducible first | exact HB.out | apply bwA | apply bwN | apply bwD) | exact HB.out))) : w.heap.size ≤ gb214)); clear HB; have HB := n0_; have BK214 := n1_; have GW214 := n2_; have GE214 := n3_; clear n0_ n1_ n2_ n3_; clear hb hbox hg; have hcz16_0 : w15.cell? ⟨gb214, 0, none⟩ = some (.int .i64 a0_0) := (blk_cell BK214.out 0).trans rfl; have hcz16_1 : w15.cell? ⟨gb214, 1, none⟩ = some (.slice A0_1 l0_1.length c0_1) := (blk_cell BK214.out 1).trans rfl; have hfz16_0 := blk_frozen BK214.out 0; have hfz16_1 := blk_frozen BK214.out 1) | ((with_reducible refine gate_callee (f := 12) rfl ?_); refine goesL_ (some 22) rfl rfl Try.func12 (by kernel_rfl) rfl #[.agg #[.int .i64 a0_0, .slice A0_1 l0_1.length c0_1], .int .i64 1048576] rfl (by (try simp only [List.map_toArray, List.map_cons, List.map_nil]); first | done | rfl | (simp only [List.length_drop, List.length_take]; rfl)) ?_; (with_reducible refine (laws_szCircuit.calls a0_0 _ _ l0_1 1048576 t215 _ ?side1 ?side2 A5.out).mono ?_); (case side1 => repeat (first | exact (Kd.C_below HR0_1.out HB.out) | (with_reducible refine Kd.C_alloc ?_ _) | (with_reducible refine Kd.C_drewN ?_ _) | (with_reducible refine Kd.C_drew ?_))); (case side2 => exact HC0_1.out); rintro e w17 ⟨rfl, hb⟩; refine ⟨_, rfl, ?_⟩; have n0_ := Aside0.mk (blk_below (g := gb214) (o := .cells #[.int .i64 a0_0, .slice A0_1 l0_1.length c0_1] 24 (0, 0)) (by (with_reducible repeat (first | refine blk_drewN ?_ _ | refine blk_drew ?_ | refine blk_alloc ?_ _)); exact BK214.out) hb); have n1_ := Aside0.mk (below_step (by repeat (first | (with_reducible first | exact HB.out | apply bwA | apply bwN | apply bwD | refine below_set ?_ GE214.out) | exact HB.out)) hb); clear BK214; clear HB; have BK214 := n0_; have HB := n1_; clear n0_ n1_; (try clear hb); (try clear hb2); (try clear hk); (try clear hi); have hcz18_0 : w17.cell? ⟨gb214, 0, none⟩ = some (.int .i64 a0_0) := (blk_cell BK214.out 0).trans rfl; have hcz18_1 : w17.cell? ⟨gb214, 1, none⟩ = some (.slice A0_1 l0_1.length c0_1) := (blk_cell BK214.out 1).trans rfl; have hfz18_0 := blk_frozen BK214.out 0; have hfz18_1 := blk_frozen BK214.out 1) | ((with_reducible refine gate_callee (f := 14) rfl ?_); refine goesL_ (some 27) rfl rfl Try.func14 (by kernel_rfl) rfl #[.agg #[.int .i64 a0_0, .slice A0_1 l0_1.length c0_1]] rfl (by (try simp only [List.map_toArray, List.map_cons, List.map_nil]); first | done | rfl | (simp only [List.length_drop, List.length_take]; rfl)) ?_; (with_reducible refine (laws_toCircuit.calls k a0_0 _ _ l0_1 t216 t217 _ ?side1 ?side2 A10.out).mono ?_); (case side1 => repeat (first | exact (Kd.C_below HR0_1.out HB.out) | (with_reducible refine Kd.C_alloc ?_ _) | (with_reducible refine Kd.C_drewN ?_ _) | (with_reducible refine Kd.C_drew ?_))); (case side2 => exact HC0_1.out); rintro e w19 ⟨v218, rfl, ho0, hb⟩; refine ⟨_, rfl, ?_⟩; have n0_ := Aside0.mk (Kd.R_lower ho0 (below_size (by repeat (first | (with_reducible first | exact HB.out | apply bwA | apply bwN | apply bwD | refine below_set ?_ GE214.out) | exact HB.out)))); have n1_ := Aside0.mk (blk_below (g := gb214) (o := .cells #[.int .i64 a0_0, .slice A0_1 l0_1.length c0_1] 24 (0, 0)) (by (with_reducible repeat (first | refine blk_drewN ?_ _ | refine blk_drew ?_ | refine blk_alloc ?_ _)); exact BK214.out) hb); have n2_ := Aside0.mk (below_step (by repeat (first | (with_reducible first | exact HB.out | apply bwA | apply bwN | apply bwD | refine below_set ?_ GE214.out) | exact HB.out)) hb); clear BK214; clear HB; have HO219 := n0_; have BK214 := n1_; have HB := n2_; clear n0_ n1_ n2_; (try clear hb); (try clear hb2); (try clear hk); (try clear hi); (try clear ho0); obtain ⟨Ao20, co20, eo20⟩ := Kd.R_slice HO219.out; subst eo20) | ((with_reducible refine gate_callee (f := 24) rfl ?_); refine goesL_ (some 31) rfl rfl Try.func24 (by kernel_rfl) rfl #[.agg #[.int .i64 t216, .slice Ao20 t217.length co20], .int .i64 a1, .int .i64 a2, .int .i64 a3] rfl (by (try simp only [List.map_toArray, List.map_cons, List.map_nil]); first | done | rfl | (simp only [List.length_drop, List.length_take]; rfl)) ?_; (with_reducible refine (spec_Fixed.calls k t216 _ _ t217 a1 a2 a3 t220 t221 t224 _ ?side1 ?side2 A11.out).mono ?_); (case side1 => repeat (first | exact (Kd.R_reads' HO219.out).2.2 | (with_reducible refine Kd.C_alloc ?_ _) | (with_reducible refine Kd.C_drewN ?_ _) | (with_reducible refine Kd.C_drew ?_))); (case side2 => exact (Kd.R_reads' HO219.out).2.1); rintro e w21 ⟨v222, rfl, ho0, hb⟩; refine ⟨_, rfl, ?_⟩; have n0_ := Aside0.mk (Kd.R_elder' (by (with_reducible repeat (first | apply Kd.R_alloc | apply Kd.R_drewN | apply Kd.R_drew)); exact HO219.out) (Kd.R_base ho0) hb); have n1_ := Aside0.mk (Kd.R_lower (Kd.R_new' ho0 (Kd.R_lt (by (with_reducible repeat (first | apply Kd.R_alloc | apply Kd.R_drewN | apply Kd.R_drew)); exact HO219.out))) (below_size (by repeat (first | (with_reducible first | exact HB.out | apply bwA | apply bwN | apply bwD | refine below_set ?_ GE214.out) | exact HB.out)))); have n2_ := Aside0.mk (blk_below (g := gb214) (o := .cells #[.int .i64 a0_0, .slice A0_1 l0_1.length c0_1] 24 (0, 0)) (by (with_reducible repeat (first | refine blk_drewN ?_ _ | refine blk_drew ?_ | refine blk_alloc ?_ _)); exact BK214.out) hb); have n3_ := Aside0.mk (below_step (by repeat (first | (with_reducible first | exact HB.out | apply bwA | apply bwN | apply bwD | refine below_set ?_ GE214.out) | exact HB.out)) hb); clear HO219; clear BK214; clear HB; have HO219 := n0_; have HO223 := n1_; have BK214 := n2_; have HB := n3_; clear n0_ n1_ n2_ n3_; (try clear hb); (try clear hb2); (try clear hk); (try clear hi); (try clear ho0)) | ((with_reducible refine gate_dst (N := 10) rfl ?_); refine box_event ?hg (N := 10) ?hd (cs := #[.int .i64 0, .slice none 0 0]) (t := 28) ?hr ?_; (case hd => rfl); (case hg => rfl); (case hr => first | (go_simp; done) | (go_simp; rfl)); intro gb225 hg w22 hbox hb; have n0_ := Aside0.mk (Kd.R_below (by (with_reducible repeat (first | apply Kd.R_alloc | apply Kd.R_drewN | apply Kd.R_drew)); exact HO219.out) hb); have n1_ := Aside0.mk (Kd.R_below (by (with_reducible repeat (first | apply Kd.R_alloc | apply Kd.R_drewN | apply Kd.R_drew)); exact HO223.out) hb); have n2_ := Aside0.mk (blk_below (g := gb214) (o := .cells #[.int .i64 a0_0, .slice A0_1 l0_1.length c0_1] 24 (0, 0)) (by (with_reducible repeat (first | refine blk_drewN ?_ _ | refine blk_drew ?_ | refine blk_alloc ?_ _)); exact BK214.out) hb); have n3_ := Aside0.mk (below_step (by repeat (first | (with_reducible first | exact HB.out | apply bwA | apply bwN | apply bwD | refine below_set ?_ GE214.out) | exact HB.out)) hb); have n4_ := Aside0.mk (hbox); have n5_ := Aside0.mk ((by rw [hg]; exact (below_size (by repeat (first | (with_reducible first | exact HB.out | apply bwA | apply bwN | apply bwD | refine below_set ?_ GE214.out) | exact HB.out))) : w.heap.size ≤ gb225)); have n6_ := Aside0.mk ((by rw [hg]; exact (below_size (by repeat (first | (with_reducible first | exact HB.out | apply bwA | apply bwN | apply bwD | refine below_set ?_ GE214.out) | exact HB.out))) : w.heap.size ≤ gb225)); have n7_ := Aside0.mk ((by rw [hg]; exact Nat.ne_of_lt (blk_lt (g := gb214) (o := .cells #[.int .i64 a0_0, .slice A0_1 l0_1.length c0_1] 24 (0, 0)) (by (with_reducible repeat (first | refine blk_drewN ?_ _ | refine blk_drew ?_ | refine blk_alloc ?_ _)); exact BK214.out)) : gb214 ≠ gb225)); have n8_ := Aside0.mk ((by rw [hg]; exact Nat.ne_of_gt (blk_lt (g := gb214) (o := .cells #[.int .i64 a0_0, .slice A0_1 l0_1.length c0_1] 24 (0, 0)) (by (with_reducible repeat (first | refine blk_drewN ?_ _ | refine blk_drew ?_ | refine blk_alloc ?_ _)); exact BK214.out)) : gb225 ≠ gb214)); clear HO219; clear HO223; clear BK214; clear HB; have HO219 := n0_; have HO223 := n1_; have BK214 := n2_; have HB := n3_; have BK225 := n4_; have GW225 := n5_; have GE225 := n6_; have NB214_225 := n7_; have NB225_214 := n8_; clear n0_ n1_ n2_ n3_ n4_ n5_ n6_ n7_ n8_; clear hb hbox hg; have hnb23 := NB225_214.out; have hnc23 := NB214_225.out; have hcz24_0 : w22.cell? ⟨gb225, 0, none⟩ = some (.int .i64 0) := (blk_cell BK225.out 0).trans rfl; have hcz24_1 : w22.cell? ⟨gb225, 1, none⟩ = some (.slice none 0 0) := (blk_cell BK225.out 1).trans rfl; have hfz24_0 := blk_frozen BK225.out 0; have hfz24_1 := blk_frozen BK225.out 1; obtain ⟨Ao25, co25, eo25⟩ := Kd.R_slice HO223.out; subst eo25; have hcz26_0 : w22.cell? ⟨gb214, 0, none⟩ = some (.int .i64 a0_0) := (blk_cell BK214.out 0).trans rfl; have hcz26_1 : w22.cell? ⟨gb214, 1, none⟩ = some (.slice A0_1 l0_1.length c0_1) := (blk_cell BK214.out 1).trans rfl; have hfz26_0 := blk_frozen BK214.out 0; have hfz26_1 := blk_frozen BK214.out 1) | ((with_reducible refine gate_callee (f := 14) rfl ?_); refine goesL_ (some 35) rfl rfl Try.func14 (by kernel_rfl) rfl #[.agg #[.int .i64 a0_0, .slice A0_1 l0_1.length c0_1]] rfl (by (try simp only [List.map_toArray, List.map_cons, List.map_nil]); first | done | rfl | (simp only [List.length_drop, List.length_take]; rfl)) ?_; (with_reducible refine (laws_toCircuit.calls k a0_0 _ _ l0_1 t226 t227 _ ?side1 ?side2 A12.out).mono ?_); (case side1 => exact Kd.C_below HR0_1.out (by repeat (first | (with_reducible first | exact HB.out | apply bwA | apply bwN | apply bwD | refine below_set ?_ GE214.out | refine below_set ?_ GE225.out) | exact HB.out))); (case side2 => exact HC0_1.out); rintro e w27 ⟨v228, rfl, ho0, hb⟩; refine ⟨_, rfl, ?_⟩; have n0_ := Aside0.mk (Kd.R_elder' (by (with_reducible repeat (first | apply Kd.R_alloc | apply Kd.R_drewN | apply Kd.R_drew)); exact (Kd.R_mono (Kd.R_far (p := ⟨gb225, 1, none⟩) (Kd.R_far (p := ⟨gb225, 0, none⟩) (Kd.R_types HO219.out BK225.out (by decide)) (fun _ hk => hk.2) (.int .i64 t220)) (fun _ hk => hk.2) (.slice Ao25 t221.length co25)) (fun _ h_ => h_.1))) (Kd.R_base ho0) hb); have n1_ := Aside0.mk (Kd.R_elder' (by (with_reducible repeat (first | apply Kd.R_alloc | apply Kd.R_drewN | apply Kd.R_drew)); exact (Kd.R_mono (Kd.R_far (p := ⟨gb225, 1, none⟩) (Kd.R_far (p := ⟨gb225, 0, none⟩) (Kd.R_types HO223.out BK225.out (by decide)) (fun _ hk => hk.2) (.int .i64 t220)) (fun _ hk => hk.2) (.slice Ao25 t221.length co25)) (fun _ h_ => h_.1))) (Kd.R_base ho0) hb); have n2_ := Aside0.mk (Kd.R_lower (Kd.R_new' (Kd.R_new' ho0 (Kd.R_lt (by (with_reducible repeat (first | apply Kd.R_alloc | apply Kd.R_drewN | apply Kd.R_drew)); exact (Kd.R_mono (Kd.R_far (p := ⟨gb225, 1, none⟩) (Kd.R_far (p := ⟨gb225, 0, none⟩) (Kd.R_types HO219.out BK225.out (by decide)) (fun _ hk => hk.2) (.int .i64 t220)) (fun _ hk => hk.2) (.slice Ao25 t221.length co25)) (fun _ h_ => h_.1))))) (Kd.R_lt (by (with_reducible repeat (first | apply Kd.R_alloc | apply Kd.R_drewN | apply Kd.R_drew)); exact (Kd.R_mono (Kd.R_far (p := ⟨gb225, 1, none⟩) (Kd.R_far (p := ⟨gb225, 0, none⟩) (Kd.R_types HO223.out BK225.out (by decide)) (fun _ hk => hk.2) (.int .i64 t220)) (fun _ hk => hk.2) (.slice Ao25 t221.length co25)) (fun _ h_ => h_.1))))) (below_size (by repeat (first | (with_reducible first | exact HB.out | apply bwA | apply bwN | apply bwD | refine below_set ?_ GE214.out | refine below_set ?_ GE225.out) | exact HB.out)))); have n3_ := Aside0.mk (blk_below (g := gb214) (o := .cells #[.int .i64 a0_0, .slice A0_1 l0_1.length c0_1] 24 (0, 0)) (by (with_reducible repeat (first | refine blk_drewN ?_ _ | refine blk_drew ?_ | refine blk_alloc ?_ _)); refine blk_far ?_ NB214_225.out _; (with_reducible repeat (first | refine blk_drewN ?_ _ | refine blk_drew ?_ | refine blk_alloc ?_ _)); refine blk_far ?_ NB214_225.out _; (with_reducible repeat (first | refine blk_drewN ?_ _ | refine blk_drew ?_ | refine blk_alloc ?_ _)); exact BK214.out) hb); have n4_ := Aside0.mk (blk_below (g := gb225) (o := .cells #[.int .i64 t220, .slice Ao25 t221.length co25] 28 (0, 0)) (by (with_reducible repeat (first | refine blk_drewN ?_ _ | refine blk_drew ?_ | refine blk_alloc ?_ _)); refine blk_put (cs := #[.int .i64 t220, .slice none 0 0]) ?_ 1 _ rfl; (with_reducible repeat (first | refine blk_drewN ?_ _ | refine blk_drew ?_ | refine blk_alloc ?_ _)); refine blk_put (cs := #[.int .i64 0, .slice none 0 0]) ?_ 0 _ rfl; (with_reducible repeat (first | refine blk_drewN ?_ _ | refine blk_drew ?_ | refine blk_alloc ?_ _)); exact BK225.out) hb); have n5_ := Aside0.mk (below_step (by repeat (first | (with_reducible first | exact HB.out | apply bwA | apply bwN | apply bwD | refine below_set ?_ GE214.out | refine below_set ?_ GE225.out) | exact HB.out)) hb); clear HO219; clear HO223; clear BK214; clear BK225; clear HB; have HO219 := n0_; have HO223 := n1_; have HO229 := n2_; have BK214 := n3_; have BK225 := n4_; have HB := n5_; clear n0_ n1_ n2_ n3_ n4_ n5_; (try clear hb); (try clear hb2); (try clear hk); (try clear hi); (try clear ho0)) | ((with_reducible refine gate_dst (N := 12) rfl ?_); refine box_event ?hg (N := 12) ?hd (cs := #[.int .i64 0, .slice none 0 0]) (t := 28) ?hr ?_; (case hd => rfl); (case hg => rfl); (case hr => first | (go_simp; done) | (go_simp; rfl)); intro gb230 hg w28 hbox hb; have n0_ := Aside0.mk (Kd.R_below (by (with_reducible repeat (first | apply Kd.R_alloc | apply Kd.R_drewN | apply Kd.R_drew)); exact HO219.out) hb); have n1_ := Aside0.mk (Kd.R_below (by (with_reducible repeat (first | apply Kd.R_alloc | apply Kd.R_drewN | apply Kd.R_drew)); exact HO223.out) hb); have n2_ := Aside0.mk (Kd.R_below (by (with_reducible repeat (first | apply Kd.R_alloc | apply Kd.R_drewN | apply Kd.R_drew)); exact HO229.out) hb); have n3_ := Aside0.mk (blk_below (g := gb214) (o := .cells #[.int .i64 a0_0, .slice A0_1 l0_1.length c0_1] 24 (0, 0)) (by (with_reducible repeat (first | refine blk_drewN ?_ _ | refine blk_drew ?_ | refine blk_alloc ?_ _)); exact BK214.out) hb); have n4_ := Aside0.mk (blk_below (g := gb225) (o := .cells #[.int .i64 t220, .slice Ao25 t221.length co25] 28 (0, 0)) (by (with_reducible repeat (first | refine blk_drewN ?_ _ | refine blk_drew ?_ | refine blk_alloc ?_ _)); exact BK225.out) hb); have n5_ := Aside0.mk (below_step (by repeat (first | (with_reducible first | exact HB.out | apply bwA | apply bwN | apply bwD | refine below_set ?_ GE214.out | refine below_set ?_ GE225.out) | exact HB.out)) hb); have n6_ := Aside0.mk (hbox); have n7_ := Aside0.mk ((by rw [hg]; exact (below_size (by repeat (first | (with_reducible first | exact HB.out | apply bwA | apply bwN | apply bwD | refine below_set ?_ GE214.out | refine below_set ?_ GE225.out) | exact HB.out))) : w.heap.size ≤ gb230)); have n8_ := Aside0.mk ((by rw [hg]; exact (below_size (by repeat (first | (with_reducible first | exact HB.out | apply bwA | apply bwN | apply bwD | refine below_set ?_ GE214.out | refine below_set ?_ GE225.out) | exact HB.out))) : w.heap.size ≤ gb230)); have n9_ := Aside0.mk ((by rw [hg]; exact Nat.ne_of_lt (blk_lt (g := gb214) (o := .cells #[.int .i64 a0_0, .slice A0_1 l0_1.length c0_1] 24 (0, 0)) (by (with_reducible repeat (first | refine blk_drewN ?_ _ | refine blk_drew ?_ | refine blk_alloc ?_ _)); exact BK214.out)) : gb214 ≠ gb230)); have n10_ := Aside0.mk ((by rw [hg]; exact Nat.ne_of_gt (blk_lt (g := gb214) (o := .cells #[.int .i64 a0_0, .slice A0_1 l0_1.length c0_1] 24 (0, 0)) (by (with_reducible repeat (first | refine blk_drewN ?_ _ | refine blk_drew ?_ | refine blk_alloc ?_ _)); exact BK214.out)) : gb230 ≠ gb214)); have n11_ := Aside0.mk ((by rw [hg]; exact Nat.ne_of_lt (blk_lt (g := gb225) (o := .cells #[.int .i64 t220, .slice Ao25 t221.length co25] 28 (0, 0)) (by (with_reducible repeat (first | refine blk_drewN ?_ _ | refine blk_drew ?_ | refine blk_alloc ?_ _)); exact BK225.out)) : gb225 ≠ gb230)); have n12_ := Aside0.mk ((by rw [hg]; exact Nat.ne_of_gt (blk_lt (g := gb225) (o := .cells #[.int .i64 t220, .slice Ao25 t221.length co25] 28 (0, 0)) (by (with_reducible repeat (first | refine blk_drewN ?_ _ | refine blk_drew ?_ | refine blk_alloc ?_ _)); exact BK225.out)) : gb230 ≠ gb225)); clear HO219; clear HO223; clear HO229; clear BK214; clear BK225; clear HB; have HO219 := n0_; have HO223 := n1_; have HO229 := n2_; have BK214 := n3_; have BK225 := n4_; have HB := n5_; have BK230 := n6_; have GW230 := n7_; have GE230 := n8_; have NB214_230 := n9_; have NB230_214 := n10_; have NB225_230 := n11_; have NB230_225 := n12_; clear n0_ n1_ n2_ n3_ n4_ n5_ n6_ n7_ n8_ n9_ n10_ n11_ n12_; clear hb hbox hg; have hnb29 := NB230_214.out; have hnc29 := NB214_230.out; have hnb30 := NB230_225.out; have hnc30 := NB225_230.out; have hcz31_0 : w28.cell? ⟨gb230, 0, none⟩ = some (.int .i64 0) := (blk_cell BK230.out 0).trans rfl; have hcz31_1 : w28.cell? ⟨gb230, 1, none⟩ = some (.slice none 0 0) := (blk_cell BK230.out 1).trans rfl; have hfz31_0 := blk_frozen BK230.out 0; have hfz31_1 := blk_frozen BK230.out 1; obtain ⟨Ao32, co32, eo32⟩ := Kd.R_slice HO229.out; subst eo32) | ((with_reducible refine gate_callee (f := 25) rfl ?_); refine goesL_ (some 41) rfl rfl Try.func25 (by kernel_rfl) rfl #[.agg #[.int .i64 t226, .slice Ao32 t227.length co32], .int .i64 a1, .int .i64 a2, .int .i64 a3] rfl (by (try simp only [List.map_toArray, List.map_cons, List.map_nil]); first | done | rfl | (simp only [List.length_drop, List.length_take]; rfl)) ?_; (with_reducible refine (impl_Fixed.calls k t226 _ _ t227 a1 a2 a3 t231 t232 t235 _ ?side1 ?side2 A13.out).mono ?_); (case side1 => refine (Kd.R_reads' (e := 92) (base := w.heap.size) (ok := fun k_ => ((True ∧ some k_ ≠ (.slice Ao20 t217.length co20 : Value).ownBlock) ∧ some k_ ≠ (.slice Ao25 t221.length co25 : Value).ownBlock)) (n := t227.length) (c := co32) ?_).2.2; exact (by (with_reducible repeat (first | apply Kd.R_alloc | apply Kd.R_drewN | apply Kd.R_drew)); exact (Kd.R_mono (Kd.R_far (p := ⟨gb230, 1, none⟩) (Kd.R_far (p := ⟨gb230, 0, none⟩) (Kd.R_types HO229.out BK230.out (by decide)) (fun _ hk => hk.2) (.int .i64 t226)) (fun _ hk => hk.2) (.slice Ao32 t227.length co32)) (fun _ h_ => h_.1)))); (case side2 => exact (Kd.R_reads' HO229.out).2.1); rintro e w33 ⟨v233, rfl, ho0, hb⟩; refine ⟨_, rfl, ?_⟩; have n0_ := Aside0.mk (Kd.R_elder' (by (with_reducible repeat (first | apply Kd.R_alloc | apply Kd.R_drewN | apply Kd.R_drew)); exact (Kd.R_mono (Kd.R_far (p := ⟨gb230, 1, none⟩) (Kd.R_far (p := ⟨gb230, 0, none⟩) (Kd.R_types HO219.out BK230.out (by decide)) (fun _ hk => hk.2) (.int .i64 t226)) (fun _ hk => hk.2) (.slice Ao32 t227.length co32)) (fun _ h_ => h_.1))) (Kd.R_base ho0) hb); have n1_ := Aside0.mk (Kd.R_elder' (by (with_reducible repeat (first | apply Kd.R_alloc | apply Kd.R_drewN | apply Kd.R_drew)); exact (Kd.R_mono (Kd.R_far (p := ⟨gb230, 1, none⟩) (Kd.R_far (p := ⟨gb230, 0, none⟩) (Kd.R_types HO223.out BK230.out (by decide)) (fun _ hk => hk.2) (.int .i64 t226)) (fun _ hk => hk.2) (.slice Ao32 t227.length co32)) (fun _ h_ => h_.1))) (Kd.R_base ho0) hb); have n2_ := Aside0.mk (Kd.R_elder' (by (with_reducible repeat (first | apply Kd.R_alloc | apply Kd.R_drewN | apply Kd.R_drew)); exact (Kd.R_mono (Kd.R_far (p := ⟨gb230, 1, none⟩) (Kd.R_far (p := ⟨gb230, 0, none⟩) (Kd.R_types HO229.out BK230.out (by decide)) (fun _ hk => hk.2) (.int .i64 t226)) (fun _ hk => hk.2) (.slice Ao32 t227.length co32)) (fun _ h_ => h_.1))) (Kd.R_base ho0) hb); have n3_ := Aside0.mk (Kd.R_lower (Kd.R_new' (Kd.R_new' (Kd.R_new' ho0 (Kd.R_lt (by (with_reducible repeat (first | apply Kd.R_alloc | apply Kd.R_drewN | apply Kd.R_drew)); exact (Kd.R_mono (Kd.R_far (p := ⟨gb230, 1, none⟩) (Kd.R_far (p := ⟨gb230, 0, none⟩) (Kd.R_types HO219.out BK230.out (by decide)) (fun _ hk => hk.2) (.int .i64 t226)) (fun _ hk => hk.2) (.slice Ao32 t227.length co32)) (fun _ h_ => h_.1))))) (Kd.R_lt (by (with_reducible repeat (first | apply Kd.R_alloc | apply Kd.R_drewN | apply Kd.R_drew)); exact (Kd.R_mono (Kd.R_far (p := ⟨gb230, 1, none⟩) (Kd.R_far (p := ⟨gb230, 0, none⟩) (Kd.R_types HO223.out BK230.out (by decide)) (fun _ hk => hk.2) (.int .i64 t226)) (fun _ hk => hk.2) (.slice Ao32 t227.length co32)) (fun _ h_ => h_.1))))) (Kd.R_lt (by (with_reducible repeat (first | apply Kd.R_alloc | apply Kd.R_drewN | apply Kd.R_drew)); exact (Kd.R_mono (Kd.R_far (p := ⟨gb230, 1, none⟩) (Kd.R_far (p := ⟨gb230, 0, none⟩) (Kd.R_types HO229.out BK230.out (by decide)) (fun _ hk => hk.2) (.int .i64 t226)) (fun _ hk => hk.2) (.slice Ao32 t227.length co32)) (fun _ h_ => h_.1))))) (below_size (by repeat (first | (with_reducible first | exact HB.out | apply bwA | apply bwN | apply bwD | refine below_set ?_ GE214.out | refine below_set ?_ GE225.out | refine below_set ?_ GE230.out) | exact HB.out)))); have n4_ := Aside0.mk (blk_below (g := gb214) (o := .cells #[.int .i64 a0_0, .slice A0_1 l0_1.length c0_1] 24 (0, 0)) (by (with_reducible repeat (first | refine blk_drewN ?_ _ | refine blk_drew ?_ | refine blk_alloc ?_ _)); refine blk_far ?_ NB214_230.out _; (with_reducible repeat (first | refine blk_drewN ?_ _ | refine blk_drew ?_ | refine blk_alloc ?_ _)); refine blk_far ?_ NB214_230.out _; (with_reducible repeat (first | refine blk_drewN ?_ _ | refine blk_drew ?_ | refine blk_alloc ?_ _)); exact BK214.out) hb); have n5_ := Aside0.mk (blk_below (g := gb225) (o := .cells #[.int .i64 t220, .slice Ao25 t221.length co25] 28 (0, 0)) (by (with_reducible repeat (first | refine blk_drewN ?_ _ | refine blk_drew ?_ | refine blk_alloc ?_ _)); refine blk_far ?_ NB225_230.out _; (with_reducible repeat (first | refine blk_drewN ?_ _ | refine blk_drew ?_ | refine blk_alloc ?_ _)); refine blk_far ?_ NB225_230.out _; (with_reducible repeat (first | refine blk_drewN ?_ _ | refine blk_drew ?_ | refine blk_alloc ?_ _)); exact BK225.out) hb); have n6_ := Aside0.mk (blk_below (g := gb230) (o := .cells #[.int .i64 t226, .slice Ao32 t227.length co32] 28 (0, 0)) (by (with_reducible repeat (first | refine blk_drewN ?_ _ | refine blk_drew ?_ | refine blk_alloc ?_ _)); refine blk_put (cs := #[.int .i64 t226, .slice none 0 0]) ?_ 1 _ rfl; (with_reducible repeat (first | refine blk_drewN ?_ _ | refine blk_drew ?_ | refine blk_alloc ?_ _)); refine blk_put (cs := #[.int .i64 0, .slice none 0 0]) ?_ 0 _ rfl; (with_reducible repeat (first | refine blk_drewN ?_ _ | refine blk_drew ?_ | refine blk_alloc ?_ _)); exact BK230.out) hb); have n7_ := Aside0.mk (below_step (by repeat (first | (with_reducible first | exact HB.out | apply bwA | apply bwN | apply bwD | refine below_set ?_ GE214.out | refine below_set ?_ GE225.out | refine below_set ?_ GE230.out) | exact HB.out)) hb); clear HO219; clear HO223; clear HO229; clear BK214; clear BK225; clear BK230; clear HB; have HO219 := n0_; have HO223 := n1_; have HO229 := n2_; have HO234 := n3_; have BK214 := n4_; have BK225 := n5_; have BK230 := n6_; have HB := n7_; clear n0_ n1_ n2_ n3_ n4_ n5_ n6_ n7_; (try clear hb); (try clear hb2); (try clear hk); (try clear hi); (try clear ho0)) | ((with_reducible refine gate_dst (N := 13) rfl ?_); refine box_event ?hg (N := 13) ?hd (cs := #[.int .i64 0, .slice none 0 0]) (t := 28) ?hr ?_; (case hd => rfl); (case hg => rfl); (case hr => first | (go_simp; done) | (go_simp; rfl)); intro gb236 hg w34 hbox hb; have n0_ := Aside0.mk (Kd.R_below (by (with_reducible repeat (first | apply Kd.R_alloc | apply Kd.R_drewN | apply Kd.R_drew)); exact HO219.out) hb); have n1_ := Aside0.mk (Kd.R_below (by (with_reducible repeat (first | apply Kd.R_alloc | apply Kd.R_drewN | apply Kd.R_drew)); exact HO223.out) hb); have n2_ := Aside0.mk (Kd.R_below (by (with_reducible repeat (first | apply Kd.R_alloc | apply Kd.R_drewN | apply Kd.R_drew)); exact HO229.out) hb); have n3_ := Aside0.mk (Kd.R_below (by (with_reducible repeat (first | apply Kd.R_alloc | apply Kd.R_drewN | apply Kd.R_drew)); exact HO234.out) hb); have n4_ := Aside0.mk (blk_below (g := gb214) (o := .cells #[.int .i64 a0_0, .slice A0_1 l0_1.length c0_1] 24 (0, 0)) (by (with_reducible repeat (first | refine blk_drewN ?_ _ | refine blk_drew ?_ | refine blk_alloc ?_ _)); exact BK214.out) hb); have n5_ := Aside0.mk (blk_below (g := gb225) (o := .cells #[.int .i64 t220, .slice Ao25 t221.length co25] 28 (0, 0)) (by (with_reducible repeat (first | refine blk_drewN ?_ _ | refine blk_drew ?_ | refine blk_alloc ?_ _)); exact BK225.out) hb); have n6_ := Aside0.mk (blk_below (g := gb230) (o := .cells #[.int .i64 t226, .slice Ao32 t227.length co32] 28 (0, 0)) (by (with_reducible repeat (first | refine blk_drewN ?_ _ | refine blk_drew ?_ | refine blk_alloc ?_ _)); exact BK230.out) hb); have n7_ := Aside0.mk (below_step (by repeat (first | (with_reducible first | exact HB.out | apply bwA | apply bwN | apply bwD | refine below_set ?_ GE214.out | refine below_set ?_ GE225.out | refine below_set ?_ GE230.out) | exact HB.out)) hb); have n8_ := Aside0.mk (hbox); have n9_ := Aside0.mk ((by rw [hg]; exact (below_size (by repeat (first | (with_reducible first | exact HB.out | apply bwA | apply bwN | apply bwD | refine below_set ?_ GE214.out | refine below_set ?_ GE225.out | refine below_set ?_ GE230.out) | exact HB.out))) : w.heap.size ≤ gb236)); have n10_ := Aside0.mk ((by rw [hg]; exact (below_size (by repeat (first | (with_reducible first | exact HB.out | apply bwA | apply bwN | apply bwD | refine below_set ?_ GE214.out | refine below_set ?_ GE225.out | refine below_set ?_ GE230.out) | exact HB.out))) : w.heap.size ≤ gb236)); have n11_ := Aside0.mk ((by rw [hg]; exact Nat.ne_of_lt (blk_lt (g := gb214) (o := .cells #[.int .i64 a0_0, .slice A0_1 l0_1.length c0_1] 24 (0, 0)) (by (with_reducible repeat (first | refine blk_drewN ?_ _ | refine blk_drew ?_ | refine blk_alloc ?_ _)); exact BK214.out)) : gb214 ≠ gb236)); have n12_ := Aside0.mk ((by rw [hg]; exact Nat.ne_of_gt (blk_lt (g := gb214) (o := .cells #[.int .i64 a0_0, .slice A0_1 l0_1.length c0_1] 24 (0, 0)) (by (with_reducible repeat (first | refine blk_drewN ?_ _ | refine blk_drew ?_ | refine blk_alloc ?_ _)); exact BK214.out)) : gb236 ≠ gb214)); have n13_ := Aside0.mk ((by rw [hg]; exact Nat.ne_of_lt (blk_lt (g := gb225) (o := .cells #[.int .i64 t220, .slice Ao25 t221.length co25] 28 (0, 0)) (by (with_reducible repeat (first | refine blk_drewN ?_ _ | refine blk_drew ?_ | refine blk_alloc ?_ _)); exact BK225.out)) : gb225 ≠ gb236)); have n14_ := Aside0.mk ((by rw [hg]; exact Nat.ne_of_gt (blk_lt (g := gb225) (o := .cells #[.int .i64 t220, .slice Ao25 t221.length co25] 28 (0, 0)) (by (with_reducible repeat (first | refine blk_drewN ?_ _ | refine blk_drew ?_ | refine blk_alloc ?_ _)); exact BK225.out)) : gb236 ≠ gb225)); have n15_ := Aside0.mk ((by rw [hg]; exact Nat.ne_of_lt (blk_lt (g := gb230) (o := .cells #[.int .i64 t226, .slice Ao32 t227.length co32] 28 (0, 0)) (by (with_reducible repeat (first | refine blk_drewN ?_ _ | refine blk_drew ?_ | refine blk_alloc ?_ _)); exact BK230.out)) : gb230 ≠ gb236)); have n16_ := Aside0.mk ((by rw [hg]; exact Nat.ne_of_gt (blk_lt (g := gb230) (o := .cells #[.int .i64 t226, .slice Ao32 t227.length co32] 28 (0, 0)) (by (with_reducible repeat (first | refine blk_drewN ?_ _ | refine blk_drew ?_ | refine blk_alloc ?_ _)); exact BK230.out)) : gb236 ≠ gb230)); clear HO219; clear HO223; clear HO229; clear HO234; clear BK214; clear BK225; clear BK230; clear HB; have HO219 := n0_; have HO223 := n1_; have HO229 := n2_; have HO234 := n3_; have BK214 := n4_; have BK225 := n5_; have BK230 := n6_; have HB := n7_; have BK236 := n8_; have GW236 := n9_; have GE236 := n10_; have NB214_236 := n11_; have NB236_214 := n12_; have NB225_236 := n13_; have NB236_225 := n14_; have NB230_236 := n15_; have NB236_230 := n16_; clear n0_ n1_ n2_ n3_ n4_ n5_ n6_ n7_ n8_ n9_ n10_ n11_ n12_ n13_ n14_ n15_ n16_; clear hb hbox hg; have hnb35 := NB236_214.out; have hnc35 := NB214_236.out; have hnb36 := NB236_225.out; have hnc36 := NB225_236.out; have hnb37 := NB236_230.out; have hnc37 := NB230_236.out; have hcz38_0 : w34.cell? ⟨gb236, 0, none⟩ = some (.int .i64 0) := (blk_cell BK236.out 0).trans rfl; have hcz38_1 : w34.cell? ⟨gb236, 1, none⟩ = some (.slice none 0 0) := (blk_cell BK236.out 1).trans rfl; have hfz38_0 := blk_frozen BK236.out 0; have hfz38_1 := blk_frozen BK236.out 1; obtain ⟨Ao39, co39, eo39⟩ := Kd.R_slice HO234.out; subst eo39))
  (try simp only [Act.put, List.setIfInBounds_toArray, List.set_cons_zero, List.set_cons_succ])
  go_cut [52] (fun v52 wc => ∃ (kq : Nat) (x52_13 : Bool), v52 = .bool x52_13 ∧ Aside0 (laws_FnExactFixed.j0 kq a1 a2 a3 t224 t235 x52_13 a0_0 l0_1 t220 t221 t226 t227 t231 t232 = some r) ∧ Aside0 (kq ≤ k) ∧ Aside0 (Kd.R k92 92 wc w.heap.size (fun k_ => some k_ ≠ ((.slice Ao32 t227.length co32) : Value).ownBlock ∧ some k_ ≠ ((.slice Ao39 t232.length co39) : Value).ownBlock) (.slice Ao25 t221.length co25) t221) ∧ Aside0 (Kd.R k92 92 wc w.heap.size (fun k_ => some k_ ≠ ((.slice Ao25 t221.length co25) : Value).ownBlock ∧ some k_ ≠ ((.slice Ao39 t232.length co39) : Value).ownBlock) (.slice Ao32 t227.length co32) t227) ∧ Aside0 (Kd.R k92 92 wc w.heap.size (fun k_ => some k_ ≠ ((.slice Ao25 t221.length co25) : Value).ownBlock ∧ some k_ ≠ ((.slice Ao32 t227.length co32) : Value).ownBlock) (.slice Ao39 t232.length co39) t232) ∧ Aside0 (wc.heap[gb214]? = some (.cells #[.int .i64 a0_0, (.slice A0_1 l0_1.length c0_1)] 24 (0, 0))) ∧ Aside0 (wc.heap[gb225]? = some (.cells #[.int .i64 t220, (.slice Ao25 t221.length co25)] 28 (0, 0))) ∧ Aside0 (wc.heap[gb230]? = some (.cells #[.int .i64 t226, (.slice Ao32 t227.length co32)] 28 (0, 0))) ∧ Aside0 (wc.heap[gb236]? = some (.cells #[.int .i64 t231, (.slice Ao39 t232.length co39)] 28 (0, 0))) ∧ Aside0 (Below w.heap.size w wc))
  case first =>
   have H := HC14.out
   clear HC14
   replace H := Option.bind_eq_some_iff.mp H
   obtain ⟨t237, A400, H⟩ := H
   replace H : (if t237 = true then (laws_FnExactFixed.j0 k a1 a2 a3 t224 t235 (t235 != t224) a0_0 l0_1 t220 t221 t226 t227 t231 t232) else (laws_FnExactFixed.j0 k a1 a2 a3 t224 t235 true a0_0 l0_1 t220 t221 t226 t227 t231 t232)) = some r := H
   have A40 := Aside0.mk A400
   clear A400
   by_cases c41 : t237 = true
   ·subst c41
    have H1 : (laws_FnExactFixed.j0 k a1 a2 a3 t224 t235 (t235 != t224) a0_0 l0_1 t220 t221 t226 t227 t231 t232) = some r := by rw [if_pos rfl] at H; exact H
    clear H
    have H := H1
    clear H1
    have H' := Aside0.mk H
    clear H
    have hnb42 := NB236_214.out
    have hnc42 := NB214_236.out
    have hnb43 := NB236_225.out
    have hnc43 := NB225_236.out
    have hnb44 := NB236_230.out
    have hnc44 := NB230_236.out
    have hcz45_0 : w34.cell? ⟨gb236, 0, none⟩ = some (.int .i64 0) := (blk_cell BK236.out 0).trans rfl
    have hcz45_1 : w34.cell? ⟨gb236, 1, none⟩ = some (.slice none 0 0) := (blk_cell BK236.out 1).trans rfl
    have hfz45_0 := blk_frozen BK236.out 0
    have hfz45_1 := blk_frozen BK236.out 1
    have hnb46 := NB225_214.out
    have hnc46 := NB214_225.out
    have hnb47 := NB225_230.out
    have hnc47 := NB230_225.out
    have hcz48_0 : w34.cell? ⟨gb225, 0, none⟩ = some (.int .i64 t220) := (blk_cell BK225.out 0).trans rfl
    have hcz48_1 : w34.cell? ⟨gb225, 1, none⟩ = some (.slice Ao25 t221.length co25) := (blk_cell BK225.out 1).trans rfl
    have hfz48_0 := blk_frozen BK225.out 0
    have hfz48_1 := blk_frozen BK225.out 1
    go_wp2_with (first | ((with_reducible refine gate_callee (f := 16) rfl ?_); refine goesL_ (some 46) rfl rfl Try.func16 (by kernel_rfl) rfl #[.agg #[.int .i64 t231, .slice Ao39 t232.length co39], .agg #[.int .i64 t220, .slice Ao25 t221.length co25]] rfl (by (try simp only [List.map_toArray, List.map_cons, List.map_nil]); first | done | rfl | (simp only [List.length_drop, List.length_take]; rfl)) ?_; (with_reducible refine (laws_eqCircuit.calls k t231 _ _ t232 t220 _ _ t221 true _ ?side1 ?side2 ?side3 ?side4 A40.out).mono ?_); (case side1 => refine (Kd.R_reads' (e := 92) (base := w.heap.size) (ok := fun k_ => (((True ∧ some k_ ≠ (.slice Ao20 t217.length co20 : Value).ownBlock) ∧ some k_ ≠ (.slice Ao25 t221.length co25 : Value).ownBlock) ∧ some k_ ≠ (.slice Ao32 t227.length co32 : Value).ownBlock)) (n := t232.length) (c := co39) ?_).2.2; exact (by (with_reducible repeat (first | apply Kd.R_alloc | apply Kd.R_drewN | apply Kd.R_drew)); exact (Kd.R_mono (Kd.R_far (p := ⟨gb236, 1, none⟩) (Kd.R_far (p := ⟨gb236, 0, none⟩) (Kd.R_types HO234.out BK236.out (by decide)) (fun _ hk => hk.2) (.int .i64 t231)) (fun _ hk => hk.2) (.slice Ao39 t232.length co39)) (fun _ h_ => h_.1)))); (case side2 => exact (Kd.R_reads' HO234.out).2.1); (case side3 => refine (Kd.R_reads' (e := 92) (base := w.heap.size) (ok := fun k_ => (((True ∧ some k_ ≠ (.slice Ao20 t217.length co20 : Value).ownBlock) ∧ some k_ ≠ (.slice Ao32 t227.length co32 : Value).ownBlock) ∧ some k_ ≠ (.slice Ao39 t232.length co39 : Value).ownBlock)) (n := t221.length) (c := co25) ?_).2.2; exact (by (with_reducible repeat (first | apply Kd.R_alloc | apply Kd.R_drewN | apply Kd.R_drew)); exact (Kd.R_mono (Kd.R_far (p := ⟨gb236, 1, none⟩) (Kd.R_far (p := ⟨gb236, 0, none⟩) (Kd.R_types HO223.out BK236.out (by decide)) (fun _ hk => hk.2) (.int .i64 t231)) (fun _ hk => hk.2) (.slice Ao39 t232.length co39)) (fun _ h_ => h_.1)))); (case side4 => exact (Kd.R_reads' HO223.out).2.1); rintro e w49 ⟨rfl, hb⟩; refine ⟨_, rfl, ?_⟩; have n0_ := Aside0.mk (Kd.R_below (by (with_reducible repeat (first | apply Kd.R_alloc | apply Kd.R_drewN | apply Kd.R_drew)); exact (Kd.R_mono (Kd.R_far (p := ⟨gb236, 1, none⟩) (Kd.R_far (p := ⟨gb236, 0, none⟩) (Kd.R_types HO219.out BK236.out (by decide)) (fun _ hk => hk.2) (.int .i64 t231)) (fun _ hk => hk.2) (.slice Ao39 t232.length co39)) (fun _ h_ => h_.1))) hb); have n1_ := Aside0.mk (Kd.R_below (by (with_reducible repeat (first | apply Kd.R_alloc | apply Kd.R_drewN | apply Kd.R_drew)); exact (Kd.R_mono (Kd.R_far (p := ⟨gb236, 1, none⟩) (Kd.R_far (p := ⟨gb236, 0, none⟩) (Kd.R_types HO223.out BK236.out (by decide)) (fun _ hk => hk.2) (.int .i64 t231)) (fun _ hk => hk.2) (.slice Ao39 t232.length co39)) (fun _ h_ => h_.1))) hb); have n2_ := Aside0.mk (Kd.R_below (by (with_reducible repeat (first | apply Kd.R_alloc | apply Kd.R_drewN | apply Kd.R_drew)); exact (Kd.R_mono (Kd.R_far (p := ⟨gb236, 1, none⟩) (Kd.R_far (p := ⟨gb236, 0, none⟩) (Kd.R_types HO229.out BK236.out (by decide)) (fun _ hk => hk.2) (.int .i64 t231)) (fun _ hk => hk.2) (.slice Ao39 t232.length co39)) (fun _ h_ => h_.1))) hb); have n3_ := Aside0.mk (Kd.R_below (by (with_reducible repeat (first | apply Kd.R_alloc | apply Kd.R_drewN | apply Kd.R_drew)); exact (Kd.R_mono (Kd.R_far (p := ⟨gb236, 1, none⟩) (Kd.R_far (p := ⟨gb236, 0, none⟩) (Kd.R_types HO234.out BK236.out (by decide)) (fun _ hk => hk.2) (.int .i64 t231)) (fun _ hk => hk.2) (.slice Ao39 t232.length co39)) (fun _ h_ => h_.1))) hb); have n4_ := Aside0.mk (blk_below (g := gb214) (o := .cells #[.int .i64 a0_0, .slice A0_1 l0_1.length c0_1] 24 (0, 0)) (by (with_reducible repeat (first | refine blk_drewN ?_ _ | refine blk_drew ?_ | refine blk_alloc ?_ _)); refine blk_far ?_ NB214_236.out _; (with_reducible repeat (first | refine blk_drewN ?_ _ | refine blk_drew ?_ | refine blk_alloc ?_ _)); refine blk_far ?_ NB214_236.out _; (with_reducible repeat (first | refine blk_drewN ?_ _ | refine blk_drew ?_ | refine blk_alloc ?_ _)); exact BK214.out) hb); have n5_ := Aside0.mk (blk_below (g := gb225) (o := .cells #[.int .i64 t220, .slice Ao25 t221.length co25] 28 (0, 0)) (by (with_reducible repeat (first | refine blk_drewN ?_ _ | refine blk_drew ?_ | refine blk_alloc ?_ _)); refine blk_far ?_ NB225_236.out _; (with_reducible repeat (first | refine blk_drewN ?_ _ | refine blk_drew ?_ | refine blk_alloc ?_ _)); refine blk_far ?_ NB225_236.out _; (with_reducible repeat (first | refine blk_drewN ?_ _ | refine blk_drew ?_ | refine blk_alloc ?_ _)); exact BK225.out) hb); have n6_ := Aside0.mk (blk_below (g := gb230) (o := .cells #[.int .i64 t226, .slice Ao32 t227.length co32] 28 (0, 0)) (by (with_reducible repeat (first | refine blk_drewN ?_ _ | refine blk_drew ?_ | refine blk_alloc ?_ _)); refine blk_far ?_ NB230_236.out _; (with_reducible repeat (first | refine blk_drewN ?_ _ | refine blk_drew ?_ | refine blk_alloc ?_ _)); refine blk_far ?_ NB230_236.out _; (with_reducible repeat (first | refine blk_drewN ?_ _ | refine blk_drew ?_ | refine blk_alloc ?_ _)); exact BK230.out) hb); have n7_ := Aside0.mk (blk_below (g := gb236) (o := .cells #[.int .i64 t231, .slice Ao39 t232.length co39] 28 (0, 0)) (by (with_reducible repeat (first | refine blk_drewN ?_ _ | refine blk_drew ?_ | refine blk_alloc ?_ _)); refine blk_put (cs := #[.int .i64 t231, .slice none 0 0]) ?_ 1 _ rfl; (with_reducible repeat (first | refine blk_drewN ?_ _ | refine blk_drew ?_ | refine blk_alloc ?_ _)); refine blk_put (cs := #[.int .i64 0, .slice none 0 0]) ?_ 0 _ rfl; (with_reducible repeat (first | refine blk_drewN ?_ _ | refine blk_drew ?_ | refine blk_alloc ?_ _)); exact BK236.out) hb); have n8_ := Aside0.mk (below_step (by repeat (first | (with_reducible first | exact HB.out | apply bwA | apply bwN | apply bwD | refine below_set ?_ GE214.out | refine below_set ?_ GE225.out | refine below_set ?_ GE230.out | refine below_set ?_ GE236.out) | exact HB.out)) hb); clear HO219; clear HO223; clear HO229; clear HO234; clear BK214; clear BK225; clear BK230; clear BK236; clear HB; have HO219 := n0_; have HO223 := n1_; have HO229 := n2_; have HO234 := n3_; have BK214 := n4_; have BK225 := n5_; have BK230 := n6_; have BK236 := n7_; have HB := n8_; clear n0_ n1_ n2_ n3_ n4_ n5_ n6_ n7_ n8_; (try clear hb); (try clear hb2); (try clear hk); (try clear hi)))
    go_meet
    case rel => exact ⟨_, ((t235 != t224)), (by first | rfl | (simp; done) | (simp [*]; done)), H', ⟨by first | omega | exact Nat.le_refl _⟩, ⟨by (with_reducible repeat (first | apply Kd.R_alloc | apply Kd.R_drewN | apply Kd.R_drew)); exact Kd.R_mono HO223.out (fun _ hk => ⟨hk.1.2, hk.2⟩)⟩, ⟨by (with_reducible repeat (first | apply Kd.R_alloc | apply Kd.R_drewN | apply Kd.R_drew)); exact Kd.R_mono HO229.out (fun _ hk => ⟨hk.1.2, hk.2⟩)⟩, ⟨by (with_reducible repeat (first | apply Kd.R_alloc | apply Kd.R_drewN | apply Kd.R_drew)); exact Kd.R_mono HO234.out (fun _ hk => ⟨hk.1.2, hk.2⟩)⟩, ⟨by (with_reducible repeat (first | refine blk_drewN ?_ _ | refine blk_drew ?_ | refine blk_alloc ?_ _)); exact BK214.out⟩, ⟨by (with_reducible repeat (first | refine blk_drewN ?_ _ | refine blk_drew ?_ | refine blk_alloc ?_ _)); exact BK225.out⟩, ⟨by (with_reducible repeat (first | refine blk_drewN ?_ _ | refine blk_drew ?_ | refine blk_alloc ?_ _)); exact BK230.out⟩, ⟨by (with_reducible repeat (first | refine blk_drewN ?_ _ | refine blk_drew ?_ | refine blk_alloc ?_ _)); exact BK236.out⟩, ⟨by repeat (first | (with_reducible first | exact HB.out | apply bwA | apply bwN | apply bwD | refine below_set ?_ GE214.out | refine below_set ?_ GE225.out | refine below_set ?_ GE230.out | refine below_set ?_ GE236.out) | exact HB.out)⟩⟩
   ·replace c41 := Bool.eq_false_iff.mpr c41
    subst c41
    have H1 : (laws_FnExactFixed.j0 k a1 a2 a3 t224 t235 true a0_0 l0_1 t220 t221 t226 t227 t231 t232) = some r := by rw [if_neg (show ¬ (false = true) by decide)] at H; exact H
    clear H
    have H := H1
    clear H1
    have H' := Aside0.mk H
    clear H
    have hnb50 := NB236_214.out
    have hnc50 := NB214_236.out
    have hnb51 := NB236_225.out
    have hnc51 := NB225_236.out
    have hnb52 := NB236_230.out
    have hnc52 := NB230_236.out
    have hcz53_0 : w34.cell? ⟨gb236, 0, none⟩ = some (.int .i64 0) := (blk_cell BK236.out 0).trans rfl
    have hcz53_1 : w34.cell? ⟨gb236, 1, none⟩ = some (.slice none 0 0) := (blk_cell BK236.out 1).trans rfl
    have hfz53_0 := blk_frozen BK236.out 0
    have hfz53_1 := blk_frozen BK236.out 1
    have hnb54 := NB225_214.out
    have hnc54 := NB214_225.out
    have hnb55 := NB225_230.out
    have hnc55 := NB230_225.out
    have hcz56_0 : w34.cell? ⟨gb225, 0, none⟩ = some (.int .i64 t220) := (blk_cell BK225.out 0).trans rfl
    have hcz56_1 : w34.cell? ⟨gb225, 1, none⟩ = some (.slice Ao25 t221.length co25) := (blk_cell BK225.out 1).trans rfl
    have hfz56_0 := blk_frozen BK225.out 0
    have hfz56_1 := blk_frozen BK225.out 1
    go_wp2_with (first | ((with_reducible refine gate_callee (f := 16) rfl ?_); refine goesL_ (some 46) rfl rfl Try.func16 (by kernel_rfl) rfl #[.agg #[.int .i64 t231, .slice Ao39 t232.length co39], .agg #[.int .i64 t220, .slice Ao25 t221.length co25]] rfl (by (try simp only [List.map_toArray, List.map_cons, List.map_nil]); first | done | rfl | (simp only [List.length_drop, List.length_take]; rfl)) ?_; (with_reducible refine (laws_eqCircuit.calls k t231 _ _ t232 t220 _ _ t221 false _ ?side1 ?side2 ?side3 ?side4 A40.out).mono ?_); (case side1 => refine (Kd.R_reads' (e := 92) (base := w.heap.size) (ok := fun k_ => (((True ∧ some k_ ≠ (.slice Ao20 t217.length co20 : Value).ownBlock) ∧ some k_ ≠ (.slice Ao25 t221.length co25 : Value).ownBlock) ∧ some k_ ≠ (.slice Ao32 t227.length co32 : Value).ownBlock)) (n := t232.length) (c := co39) ?_).2.2; exact (by (with_reducible repeat (first | apply Kd.R_alloc | apply Kd.R_drewN | apply Kd.R_drew)); exact (Kd.R_mono (Kd.R_far (p := ⟨gb236, 1, none⟩) (Kd.R_far (p := ⟨gb236, 0, none⟩) (Kd.R_types HO234.out BK236.out (by decide)) (fun _ hk => hk.2) (.int .i64 t231)) (fun _ hk => hk.2) (.slice Ao39 t232.length co39)) (fun _ h_ => h_.1)))); (case side2 => exact (Kd.R_reads' HO234.out).2.1); (case side3 => refine (Kd.R_reads' (e := 92) (base := w.heap.size) (ok := fun k_ => (((True ∧ some k_ ≠ (.slice Ao20 t217.length co20 : Value).ownBlock) ∧ some k_ ≠ (.slice Ao32 t227.length co32 : Value).ownBlock) ∧ some k_ ≠ (.slice Ao39 t232.length co39 : Value).ownBlock)) (n := t221.length) (c := co25) ?_).2.2; exact (by (with_reducible repeat (first | apply Kd.R_alloc | apply Kd.R_drewN | apply Kd.R_drew)); exact (Kd.R_mono (Kd.R_far (p := ⟨gb236, 1, none⟩) (Kd.R_far (p := ⟨gb236, 0, none⟩) (Kd.R_types HO223.out BK236.out (by decide)) (fun _ hk => hk.2) (.int .i64 t231)) (fun _ hk => hk.2) (.slice Ao39 t232.length co39)) (fun _ h_ => h_.1)))); (case side4 => exact (Kd.R_reads' HO223.out).2.1); rintro e w57 ⟨rfl, hb⟩; refine ⟨_, rfl, ?_⟩; have n0_ := Aside0.mk (Kd.R_below (by (with_reducible repeat (first | apply Kd.R_alloc | apply Kd.R_drewN | apply Kd.R_drew)); exact (Kd.R_mono (Kd.R_far (p := ⟨gb236, 1, none⟩) (Kd.R_far (p := ⟨gb236, 0, none⟩) (Kd.R_types HO219.out BK236.out (by decide)) (fun _ hk => hk.2) (.int .i64 t231)) (fun _ hk => hk.2) (.slice Ao39 t232.length co39)) (fun _ h_ => h_.1))) hb); have n1_ := Aside0.mk (Kd.R_below (by (with_reducible repeat (first | apply Kd.R_alloc | apply Kd.R_drewN | apply Kd.R_drew)); exact (Kd.R_mono (Kd.R_far (p := ⟨gb236, 1, none⟩) (Kd.R_far (p := ⟨gb236, 0, none⟩) (Kd.R_types HO223.out BK236.out (by decide)) (fun _ hk => hk.2) (.int .i64 t231)) (fun _ hk => hk.2) (.slice Ao39 t232.length co39)) (fun _ h_ => h_.1))) hb); have n2_ := Aside0.mk (Kd.R_below (by (with_reducible repeat (first | apply Kd.R_alloc | apply Kd.R_drewN | apply Kd.R_drew)); exact (Kd.R_mono (Kd.R_far (p := ⟨gb236, 1, none⟩) (Kd.R_far (p := ⟨gb236, 0, none⟩) (Kd.R_types HO229.out BK236.out (by decide)) (fun _ hk => hk.2) (.int .i64 t231)) (fun _ hk => hk.2) (.slice Ao39 t232.length co39)) (fun _ h_ => h_.1))) hb); have n3_ := Aside0.mk (Kd.R_below (by (with_reducible repeat (first | apply Kd.R_alloc | apply Kd.R_drewN | apply Kd.R_drew)); exact (Kd.R_mono (Kd.R_far (p := ⟨gb236, 1, none⟩) (Kd.R_far (p := ⟨gb236, 0, none⟩) (Kd.R_types HO234.out BK236.out (by decide)) (fun _ hk => hk.2) (.int .i64 t231)) (fun _ hk => hk.2) (.slice Ao39 t232.length co39)) (fun _ h_ => h_.1))) hb); have n4_ := Aside0.mk (blk_below (g := gb214) (o := .cells #[.int .i64 a0_0, .slice A0_1 l0_1.length c0_1] 24 (0, 0)) (by (with_reducible repeat (first | refine blk_drewN ?_ _ | refine blk_drew ?_ | refine blk_alloc ?_ _)); refine blk_far ?_ NB214_236.out _; (with_reducible repeat (first | refine blk_drewN ?_ _ | refine blk_drew ?_ | refine blk_alloc ?_ _)); refine blk_far ?_ NB214_236.out _; (with_reducible repeat (first | refine blk_drewN ?_ _ | refine blk_drew ?_ | refine blk_alloc ?_ _)); exact BK214.out) hb); have n5_ := Aside0.mk (blk_below (g := gb225) (o := .cells #[.int .i64 t220, .slice Ao25 t221.length co25] 28 (0, 0)) (by (with_reducible repeat (first | refine blk_drewN ?_ _ | refine blk_drew ?_ | refine blk_alloc ?_ _)); refine blk_far ?_ NB225_236.out _; (with_reducible repeat (first | refine blk_drewN ?_ _ | refine blk_drew ?_ | refine blk_alloc ?_ _)); refine blk_far ?_ NB225_236.out _; (with_reducible repeat (first | refine blk_drewN ?_ _ | refine blk_drew ?_ | refine blk_alloc ?_ _)); exact BK225.out) hb); have n6_ := Aside0.mk (blk_below (g := gb230) (o := .cells #[.int .i64 t226, .slice Ao32 t227.length co32] 28 (0, 0)) (by (with_reducible repeat (first | refine blk_drewN ?_ _ | refine blk_drew ?_ | refine blk_alloc ?_ _)); refine blk_far ?_ NB230_236.out _; (with_reducible repeat (first | refine blk_drewN ?_ _ | refine blk_drew ?_ | refine blk_alloc ?_ _)); refine blk_far ?_ NB230_236.out _; (with_reducible repeat (first | refine blk_drewN ?_ _ | refine blk_drew ?_ | refine blk_alloc ?_ _)); exact BK230.out) hb); have n7_ := Aside0.mk (blk_below (g := gb236) (o := .cells #[.int .i64 t231, .slice Ao39 t232.length co39] 28 (0, 0)) (by (with_reducible repeat (first | refine blk_drewN ?_ _ | refine blk_drew ?_ | refine blk_alloc ?_ _)); refine blk_put (cs := #[.int .i64 t231, .slice none 0 0]) ?_ 1 _ rfl; (with_reducible repeat (first | refine blk_drewN ?_ _ | refine blk_drew ?_ | refine blk_alloc ?_ _)); refine blk_put (cs := #[.int .i64 0, .slice none 0 0]) ?_ 0 _ rfl; (with_reducible repeat (first | refine blk_drewN ?_ _ | refine blk_drew ?_ | refine blk_alloc ?_ _)); exact BK236.out) hb); have n8_ := Aside0.mk (below_step (by repeat (first | (with_reducible first | exact HB.out | apply bwA | apply bwN | apply bwD | refine below_set ?_ GE214.out | refine below_set ?_ GE225.out | refine below_set ?_ GE230.out | refine below_set ?_ GE236.out) | exact HB.out)) hb); clear HO219; clear HO223; clear HO229; clear HO234; clear BK214; clear BK225; clear BK230; clear BK236; clear HB; have HO219 := n0_; have HO223 := n1_; have HO229 := n2_; have HO234 := n3_; have BK214 := n4_; have BK225 := n5_; have BK230 := n6_; have BK236 := n7_; have HB := n8_; clear n0_ n1_ n2_ n3_ n4_ n5_ n6_ n7_ n8_; (try clear hb); (try clear hb2); (try clear hk); (try clear hi)))
    go_meet
    case rel => exact ⟨_, (true), (by first | rfl | (simp; done) | (simp [*]; done)), H', ⟨by first | omega | exact Nat.le_refl _⟩, ⟨by (with_reducible repeat (first | apply Kd.R_alloc | apply Kd.R_drewN | apply Kd.R_drew)); exact Kd.R_mono HO223.out (fun _ hk => ⟨hk.1.2, hk.2⟩)⟩, ⟨by (with_reducible repeat (first | apply Kd.R_alloc | apply Kd.R_drewN | apply Kd.R_drew)); exact Kd.R_mono HO229.out (fun _ hk => ⟨hk.1.2, hk.2⟩)⟩, ⟨by (with_reducible repeat (first | apply Kd.R_alloc | apply Kd.R_drewN | apply Kd.R_drew)); exact Kd.R_mono HO234.out (fun _ hk => ⟨hk.1.2, hk.2⟩)⟩, ⟨by (with_reducible repeat (first | refine blk_drewN ?_ _ | refine blk_drew ?_ | refine blk_alloc ?_ _)); exact BK214.out⟩, ⟨by (with_reducible repeat (first | refine blk_drewN ?_ _ | refine blk_drew ?_ | refine blk_alloc ?_ _)); exact BK225.out⟩, ⟨by (with_reducible repeat (first | refine blk_drewN ?_ _ | refine blk_drew ?_ | refine blk_alloc ?_ _)); exact BK230.out⟩, ⟨by (with_reducible repeat (first | refine blk_drewN ?_ _ | refine blk_drew ?_ | refine blk_alloc ?_ _)); exact BK236.out⟩, ⟨by repeat (first | (with_reducible first | exact HB.out | apply bwA | apply bwN | apply bwD | refine below_set ?_ GE214.out | refine below_set ?_ GE225.out | refine below_set ?_ GE230.out | refine below_set ?_ GE236.out) | exact HB.out)⟩⟩
  case rest =>
   clear HC14
   try clear c1
   try clear c2
   try clear p2
   try clear c3
   try clear c4
   try clear c5
   try clear c6
   try clear c6b0
   try clear c12
   try clear c14
   try clear c16
   try clear c23
   try clear c24
   try clear c25
   try clear c29
   try clear c30
   try clear c35
   try clear c36
   try clear c37
   try clear c41
   try clear c42
   try clear c43
   try clear c44
   try clear c46
   try clear c47
   try clear c50
   try clear c51
   try clear c52
   try clear c54
   try clear c55
   try clear hcz16_0
   try clear hcz16_1
   try clear hcz18_0
   try clear hcz18_1
   try clear hcz24_0
   try clear hcz24_1
   try clear hcz26_0
   try clear hcz26_1
   try clear hcz31_0
   try clear hcz31_1
   try clear hcz38_0
   try clear hcz38_1
   try clear hcz45_0
   try clear hcz45_1
   try clear hcz48_0
   try clear hcz48_1
   try clear hcz53_0
   try clear hcz53_1
   try clear hcz56_0
   try clear hcz56_1
   try clear hcz8_0
   try clear hcz8_1
   try clear hfz16_0
   try clear hfz16_1
   try clear hfz18_0
   try clear hfz18_1
   try clear hfz24_0
   try clear hfz24_1
   try clear hfz26_0
   try clear hfz26_1
   try clear hfz31_0
   try clear hfz31_1
   try clear hfz38_0
   try clear hfz38_1
   try clear hfz45_0
   try clear hfz45_1
   try clear hfz48_0
   try clear hfz48_1
   try clear hfz53_0
   try clear hfz53_1
   try clear hfz56_0
   try clear hfz56_1
   try clear hfz8_0
   try clear hfz8_1
   obtain ⟨kq, x52_13, rfl, HA, HJ13, HO_226001, HO_231001, HO_237001, BK214, BK225, BK230, BK236, HB⟩ := hcut
   cases kq with
   | zero => exact absurd HA.out (by simp [laws_FnExactFixed.j0])
   | succ kj13 =>
    have H := HA.out
    clear HA
    simp only [laws_FnExactFixed.j0] at H
    by_cases c58 : x52_13 = true
    ·subst c58
     have H1 : (some false) = some r := by rw [if_pos rfl] at H; exact H
     clear H
     have H := H1
     clear H1
     obtain rfl := Option.some.inj H
     go_wp2
     go_ret
     exact ⟨by first | rfl | (simp [errW_none, errW_some] <;> rfl) | (simp [*, errW_none, errW_some] <;> rfl), by repeat (first | (with_reducible first | exact HB.out | apply bwA | apply bwN | apply bwD | refine below_set ?_ GE214.out | refine below_set ?_ GE225.out | refine below_set ?_ GE230.out | refine below_set ?_ GE236.out) | exact HB.out)⟩
    ·replace c58 := Bool.eq_false_iff.mpr c58
     subst c58
     have H1 : ((laws_toCircuit.f kj13 a0_0 l0_1).bind fun bt238 => ((laws_eqCircuit.f kj13 t226 t227 bt238.1 bt238.2).bind fun t242 => (if t242 = true then ((laws_markCircuit.f kj13 t226 t227 1).bind fun bt243 => (if bt243.1 < 0 then (laws_FnExactFixed.j1 kj13 a1 a2 a3 t224 true a0_0 l0_1 t220 t221 t231 t232) else ((laws_eqCircuit.f kj13 t231 t232 t220 t221).bind fun t245 => (if t245 = true then (laws_FnExactFixed.j1 kj13 a1 a2 a3 t224 (t235 != t224) a0_0 l0_1 t220 t221 t231 t232) else (laws_FnExactFixed.j1 kj13 a1 a2 a3 t224 true a0_0 l0_1 t220 t221 t231 t232))))) else (some false)))) = some r := by rw [if_neg (show ¬ (false = true) by decide)] at H; exact H
     clear H
     have H := H1
     clear H1
     replace H := Option.bind_eq_some_iff.mp H
     obtain ⟨⟨t238, t239⟩, A590, H⟩ := H
     replace H : ((laws_eqCircuit.f kj13 t226 t227 t238 t239).bind fun t242 => (if t242 = true then ((laws_markCircuit.f kj13 t226 t227 1).bind fun bt243 => (if bt243.1 < 0 then (laws_FnExactFixed.j1 kj13 a1 a2 a3 t224 true a0_0 l0_1 t220 t221 t231 t232) else ((laws_eqCircuit.f kj13 t231 t232 t220 t221).bind fun t245 => (if t245 = true then (laws_FnExactFixed.j1 kj13 a1 a2 a3 t224 (t235 != t224) a0_0 l0_1 t220 t221 t231 t232) else (laws_FnExactFixed.j1 kj13 a1 a2 a3 t224 true a0_0 l0_1 t220 t221 t231 t232))))) else (some false))) = some r := H
     have A59 := Aside0.mk A590
     clear A590
     replace H := Option.bind_eq_some_iff.mp H
     obtain ⟨t242, A600, H⟩ := H
     replace H : (if t242 = true then ((laws_markCircuit.f kj13 t226 t227 1).bind fun bt243 => (if bt243.1 < 0 then (laws_FnExactFixed.j1 kj13 a1 a2 a3 t224 true a0_0 l0_1 t220 t221 t231 t232) else ((laws_eqCircuit.f kj13 t231 t232 t220 t221).bind fun t245 => (if t245 = true then (laws_FnExactFixed.j1 kj13 a1 a2 a3 t224 (t235 != t224) a0_0 l0_1 t220 t221 t231 t232) else (laws_FnExactFixed.j1 kj13 a1 a2 a3 t224 true a0_0 l0_1 t220 t221 t231 t232))))) else (some false)) = some r := H
     have A60 := Aside0.mk A600
     clear A600
     by_cases c61 : t242 = true
     ·subst c61
      have H1 : ((laws_markCircuit.f kj13 t226 t227 1).bind fun bt243 => (if bt243.1 < 0 then (laws_FnExactFixed.j1 kj13 a1 a2 a3 t224 true a0_0 l0_1 t220 t221 t231 t232) else ((laws_eqCircuit.f kj13 t231 t232 t220 t221).bind fun t245 => (if t245 = true then (laws_FnExactFixed.j1 kj13 a1 a2 a3 t224 (t235 != t224) a0_0 l0_1 t220 t221 t231 t232) else (laws_FnExactFixed.j1 kj13 a1 a2 a3 t224 true a0_0 l0_1 t220 t221 t231 t232))))) = some r := by rw [if_pos rfl] at H; exact H
      clear H
      have H := H1
      clear H1
      replace H := Option.bind_eq_some_iff.mp H
      obtain ⟨⟨t243, t244⟩, A620, H⟩ := H
      replace H : (if t243 < 0 then (laws_FnExactFixed.j1 kj13 a1 a2 a3 t224 true a0_0 l0_1 t220 t221 t231 t232) else ((laws_eqCircuit.f kj13 t231 t232 t220 t221).bind fun t245 => (if t245 = true then (laws_FnExactFixed.j1 kj13 a1 a2 a3 t224 (t235 != t224) a0_0 l0_1 t220 t221 t231 t232) else (laws_FnExactFixed.j1 kj13 a1 a2 a3 t224 true a0_0 l0_1 t220 t221 t231 t232)))) = some r := H
      have A62 := Aside0.mk A620
      clear A620
      have HC63 := Aside0.mk H
      clear H
      try go_wp2
      have n0_ := Aside0.mk (Kd.R_drew HO_226001.out)
      have n1_ := Aside0.mk (Kd.R_drew HO_231001.out)
      have n2_ := Aside0.mk (Kd.R_drew HO_237001.out)
      have n3_ := Aside0.mk (blk_drew BK214.out)
      have n4_ := Aside0.mk (blk_drew BK225.out)
      have n5_ := Aside0.mk (blk_drew BK230.out)
      have n6_ := Aside0.mk (blk_drew BK236.out)
      have n7_ := Aside0.mk (below_drew1 HB.out)
      clear HO_226001
      clear HO_231001
      clear HO_237001
      clear BK214
      clear BK225
      clear BK230
      clear BK236
      clear HB
      have HO_226001 := n0_
      have HO_231001 := n1_
      have HO_237001 := n2_
      have BK214 := n3_
      have BK225 := n4_
      have BK230 := n5_
      have BK236 := n6_
      have HB := n7_
      clear n0_ n1_ n2_ n3_ n4_ n5_ n6_ n7_
      refine start_ (n := 5) (S := fun w' => w'.cell? ⟨gb230, 0, none⟩ = some (.int .i64 t226) ∧ w'.cell? ⟨gb230, 1, none⟩ = some (.slice Ao32 t227.length co32) ∧ w'.cell? ⟨gb214, 0, none⟩ = some (.int .i64 a0_0) ∧ w'.cell? ⟨gb214, 1, none⟩ = some (.slice A0_1 l0_1.length c0_1)) (ds := []) #[false, false, false, false, false] (by kernel_rfl) rfl rfl ⟨(blk_cell BK230.out 0).trans rfl, (blk_cell BK230.out 1).trans rfl, (blk_cell BK214.out 0).trans rfl, (blk_cell BK214.out 1).trans rfl⟩ (fun hHeld => ?_)
      generalize wc.drew = w64 at HO_226001 HO_231001 HO_237001 BK214 BK225 BK230 BK236 HB hHeld ⊢
      refine take_ (i := 0) (N := some 53) (v := ?_) (a' := ?_) #[true, false, false, false, false] rfl rfl (by kernel_rfl) (fun _ _ _ h => h) (Or.inl ⟨by rfl, ?_⟩) hHeld ?_ ?_
      rotate_left
      ·rintro w' ⟨s0, s1, s2, s3⟩
       go_simp
       with_reducible rfl
      rotate_left
      ·simp only [Act.put, List.setIfInBounds_toArray, List.set_cons_zero, List.set_cons_succ, i64_w, i32_w]
       rfl
      refine take_ (i := 1) (N := some 54) (v := ?_) (a' := ?_) #[true, true, false, false, false] rfl rfl (by kernel_rfl) (fun _ _ _ h => h) (Or.inl ⟨by rfl, ?_⟩) hHeld ?_ ?_
      rotate_left
      ·rintro w' ⟨s0, s1, s2, s3⟩
       go_simp
       with_reducible rfl
      rotate_left
      ·simp only [Act.put, List.setIfInBounds_toArray, List.set_cons_zero, List.set_cons_succ, i64_w, i32_w]
       rfl
      refine one_ (i := 2) (N := some 55) #[true, true, true, false, false] rfl rfl (by kernel_rfl) (by decide) (fun K hK => ?_)
      refine goes_ Try.func14 (by kernel_rfl) rfl #[.agg #[.int .i64 a0_0, .slice A0_1 l0_1.length c0_1]] (by rfl) rfl rfl (by (try simp only [List.map_toArray, List.map_cons, List.map_nil]); first | done | rfl | (simp only [List.length_drop, List.length_take]; rfl)) ?_
      with_reducible refine (laws_toCircuit.calls kj13 a0_0 _ _ l0_1 t238 t239 _ ?side1 ?side2 A59.out).mono ?_
      (case side1 => repeat (first | exact (Kd.C_below HR0_1.out HB.out) | (with_reducible refine Kd.C_alloc ?_ _) | (with_reducible refine Kd.C_drewN ?_ _) | (with_reducible refine Kd.C_drew ?_)))
      (case side2 => exact HC0_1.out)
      rintro e w65 ⟨v240, rfl, ho0, hb⟩
      refine ⟨_, rfl, ?_⟩
      have n0_ := Aside0.mk (Kd.R_elder' (by (with_reducible repeat (first | apply Kd.R_alloc | apply Kd.R_drewN | apply Kd.R_drew)); exact HO_226001.out) (Kd.R_base ho0) hb)
      have n1_ := Aside0.mk (Kd.R_elder' (by (with_reducible repeat (first | apply Kd.R_alloc | apply Kd.R_drewN | apply Kd.R_drew)); exact HO_231001.out) (Kd.R_base ho0) hb)
      have n2_ := Aside0.mk (Kd.R_elder' (by (with_reducible repeat (first | apply Kd.R_alloc | apply Kd.R_drewN | apply Kd.R_drew)); exact HO_237001.out) (Kd.R_base ho0) hb)
      have n3_ := Aside0.mk (Kd.R_lower (Kd.R_new' (Kd.R_new' (Kd.R_new' ho0 (Kd.R_lt (by (with_reducible repeat (first | apply Kd.R_alloc | apply Kd.R_drewN | apply Kd.R_drew)); exact HO_226001.out))) (Kd.R_lt (by (with_reducible repeat (first | apply Kd.R_alloc | apply Kd.R_drewN | apply Kd.R_drew)); exact HO_231001.out))) (Kd.R_lt (by (with_reducible repeat (first | apply Kd.R_alloc | apply Kd.R_drewN | apply Kd.R_drew)); exact HO_237001.out))) (below_size (by repeat (first | (with_reducible first | exact HB.out | apply bwA | apply bwN | apply bwD | refine below_set ?_ GE214.out | refine below_set ?_ GE225.out | refine below_set ?_ GE230.out | refine below_set ?_ GE236.out) | exact HB.out))))
      have n4_ := Aside0.mk (blk_below (g := gb214) (o := .cells #[.int .i64 a0_0, .slice A0_1 l0_1.length c0_1] 24 (0, 0)) (by (with_reducible repeat (first | refine blk_drewN ?_ _ | refine blk_drew ?_ | refine blk_alloc ?_ _)); exact BK214.out) hb)
      have n5_ := Aside0.mk (blk_below (g := gb225) (o := .cells #[.int .i64 t220, .slice Ao25 t221.length co25] 28 (0, 0)) (by (with_reducible repeat (first | refine blk_drewN ?_ _ | refine blk_drew ?_ | refine blk_alloc ?_ _)); exact BK225.out) hb)
      have n6_ := Aside0.mk (blk_below (g := gb230) (o := .cells #[.int .i64 t226, .slice Ao32 t227.length co32] 28 (0, 0)) (by (with_reducible repeat (first | refine blk_drewN ?_ _ | refine blk_drew ?_ | refine blk_alloc ?_ _)); exact BK230.out) hb)
      have n7_ := Aside0.mk (blk_below (g := gb236) (o := .cells #[.int .i64 t231, .slice Ao39 t232.length co39] 28 (0, 0)) (by (with_reducible repeat (first | refine blk_drewN ?_ _ | refine blk_drew ?_ | refine blk_alloc ?_ _)); exact BK236.out) hb)
      have n8_ := Aside0.mk (below_step (by repeat (first | (with_reducible first | exact HB.out | apply bwA | apply bwN | apply bwD | refine below_set ?_ GE214.out | refine below_set ?_ GE225.out | refine below_set ?_ GE230.out | refine below_set ?_ GE236.out) | exact HB.out)) hb)
      clear HO_226001
      clear HO_231001
      clear HO_237001
      clear BK214
      clear BK225
      clear BK230
      clear BK236
      clear HB
      have HO_226001 := n0_
      have HO_231001 := n1_
      have HO_237001 := n2_
      have HO241 := n3_
      have BK214 := n4_
      have BK225 := n5_
      have BK230 := n6_
      have BK236 := n7_
      have HB := n8_
      clear n0_ n1_ n2_ n3_ n4_ n5_ n6_ n7_ n8_
      (try clear hb)
      (try clear hb2)
      (try clear hk)
      (try clear hi)
      (try clear ho0)
      obtain ⟨Ao66, co66, eo66⟩ := Kd.R_slice HO241.out
      (first | subst eo66 | (injection eo66 with f1_ f2_ f3_; have f4_ := f1_.symm; have f5_ := f3_.symm; clear f1_ f2_ f3_; subst f4_; subst f5_))
      refine hK.out _ _ ⟨(blk_cell BK230.out 0).trans rfl, (blk_cell BK230.out 1).trans rfl, (blk_cell BK214.out 0).trans rfl, (blk_cell BK214.out 1).trans rfl⟩ (fun hHeld => ?_)
      clear hK K
      refine norm_ (a' := ?_) ?_ ?_
      rotate_left
      ·show Act.put _ (some 55) _ = _
       simp only [Act.put, List.setIfInBounds_toArray, List.set_cons_zero, List.set_cons_succ, i64_w, i32_w]
       rfl
      refine one_ (i := 3) (N := some 56) #[true, true, true, true, false] rfl rfl (by kernel_rfl) (by decide) (fun K hK => ?_)
      refine goes_ Try.func16 (by kernel_rfl) rfl #[.agg #[.int .i64 t226, .slice Ao32 t227.length co32], .agg #[.int .i64 t238, .slice Ao66 t239.length co66]] (by rfl) rfl rfl (by (try simp only [List.map_toArray, List.map_cons, List.map_nil]); first | done | rfl | (simp only [List.length_drop, List.length_take]; rfl)) ?_
      with_reducible refine (laws_eqCircuit.calls kj13 t226 _ _ t227 t238 _ _ t239 true _ ?side1 ?side2 ?side3 ?side4 A60.out).mono ?_
      (case side1 => repeat (first | exact (Kd.R_reads' HO_231001.out).2.2 | (with_reducible refine Kd.C_alloc ?_ _) | (with_reducible refine Kd.C_drewN ?_ _) | (with_reducible refine Kd.C_drew ?_)))
      (case side2 => exact (Kd.R_reads' HO_231001.out).2.1)
      (case side3 => repeat (first | exact (Kd.R_reads' HO241.out).2.2 | (with_reducible refine Kd.C_alloc ?_ _) | (with_reducible refine Kd.C_drewN ?_ _) | (with_reducible refine Kd.C_drew ?_)))
      (case side4 => exact (Kd.R_reads' HO241.out).2.1)
      rintro e w67 ⟨rfl, hb⟩
      refine ⟨_, rfl, ?_⟩
      have n0_ := Aside0.mk (Kd.R_below (by (with_reducible repeat (first | apply Kd.R_alloc | apply Kd.R_drewN | apply Kd.R_drew)); exact HO_226001.out) hb)
      have n1_ := Aside0.mk (Kd.R_below (by (with_reducible repeat (first | apply Kd.R_alloc | apply Kd.R_drewN | apply Kd.R_drew)); exact HO_231001.out) hb)
      have n2_ := Aside0.mk (Kd.R_below (by (with_reducible repeat (first | apply Kd.R_alloc | apply Kd.R_drewN | apply Kd.R_drew)); exact HO_237001.out) hb)
      have n3_ := Aside0.mk (Kd.R_below (by (with_reducible repeat (first | apply Kd.R_alloc | apply Kd.R_drewN | apply Kd.R_drew)); exact HO241.out) hb)
      have n4_ := Aside0.mk (blk_below (g := gb214) (o := .cells #[.int .i64 a0_0, .slice A0_1 l0_1.length c0_1] 24 (0, 0)) (by (with_reducible repeat (first | refine blk_drewN ?_ _ | refine blk_drew ?_ | refine blk_alloc ?_ _)); exact BK214.out) hb)
      have n5_ := Aside0.mk (blk_below (g := gb225) (o := .cells #[.int .i64 t220, .slice Ao25 t221.length co25] 28 (0, 0)) (by (with_reducible repeat (first | refine blk_drewN ?_ _ | refine blk_drew ?_ | refine blk_alloc ?_ _)); exact BK225.out) hb)
      have n6_ := Aside0.mk (blk_below (g := gb230) (o := .cells #[.int .i64 t226, .slice Ao32 t227.length co32] 28 (0, 0)) (by (with_reducible repeat (first | refine blk_drewN ?_ _ | refine blk_drew ?_ | refine blk_alloc ?_ _)); exact BK230.out) hb)
      have n7_ := Aside0.mk (blk_below (g := gb236) (o := .cells #[.int .i64 t231, .slice Ao39 t232.length co39] 28 (0, 0)) (by (with_reducible repeat (first | refine blk_drewN ?_ _ | refine blk_drew ?_ | refine blk_alloc ?_ _)); exact BK236.out) hb)
      have n8_ := Aside0.mk (below_step (by repeat (first | (with_reducible first | exact HB.out | apply bwA | apply bwN | apply bwD | refine below_set ?_ GE214.out | refine below_set ?_ GE225.out | refine below_set ?_ GE230.out | refine below_set ?_ GE236.out) | exact HB.out)) hb)
      clear HO_226001
      clear HO_231001
      clear HO_237001
      clear HO241
      clear BK214
      clear BK225
      clear BK230
      clear BK236
      clear HB
      have HO_226001 := n0_
      have HO_231001 := n1_
      have HO_237001 := n2_
      have HO241 := n3_
      have BK214 := n4_
      have BK225 := n5_
      have BK230 := n6_
      have BK236 := n7_
      have HB := n8_
      clear n0_ n1_ n2_ n3_ n4_ n5_ n6_ n7_ n8_
      (try clear hb)
      (try clear hb2)
      (try clear hk)
      (try clear hi)
      refine hK.out _ _ ⟨(blk_cell BK230.out 0).trans rfl, (blk_cell BK230.out 1).trans rfl, (blk_cell BK214.out 0).trans rfl, (blk_cell BK214.out 1).trans rfl⟩ (fun hHeld => ?_)
      clear hK K
      refine norm_ (a' := ?_) ?_ ?_
      rotate_left
      ·show Act.put _ (some 56) _ = _
       simp only [Act.put, List.setIfInBounds_toArray, List.set_cons_zero, List.set_cons_succ, i64_w, i32_w]
       rfl
      refine pure_ (i := 4) (N := some 57) (v := ?_) (a' := ?_) #[true, true, true, true, true] rfl rfl (by kernel_rfl) (fun _ _ _ h => h) (Or.inl ⟨by rfl, ?_⟩) ?_ ?_
      rotate_left
      ·intro w'
       go_simp
       with_reducible rfl
      rotate_left
      ·simp only [Act.put, List.setIfInBounds_toArray, List.set_cons_zero, List.set_cons_succ, i64_w, i32_w]
       rfl
      refine done_ (by kernel_rfl) ?_
      have hnb68 := NB230_214.out
      have hnc68 := NB214_230.out
      have hnb69 := NB230_225.out
      have hnc69 := NB225_230.out
      have hnb70 := NB230_236.out
      have hnc70 := NB236_230.out
      have hcz71_0 : w67.cell? ⟨gb230, 0, none⟩ = some (.int .i64 t226) := (blk_cell BK230.out 0).trans rfl
      have hcz71_1 : w67.cell? ⟨gb230, 1, none⟩ = some (.slice Ao32 t227.length co32) := (blk_cell BK230.out 1).trans rfl
      have hfz71_0 := blk_frozen BK230.out 0
      have hfz71_1 := blk_frozen BK230.out 1
      go_upto_region 14 with (first | ((with_reducible refine gate_callee (f := 17) rfl ?_); refine goesL_ (some 60) rfl rfl Try.func17 (by kernel_rfl) rfl #[.agg #[.int .i64 t226, .slice Ao32 t227.length co32], .int .i64 1] rfl (by (try simp only [List.map_toArray, List.map_cons, List.map_nil]); first | done | rfl | (simp only [List.length_drop, List.length_take]; rfl)) ?_; (with_reducible refine (laws_markCircuit.calls kj13 t226 (fun k_ => some k_ = (.slice Ao32 t227.length co32 : Value).ownBlock) (.slice Ao32 t227.length co32) t227 1 t243 t244 w _ ?side1 ?side2 A62.out).mono ?_); (case side1 => repeat (first | (with_reducible first | exact HB.out | apply bwA | apply bwN | apply bwD | refine below_set ?_ GE214.out | refine below_set ?_ GE225.out | refine below_set ?_ GE230.out | refine below_set ?_ GE236.out) | exact HB.out)); (case side2 => exact Kd.R_tight rfl HO_231001.out); rintro e w72 ⟨rfl, hy0, hb, hkp⟩; refine ⟨_, rfl, ?_⟩; have n0_ := Aside0.mk (Kd.R_mono (ok' := fun k_ => some k_ ≠ (.slice Ao32 t227.length co32 : Value).ownBlock ∧ some k_ ≠ (.slice Ao39 t232.length co39 : Value).ownBlock ∧ some k_ ≠ (.slice Ao66 t239.length co66 : Value).ownBlock) (Kd.R_keptB (HO_226001.out) hkp (fun k_ hk_ hs_ => (hk_.1.1) hs_)) (fun k_ hk_ => ⟨hk_.1.1.1, hk_.1.1.2, hk_.1.2⟩)); have n1_ := Aside0.mk (Kd.R_reok rfl hy0 (fun k_ e_ => HO_231001.out.1 k_ e_)); have n2_ := Aside0.mk (Kd.R_mono (ok' := fun k_ => some k_ ≠ (.slice Ao25 t221.length co25 : Value).ownBlock ∧ some k_ ≠ (.slice Ao32 t227.length co32 : Value).ownBlock ∧ some k_ ≠ (.slice Ao66 t239.length co66 : Value).ownBlock) (Kd.R_keptB (HO_237001.out) hkp (fun k_ hk_ hs_ => (hk_.1.2) hs_)) (fun k_ hk_ => ⟨hk_.1.1.1, hk_.1.1.2, hk_.1.2⟩)); have n3_ := Aside0.mk (blk_kept (by (with_reducible repeat (first | refine blk_drewN ?_ _ | refine blk_drew ?_ | refine blk_alloc ?_ _)); exact BK214.out) hkp (fun hs_ => (fun e_ => (Kd.R_ne HO_231001.out BK214.out (by decide)) e_) hs_)); have n4_ := Aside0.mk (blk_kept (by (with_reducible repeat (first | refine blk_drewN ?_ _ | refine blk_drew ?_ | refine blk_alloc ?_ _)); exact BK225.out) hkp (fun hs_ => (fun e_ => (Kd.R_ne HO_231001.out BK225.out (by decide)) e_) hs_)); have n5_ := Aside0.mk (blk_kept (by (with_reducible repeat (first | refine blk_drewN ?_ _ | refine blk_drew ?_ | refine blk_alloc ?_ _)); exact BK230.out) hkp (fun hs_ => (fun e_ => (Kd.R_ne HO_231001.out BK230.out (by decide)) e_) hs_)); have n6_ := Aside0.mk (blk_kept (by (with_reducible repeat (first | refine blk_drewN ?_ _ | refine blk_drew ?_ | refine blk_alloc ?_ _)); exact BK236.out) hkp (fun hs_ => (fun e_ => (Kd.R_ne HO_231001.out BK236.out (by decide)) e_) hs_)); have n7_ := Aside0.mk (Kd.R_mono (ok' := fun k_ => some k_ ≠ (.slice Ao25 t221.length co25 : Value).ownBlock ∧ some k_ ≠ (.slice Ao32 t227.length co32 : Value).ownBlock ∧ some k_ ≠ (.slice Ao39 t232.length co39 : Value).ownBlock) (Kd.R_keptB (HO241.out) hkp (fun k_ hk_ hs_ => (hk_.1.2) hs_)) (fun k_ hk_ => ⟨hk_.1.1.1.2, hk_.1.1.2, hk_.1.2⟩)); have n8_ := Aside0.mk (hb); clear HO_226001; clear HO_231001; clear HO_237001; clear BK214; clear BK225; clear BK230; clear BK236; clear HO241; clear HB; have HO_226001 := n0_; have HO_231001 := n1_; have HO_237001 := n2_; have BK214 := n3_; have BK225 := n4_; have BK230 := n5_; have BK236 := n6_; have HO241 := n7_; have HB := n8_; clear n0_ n1_ n2_ n3_ n4_ n5_ n6_ n7_ n8_; (try clear hb); (try clear hkp); (try clear hy0)))
      (try simp only [Act.put, List.setIfInBounds_toArray, List.set_cons_zero, List.set_cons_succ])
      go_cut [73] (fun v73 wc => ∃ (kq : Nat) (x73_62 : Bool), v73 = .bool x73_62 ∧ Aside0 (laws_FnExactFixed.j1 kq a1 a2 a3 t224 x73_62 a0_0 l0_1 t220 t221 t231 t232 = some r) ∧ Aside0 (kq ≤ kj13) ∧ Aside0 (Kd.R k92 92 wc w.heap.size (fun k_ => some k_ ≠ ((.slice Ao32 t227.length co32) : Value).ownBlock ∧ some k_ ≠ ((.slice Ao39 t232.length co39) : Value).ownBlock) (.slice Ao25 t221.length co25) t221) ∧ Aside0 (Kd.R k92 92 wc w.heap.size (fun k_ => some k_ ≠ ((.slice Ao25 t221.length co25) : Value).ownBlock ∧ some k_ ≠ ((.slice Ao39 t232.length co39) : Value).ownBlock) (.slice Ao32 t227.length co32) t244) ∧ Aside0 (Kd.R k92 92 wc w.heap.size (fun k_ => some k_ ≠ ((.slice Ao25 t221.length co25) : Value).ownBlock ∧ some k_ ≠ ((.slice Ao32 t227.length co32) : Value).ownBlock) (.slice Ao39 t232.length co39) t232) ∧ Aside0 (wc.heap[gb214]? = some (.cells #[.int .i64 a0_0, (.slice A0_1 l0_1.length c0_1)] 24 (0, 0))) ∧ Aside0 (wc.heap[gb225]? = some (.cells #[.int .i64 t220, (.slice Ao25 t221.length co25)] 28 (0, 0))) ∧ Aside0 (wc.heap[gb230]? = some (.cells #[.int .i64 t226, (.slice Ao32 t227.length co32)] 28 (0, 0))) ∧ Aside0 (wc.heap[gb236]? = some (.cells #[.int .i64 t231, (.slice Ao39 t232.length co39)] 28 (0, 0))) ∧ Aside0 (Below w.heap.size w wc))
      case first =>
       have H := HC63.out
       clear HC63
       by_cases c73 : t243 < 0
       ·rw [if_pos c73] at H
        have c73b0 : decide (t243 < 0) = true := decide_eq_true c73
        clear c73
        (first | rw [c73b0] | (simp only [i64_w, i32_w]; rw [c73b0]) | skip)
        have H' := Aside0.mk H
        clear H
        go_wp2
        go_meet
        case rel => exact ⟨_, (true), (by first | rfl | (simp; done) | (simp [*]; done)), H', ⟨by have := HJ13.out; first | omega | exact Nat.le_refl _⟩, ⟨by (with_reducible repeat (first | apply Kd.R_alloc | apply Kd.R_drewN | apply Kd.R_drew)); exact Kd.R_mono HO_226001.out (fun _ hk => ⟨hk.1, hk.2.1⟩)⟩, ⟨by (with_reducible repeat (first | apply Kd.R_alloc | apply Kd.R_drewN | apply Kd.R_drew)); exact Kd.R_mono HO_231001.out (fun _ hk => ⟨hk.1.1, hk.1.2⟩)⟩, ⟨by (with_reducible repeat (first | apply Kd.R_alloc | apply Kd.R_drewN | apply Kd.R_drew)); exact Kd.R_mono HO_237001.out (fun _ hk => ⟨hk.1, hk.2.1⟩)⟩, ⟨by (with_reducible repeat (first | refine blk_drewN ?_ _ | refine blk_drew ?_ | refine blk_alloc ?_ _)); exact BK214.out⟩, ⟨by (with_reducible repeat (first | refine blk_drewN ?_ _ | refine blk_drew ?_ | refine blk_alloc ?_ _)); exact BK225.out⟩, ⟨by (with_reducible repeat (first | refine blk_drewN ?_ _ | refine blk_drew ?_ | refine blk_alloc ?_ _)); exact BK230.out⟩, ⟨by (with_reducible repeat (first | refine blk_drewN ?_ _ | refine blk_drew ?_ | refine blk_alloc ?_ _)); exact BK236.out⟩, ⟨by repeat (first | (with_reducible first | exact HB.out | apply bwA | apply bwN | apply bwD | refine below_set ?_ GE214.out | refine below_set ?_ GE225.out | refine below_set ?_ GE230.out | refine below_set ?_ GE236.out) | exact HB.out)⟩⟩
       ·rw [if_neg c73] at H
        have c73b0 : decide (t243 < 0) = false := decide_eq_false c73
        clear c73
        (first | rw [c73b0] | (simp only [i64_w, i32_w]; rw [c73b0]) | skip)
        replace H := Option.bind_eq_some_iff.mp H
        obtain ⟨t245, A740, H⟩ := H
        replace H : (if t245 = true then (laws_FnExactFixed.j1 kj13 a1 a2 a3 t224 (t235 != t224) a0_0 l0_1 t220 t221 t231 t232) else (laws_FnExactFixed.j1 kj13 a1 a2 a3 t224 true a0_0 l0_1 t220 t221 t231 t232)) = some r := H
        have A74 := Aside0.mk A740
        clear A740
        by_cases c75 : t245 = true
        ·subst c75
         have H1 : (laws_FnExactFixed.j1 kj13 a1 a2 a3 t224 (t235 != t224) a0_0 l0_1 t220 t221 t231 t232) = some r := by rw [if_pos rfl] at H; exact H
         clear H
         have H := H1
         clear H1
         have H' := Aside0.mk H
         clear H
         have hnb76 := NB236_214.out
         have hnc76 := NB214_236.out
         have hnb77 := NB236_225.out
         have hnc77 := NB225_236.out
         have hnb78 := NB236_230.out
         have hnc78 := NB230_236.out
         have hcz79_0 : w72.cell? ⟨gb236, 0, none⟩ = some (.int .i64 t231) := (blk_cell BK236.out 0).trans rfl
         have hcz79_1 : w72.cell? ⟨gb236, 1, none⟩ = some (.slice Ao39 t232.length co39) := (blk_cell BK236.out 1).trans rfl
         have hfz79_0 := blk_frozen BK236.out 0
         have hfz79_1 := blk_frozen BK236.out 1
         have hnb80 := NB225_214.out
         have hnc80 := NB214_225.out
         have hnb81 := NB225_230.out
         have hnc81 := NB230_225.out
         have hcz82_0 : w72.cell? ⟨gb225, 0, none⟩ = some (.int .i64 t220) := (blk_cell BK225.out 0).trans rfl
         have hcz82_1 : w72.cell? ⟨gb225, 1, none⟩ = some (.slice Ao25 t221.length co25) := (blk_cell BK225.out 1).trans rfl
         have hfz82_0 := blk_frozen BK225.out 0
         have hfz82_1 := blk_frozen BK225.out 1
         go_wp2_with (first | (go_at_call 16; (with_reducible refine (laws_eqCircuit.calls kj13 t231 _ _ t232 t220 _ _ t221 true _ ?side1 ?side2 ?side3 ?side4 A74.out).mono ?_); (case side1 => repeat (first | exact (Kd.R_reads' HO_237001.out).2.2 | (with_reducible refine Kd.C_alloc ?_ _) | (with_reducible refine Kd.C_drewN ?_ _) | (with_reducible refine Kd.C_drew ?_))); (case side2 => exact (Kd.R_reads' HO_237001.out).2.1); (case side3 => repeat (first | exact (Kd.R_reads' HO_226001.out).2.2 | (with_reducible refine Kd.C_alloc ?_ _) | (with_reducible refine Kd.C_drewN ?_ _) | (with_reducible refine Kd.C_drew ?_))); (case side4 => exact (Kd.R_reads' HO_226001.out).2.1); rintro e w83 ⟨rfl, hb⟩; have n0_ := Aside0.mk (Kd.R_below (by (with_reducible repeat (first | apply Kd.R_alloc | apply Kd.R_drewN | apply Kd.R_drew)); exact HO_226001.out) hb); have n1_ := Aside0.mk (Kd.R_below (by (with_reducible repeat (first | apply Kd.R_alloc | apply Kd.R_drewN | apply Kd.R_drew)); exact HO_231001.out) hb); have n2_ := Aside0.mk (Kd.R_below (by (with_reducible repeat (first | apply Kd.R_alloc | apply Kd.R_drewN | apply Kd.R_drew)); exact HO_237001.out) hb); have n3_ := Aside0.mk (Kd.R_below (by (with_reducible repeat (first | apply Kd.R_alloc | apply Kd.R_drewN | apply Kd.R_drew)); exact HO241.out) hb); have n4_ := Aside0.mk (blk_below (g := gb214) (o := .cells #[.int .i64 a0_0, .slice A0_1 l0_1.length c0_1] 24 (0, 0)) (by (with_reducible repeat (first | refine blk_drewN ?_ _ | refine blk_drew ?_ | refine blk_alloc ?_ _)); exact BK214.out) hb); have n5_ := Aside0.mk (blk_below (g := gb225) (o := .cells #[.int .i64 t220, .slice Ao25 t221.length co25] 28 (0, 0)) (by (with_reducible repeat (first | refine blk_drewN ?_ _ | refine blk_drew ?_ | refine blk_alloc ?_ _)); exact BK225.out) hb); have n6_ := Aside0.mk (blk_below (g := gb230) (o := .cells #[.int .i64 t226, .slice Ao32 t227.length co32] 28 (0, 0)) (by (with_reducible repeat (first | refine blk_drewN ?_ _ | refine blk_drew ?_ | refine blk_alloc ?_ _)); exact BK230.out) hb); have n7_ := Aside0.mk (blk_below (g := gb236) (o := .cells #[.int .i64 t231, .slice Ao39 t232.length co39] 28 (0, 0)) (by (with_reducible repeat (first | refine blk_drewN ?_ _ | refine blk_drew ?_ | refine blk_alloc ?_ _)); exact BK236.out) hb); have n8_ := Aside0.mk (below_step (by repeat (first | (with_reducible first | exact HB.out | apply bwA | apply bwN | apply bwD | refine below_set ?_ GE214.out | refine below_set ?_ GE225.out | refine below_set ?_ GE230.out | refine below_set ?_ GE236.out) | exact HB.out)) hb); clear HO_226001; clear HO_231001; clear HO_237001; clear HO241; clear BK214; clear BK225; clear BK230; clear BK236; clear HB; have HO_226001 := n0_; have HO_231001 := n1_; have HO_237001 := n2_; have HO241 := n3_; have BK214 := n4_; have BK225 := n5_; have BK230 := n6_; have BK236 := n7_; have HB := n8_; clear n0_ n1_ n2_ n3_ n4_ n5_ n6_ n7_ n8_; (try clear hb); (try clear hb2); (try clear hk); (try clear hi)))
         go_meet
         case rel => exact ⟨_, ((t235 != t224)), (by first | rfl | (simp; done) | (simp [*]; done)), H', ⟨by have := HJ13.out; first | omega | exact Nat.le_refl _⟩, ⟨by (with_reducible repeat (first | apply Kd.R_alloc | apply Kd.R_drewN | apply Kd.R_drew)); exact Kd.R_mono HO_226001.out (fun _ hk => ⟨hk.1, hk.2.1⟩)⟩, ⟨by (with_reducible repeat (first | apply Kd.R_alloc | apply Kd.R_drewN | apply Kd.R_drew)); exact Kd.R_mono HO_231001.out (fun _ hk => ⟨hk.1.1, hk.1.2⟩)⟩, ⟨by (with_reducible repeat (first | apply Kd.R_alloc | apply Kd.R_drewN | apply Kd.R_drew)); exact Kd.R_mono HO_237001.out (fun _ hk => ⟨hk.1, hk.2.1⟩)⟩, ⟨by (with_reducible repeat (first | refine blk_drewN ?_ _ | refine blk_drew ?_ | refine blk_alloc ?_ _)); exact BK214.out⟩, ⟨by (with_reducible repeat (first | refine blk_drewN ?_ _ | refine blk_drew ?_ | refine blk_alloc ?_ _)); exact BK225.out⟩, ⟨by (with_reducible repeat (first | refine blk_drewN ?_ _ | refine blk_drew ?_ | refine blk_alloc ?_ _)); exact BK230.out⟩, ⟨by (with_reducible repeat (first | refine blk_drewN ?_ _ | refine blk_drew ?_ | refine blk_alloc ?_ _)); exact BK236.out⟩, ⟨by repeat (first | (with_reducible first | exact HB.out | apply bwA | apply bwN | apply bwD | refine below_set ?_ GE214.out | refine below_set ?_ GE225.out | refine below_set ?_ GE230.out | refine below_set ?_ GE236.out) | exact HB.out)⟩⟩
        ·replace c75 := Bool.eq_false_iff.mpr c75
         subst c75
         have H1 : (laws_FnExactFixed.j1 kj13 a1 a2 a3 t224 true a0_0 l0_1 t220 t221 t231 t232) = some r := by rw [if_neg (show ¬ (false = true) by decide)] at H; exact H
         clear H
         have H := H1
         clear H1
         have H' := Aside0.mk H
         clear H
         have hnb84 := NB236_214.out
         have hnc84 := NB214_236.out
         have hnb85 := NB236_225.out
         have hnc85 := NB225_236.out
         have hnb86 := NB236_230.out
         have hnc86 := NB230_236.out
         have hcz87_0 : w72.cell? ⟨gb236, 0, none⟩ = some (.int .i64 t231) := (blk_cell BK236.out 0).trans rfl
         have hcz87_1 : w72.cell? ⟨gb236, 1, none⟩ = some (.slice Ao39 t232.length co39) := (blk_cell BK236.out 1).trans rfl
         have hfz87_0 := blk_frozen BK236.out 0
         have hfz87_1 := blk_frozen BK236.out 1
         have hnb88 := NB225_214.out
         have hnc88 := NB214_225.out
         have hnb89 := NB225_230.out
         have hnc89 := NB230_225.out
         have hcz90_0 : w72.cell? ⟨gb225, 0, none⟩ = some (.int .i64 t220) := (blk_cell BK225.out 0).trans rfl
         have hcz90_1 : w72.cell? ⟨gb225, 1, none⟩ = some (.slice Ao25 t221.length co25) := (blk_cell BK225.out 1).trans rfl
         have hfz90_0 := blk_frozen BK225.out 0
         have hfz90_1 := blk_frozen BK225.out 1
         go_wp2_with (first | (go_at_call 16; (with_reducible refine (laws_eqCircuit.calls kj13 t231 _ _ t232 t220 _ _ t221 false _ ?side1 ?side2 ?side3 ?side4 A74.out).mono ?_); (case side1 => repeat (first | exact (Kd.R_reads' HO_237001.out).2.2 | (with_reducible refine Kd.C_alloc ?_ _) | (with_reducible refine Kd.C_drewN ?_ _) | (with_reducible refine Kd.C_drew ?_))); (case side2 => exact (Kd.R_reads' HO_237001.out).2.1); (case side3 => repeat (first | exact (Kd.R_reads' HO_226001.out).2.2 | (with_reducible refine Kd.C_alloc ?_ _) | (with_reducible refine Kd.C_drewN ?_ _) | (with_reducible refine Kd.C_drew ?_))); (case side4 => exact (Kd.R_reads' HO_226001.out).2.1); rintro e w91 ⟨rfl, hb⟩; have n0_ := Aside0.mk (Kd.R_below (by (with_reducible repeat (first | apply Kd.R_alloc | apply Kd.R_drewN | apply Kd.R_drew)); exact HO_226001.out) hb); have n1_ := Aside0.mk (Kd.R_below (by (with_reducible repeat (first | apply Kd.R_alloc | apply Kd.R_drewN | apply Kd.R_drew)); exact HO_231001.out) hb); have n2_ := Aside0.mk (Kd.R_below (by (with_reducible repeat (first | apply Kd.R_alloc | apply Kd.R_drewN | apply Kd.R_drew)); exact HO_237001.out) hb); have n3_ := Aside0.mk (Kd.R_below (by (with_reducible repeat (first | apply Kd.R_alloc | apply Kd.R_drewN | apply Kd.R_drew)); exact HO241.out) hb); have n4_ := Aside0.mk (blk_below (g := gb214) (o := .cells #[.int .i64 a0_0, .slice A0_1 l0_1.length c0_1] 24 (0, 0)) (by (with_reducible repeat (first | refine blk_drewN ?_ _ | refine blk_drew ?_ | refine blk_alloc ?_ _)); exact BK214.out) hb); have n5_ := Aside0.mk (blk_below (g := gb225) (o := .cells #[.int .i64 t220, .slice Ao25 t221.length co25] 28 (0, 0)) (by (with_reducible repeat (first | refine blk_drewN ?_ _ | refine blk_drew ?_ | refine blk_alloc ?_ _)); exact BK225.out) hb); have n6_ := Aside0.mk (blk_below (g := gb230) (o := .cells #[.int .i64 t226, .slice Ao32 t227.length co32] 28 (0, 0)) (by (with_reducible repeat (first | refine blk_drewN ?_ _ | refine blk_drew ?_ | refine blk_alloc ?_ _)); exact BK230.out) hb); have n7_ := Aside0.mk (blk_below (g := gb236) (o := .cells #[.int .i64 t231, .slice Ao39 t232.length co39] 28 (0, 0)) (by (with_reducible repeat (first | refine blk_drewN ?_ _ | refine blk_drew ?_ | refine blk_alloc ?_ _)); exact BK236.out) hb); have n8_ := Aside0.mk (below_step (by repeat (first | (with_reducible first | exact HB.out | apply bwA | apply bwN | apply bwD | refine below_set ?_ GE214.out | refine below_set ?_ GE225.out | refine below_set ?_ GE230.out | refine below_set ?_ GE236.out) | exact HB.out)) hb); clear HO_226001; clear HO_231001; clear HO_237001; clear HO241; clear BK214; clear BK225; clear BK230; clear BK236; clear HB; have HO_226001 := n0_; have HO_231001 := n1_; have HO_237001 := n2_; have HO241 := n3_; have BK214 := n4_; have BK225 := n5_; have BK230 := n6_; have BK236 := n7_; have HB := n8_; clear n0_ n1_ n2_ n3_ n4_ n5_ n6_ n7_ n8_; (try clear hb); (try clear hb2); (try clear hk); (try clear hi)))
         go_meet
         case rel => exact ⟨_, (true), (by first | rfl | (simp; done) | (simp [*]; done)), H', ⟨by have := HJ13.out; first | omega | exact Nat.le_refl _⟩, ⟨by (with_reducible repeat (first | apply Kd.R_alloc | apply Kd.R_drewN | apply Kd.R_drew)); exact Kd.R_mono HO_226001.out (fun _ hk => ⟨hk.1, hk.2.1⟩)⟩, ⟨by (with_reducible repeat (first | apply Kd.R_alloc | apply Kd.R_drewN | apply Kd.R_drew)); exact Kd.R_mono HO_231001.out (fun _ hk => ⟨hk.1.1, hk.1.2⟩)⟩, ⟨by (with_reducible repeat (first | apply Kd.R_alloc | apply Kd.R_drewN | apply Kd.R_drew)); exact Kd.R_mono HO_237001.out (fun _ hk => ⟨hk.1, hk.2.1⟩)⟩, ⟨by (with_reducible repeat (first | refine blk_drewN ?_ _ | refine blk_drew ?_ | refine blk_alloc ?_ _)); exact BK214.out⟩, ⟨by (with_reducible repeat (first | refine blk_drewN ?_ _ | refine blk_drew ?_ | refine blk_alloc ?_ _)); exact BK225.out⟩, ⟨by (with_reducible repeat (first | refine blk_drewN ?_ _ | refine blk_drew ?_ | refine blk_alloc ?_ _)); exact BK230.out⟩, ⟨by (with_reducible repeat (first | refine blk_drewN ?_ _ | refine blk_drew ?_ | refine blk_alloc ?_ _)); exact BK236.out⟩, ⟨by repeat (first | (with_reducible first | exact HB.out | apply bwA | apply bwN | apply bwD | refine below_set ?_ GE214.out | refine below_set ?_ GE225.out | refine below_set ?_ GE230.out | refine below_set ?_ GE236.out) | exact HB.out)⟩⟩
      case rest =>
       clear HC63
       try clear c1
       try clear c2
       try clear p2
       try clear c3
       try clear c4
       try clear c5
       try clear c6
       try clear c6b0
       try clear c7
       try clear c8
       try clear c12
       try clear c14
       try clear c16
       try clear c17
       try clear c23
       try clear c24
       try clear c25
       try clear c29
       try clear c30
       try clear c35
       try clear c36
       try clear c37
       try clear c41
       try clear c42
       try clear c43
       try clear c44
       try clear c46
       try clear c47
       try clear c50
       try clear c51
       try clear c52
       try clear c54
       try clear c55
       try clear c58
       try clear c61
       try clear c68
       try clear c69
       try clear c70
       try clear c73
       try clear c73b0
       try clear c75
       try clear c76
       try clear c77
       try clear c78
       try clear c80
       try clear c81
       try clear c84
       try clear c85
       try clear c86
       try clear c88
       try clear c89
       try clear hcz16_0
       try clear hcz16_1
       try clear hcz18_0
       try clear hcz18_1
       try clear hcz24_0
       try clear hcz24_1
       try clear hcz26_0
       try clear hcz26_1
       try clear hcz31_0
       try clear hcz31_1
       try clear hcz38_0
       try clear hcz38_1
       try clear hcz45_0
       try clear hcz45_1
       try clear hcz48_0
       try clear hcz48_1
       try clear hcz53_0
       try clear hcz53_1
       try clear hcz56_0
       try clear hcz56_1
       try clear hcz71_0
       try clear hcz71_1
       try clear hcz79_0
       try clear hcz79_1
       try clear hcz82_0
       try clear hcz82_1
       try clear hcz87_0
       try clear hcz87_1
       try clear hcz8_0
       try clear hcz8_1
       try clear hcz90_0
       try clear hcz90_1
       try clear hfz16_0
       try clear hfz16_1
       try clear hfz18_0
       try clear hfz18_1
       try clear hfz24_0
       try clear hfz24_1
       try clear hfz26_0
       try clear hfz26_1
       try clear hfz31_0
       try clear hfz31_1
       try clear hfz38_0
       try clear hfz38_1
       try clear hfz45_0
       try clear hfz45_1
       try clear hfz48_0
       try clear hfz48_1
       try clear hfz53_0
       try clear hfz53_1
       try clear hfz56_0
       try clear hfz56_1
       try clear hfz71_0
       try clear hfz71_1
       try clear hfz79_0
       try clear hfz79_1
       try clear hfz82_0
       try clear hfz82_1
       try clear hfz87_0
       try clear hfz87_1
       try clear hfz8_0
       try clear hfz8_1
       try clear hfz90_0
       try clear hfz90_1
       try clear p2
       obtain ⟨kq, x73_62, rfl, HA, HJ62, HO_226001, HO_231001, HO_237001, BK214, BK225, BK230, BK236, HB⟩ := hcut
       have hl231001_62 := (Kd.R_reads' HO_231001.out).1
       rw [hl231001_62] at HO_231001
       (try simp only [hl231001_62])
       (try simp only [hl231001_62] at BK214)
       (try simp only [hl231001_62] at BK225)
       (try simp only [hl231001_62] at BK230)
       (try simp only [hl231001_62] at BK236)
       (try simp only [hl231001_62] at HO_226001)
       (try simp only [hl231001_62] at HO_237001)
       cases kq with
       | zero => exact absurd HA.out (by simp [laws_FnExactFixed.j1])
       | succ kj62 =>
        have H := HA.out
        clear HA
        simp only [laws_FnExactFixed.j1] at H
        by_cases c92 : x73_62 = true
        ·subst c92
         have H1 : (some false) = some r := by rw [if_pos rfl] at H; exact H
         clear H
         have H := H1
         clear H1
         obtain rfl := Option.some.inj H
         go_wp2
         go_ret
         exact ⟨by first | rfl | (simp [errW_none, errW_some] <;> rfl) | (simp [*, errW_none, errW_some] <;> rfl), by repeat (first | (with_reducible first | exact HB.out | apply bwA | apply bwN | apply bwD | refine below_set ?_ GE214.out | refine below_set ?_ GE225.out | refine below_set ?_ GE230.out | refine below_set ?_ GE236.out) | exact HB.out)⟩
        ·replace c92 := Bool.eq_false_iff.mpr c92
         subst c92
         have H1 : ((laws_markCircuit.f kj62 t231 t232 1).bind fun bt246 => ((laws_heldCircuit.f kj62 t231 bt246.2 1).bind fun t248 => (if t248 < 0 then (some false) else (if t248 = bt246.1 then ((laws_toCircuit.f kj62 a0_0 l0_1).bind fun bt249 => ((impl_Fixed.f kj62 bt249.1 bt249.2 a1 a2 a3).bind fun bt253 => ((laws_eqCircuit.f kj62 bt253.1 bt253.2.1 t220 t221).bind fun t259 => (if t259 = true then (laws_FnExactFixed.j2 kj62 bt246.1 (bt253.2.2 != t224) t231 bt246.2) else (laws_FnExactFixed.j2 kj62 bt246.1 true t231 bt246.2))))) else (some false))))) = some r := by rw [if_neg (show ¬ (false = true) by decide)] at H; exact H
         clear H
         have H := H1
         clear H1
         replace H := Option.bind_eq_some_iff.mp H
         obtain ⟨⟨t246, t247⟩, A930, H⟩ := H
         replace H : ((laws_heldCircuit.f kj62 t231 t247 1).bind fun t248 => (if t248 < 0 then (some false) else (if t248 = t246 then ((laws_toCircuit.f kj62 a0_0 l0_1).bind fun bt249 => ((impl_Fixed.f kj62 bt249.1 bt249.2 a1 a2 a3).bind fun bt253 => ((laws_eqCircuit.f kj62 bt253.1 bt253.2.1 t220 t221).bind fun t259 => (if t259 = true then (laws_FnExactFixed.j2 kj62 t246 (bt253.2.2 != t224) t231 t247) else (laws_FnExactFixed.j2 kj62 t246 true t231 t247))))) else (some false)))) = some r := H
         have A93 := Aside0.mk A930
         clear A930
         replace H := Option.bind_eq_some_iff.mp H
         obtain ⟨t248, A940, H⟩ := H
         replace H : (if t248 < 0 then (some false) else (if t248 = t246 then ((laws_toCircuit.f kj62 a0_0 l0_1).bind fun bt249 => ((impl_Fixed.f kj62 bt249.1 bt249.2 a1 a2 a3).bind fun bt253 => ((laws_eqCircuit.f kj62 bt253.1 bt253.2.1 t220 t221).bind fun t259 => (if t259 = true then (laws_FnExactFixed.j2 kj62 t246 (bt253.2.2 != t224) t231 t247) else (laws_FnExactFixed.j2 kj62 t246 true t231 t247))))) else (some false))) = some r := H
         have A94 := Aside0.mk A940
         clear A940
         by_cases c95 : t248 < 0
         ·rw [if_pos c95] at H
          have c95b0 : decide (t248 < 0) = true := decide_eq_true c95
          clear c95
          obtain rfl := Option.some.inj H
          have hnb96 := NB236_214.out
          have hnc96 := NB214_236.out
          have hnb97 := NB236_225.out
          have hnc97 := NB225_236.out
          have hnb98 := NB236_230.out
          have hnc98 := NB230_236.out
          have hcz99_0 : wc.cell? ⟨gb236, 0, none⟩ = some (.int .i64 t231) := (blk_cell BK236.out 0).trans rfl
          have hcz99_1 : wc.cell? ⟨gb236, 1, none⟩ = some (.slice Ao39 t232.length co39) := (blk_cell BK236.out 1).trans rfl
          have hfz99_0 := blk_frozen BK236.out 0
          have hfz99_1 := blk_frozen BK236.out 1
          go_wp2_with (first | ((with_reducible refine gate_callee (f := 17) rfl ?_); refine goesL_ (some 76) rfl rfl Try.func17 (by kernel_rfl) rfl #[.agg #[.int .i64 t231, .slice Ao39 t232.length co39], .int .i64 1] rfl (by (try simp only [List.map_toArray, List.map_cons, List.map_nil]); first | done | rfl | (simp only [List.length_drop, List.length_take]; rfl)) ?_; (with_reducible refine (laws_markCircuit.calls kj62 t231 (fun k_ => some k_ = (.slice Ao39 t232.length co39 : Value).ownBlock) (.slice Ao39 t232.length co39) t232 1 t246 t247 w _ ?side1 ?side2 A93.out).mono ?_); (case side1 => repeat (first | (with_reducible first | exact HB.out | apply bwA | apply bwN | apply bwD | refine below_set ?_ GE214.out | refine below_set ?_ GE225.out | refine below_set ?_ GE230.out | refine below_set ?_ GE236.out) | exact HB.out)); (case side2 => exact Kd.R_tight rfl HO_237001.out); rintro e w100 ⟨rfl, hy0, hb, hkp⟩; refine ⟨_, rfl, ?_⟩; have n0_ := Aside0.mk (Kd.R_mono (ok' := fun k_ => some k_ ≠ (.slice Ao32 t244.length co32 : Value).ownBlock ∧ some k_ ≠ (.slice Ao39 t232.length co39 : Value).ownBlock) (Kd.R_keptB (HO_226001.out) hkp (fun k_ hk_ hs_ => (hk_.2) hs_)) (fun k_ hk_ => ⟨hk_.1.1, hk_.1.2⟩)); have n1_ := Aside0.mk (Kd.R_mono (ok' := fun k_ => some k_ ≠ (.slice Ao25 t221.length co25 : Value).ownBlock ∧ some k_ ≠ (.slice Ao39 t232.length co39 : Value).ownBlock) (Kd.R_keptB (HO_231001.out) hkp (fun k_ hk_ hs_ => (hk_.2) hs_)) (fun k_ hk_ => ⟨hk_.1.1, hk_.1.2⟩)); have n2_ := Aside0.mk (Kd.R_reok rfl hy0 (fun k_ e_ => HO_237001.out.1 k_ e_)); have n3_ := Aside0.mk (blk_kept (by (with_reducible repeat (first | refine blk_drewN ?_ _ | refine blk_drew ?_ | refine blk_alloc ?_ _)); exact BK214.out) hkp (fun hs_ => (fun e_ => (Kd.R_ne HO_237001.out BK214.out (by decide)) e_) hs_)); have n4_ := Aside0.mk (blk_kept (by (with_reducible repeat (first | refine blk_drewN ?_ _ | refine blk_drew ?_ | refine blk_alloc ?_ _)); exact BK225.out) hkp (fun hs_ => (fun e_ => (Kd.R_ne HO_237001.out BK225.out (by decide)) e_) hs_)); have n5_ := Aside0.mk (blk_kept (by (with_reducible repeat (first | refine blk_drewN ?_ _ | refine blk_drew ?_ | refine blk_alloc ?_ _)); exact BK230.out) hkp (fun hs_ => (fun e_ => (Kd.R_ne HO_237001.out BK230.out (by decide)) e_) hs_)); have n6_ := Aside0.mk (blk_kept (by (with_reducible repeat (first | refine blk_drewN ?_ _ | refine blk_drew ?_ | refine blk_alloc ?_ _)); exact BK236.out) hkp (fun hs_ => (fun e_ => (Kd.R_ne HO_237001.out BK236.out (by decide)) e_) hs_)); have n7_ := Aside0.mk (hb); clear HO_226001; clear HO_231001; clear HO_237001; clear BK214; clear BK225; clear BK230; clear BK236; clear HB; have HO_226001 := n0_; have HO_231001 := n1_; have HO_237001 := n2_; have BK214 := n3_; have BK225 := n4_; have BK230 := n5_; have BK236 := n6_; have HB := n7_; clear n0_ n1_ n2_ n3_ n4_ n5_ n6_ n7_; (try clear hb); (try clear hkp); (try clear hy0); have hcz101_0 : w100.cell? ⟨gb236, 0, none⟩ = some (.int .i64 t231) := (blk_cell BK236.out 0).trans rfl; have hcz101_1 : w100.cell? ⟨gb236, 1, none⟩ = some (.slice Ao39 t232.length co39) := (blk_cell BK236.out 1).trans rfl; have hfz101_0 := blk_frozen BK236.out 0; have hfz101_1 := blk_frozen BK236.out 1) | ((with_reducible refine gate_callee (f := 18) rfl ?_); refine goesL_ (some 79) rfl rfl Try.func18 (by kernel_rfl) rfl #[.agg #[.int .i64 t231, .slice Ao39 t247.length co39], .int .i64 1] rfl (by (try simp only [List.map_toArray, List.map_cons, List.map_nil]); first | done | (rw [show t247.length = t232.length from (Kd.R_reads' HO_237001.out).1.symm] <;> rfl) | rfl | (simp only [List.length_drop, List.length_take]; rfl)) ?_; (with_reducible refine (laws_heldCircuit.calls kj62 t231 _ _ t247 1 t248 _ ?side1 ?side2 A94.out).mono ?_); (case side1 => repeat (first | exact (Kd.R_reads' HO_237001.out).2.2 | (with_reducible refine Kd.C_alloc ?_ _) | (with_reducible refine Kd.C_drewN ?_ _) | (with_reducible refine Kd.C_drew ?_))); (case side2 => rw [show t247.length = t232.length from (Kd.R_reads' HO_237001.out).1.symm]; exact (Kd.R_reads' HO_237001.out).2.1); rintro e w102 ⟨rfl, hb⟩; refine ⟨_, rfl, ?_⟩; have n0_ := Aside0.mk (Kd.R_below (by (with_reducible repeat (first | apply Kd.R_alloc | apply Kd.R_drewN | apply Kd.R_drew)); exact HO_226001.out) hb); have n1_ := Aside0.mk (Kd.R_below (by (with_reducible repeat (first | apply Kd.R_alloc | apply Kd.R_drewN | apply Kd.R_drew)); exact HO_231001.out) hb); have n2_ := Aside0.mk (Kd.R_below (by (with_reducible repeat (first | apply Kd.R_alloc | apply Kd.R_drewN | apply Kd.R_drew)); exact HO_237001.out) hb); have n3_ := Aside0.mk (blk_below (g := gb214) (o := .cells #[.int .i64 a0_0, .slice A0_1 l0_1.length c0_1] 24 (0, 0)) (by (with_reducible repeat (first | refine blk_drewN ?_ _ | refine blk_drew ?_ | refine blk_alloc ?_ _)); exact BK214.out) hb); have n4_ := Aside0.mk (blk_below (g := gb225) (o := .cells #[.int .i64 t220, .slice Ao25 t221.length co25] 28 (0, 0)) (by (with_reducible repeat (first | refine blk_drewN ?_ _ | refine blk_drew ?_ | refine blk_alloc ?_ _)); exact BK225.out) hb); have n5_ := Aside0.mk (blk_below (g := gb230) (o := .cells #[.int .i64 t226, .slice Ao32 t244.length co32] 28 (0, 0)) (by (with_reducible repeat (first | refine blk_drewN ?_ _ | refine blk_drew ?_ | refine blk_alloc ?_ _)); exact BK230.out) hb); have n6_ := Aside0.mk (blk_below (g := gb236) (o := .cells #[.int .i64 t231, .slice Ao39 t232.length co39] 28 (0, 0)) (by (with_reducible repeat (first | refine blk_drewN ?_ _ | refine blk_drew ?_ | refine blk_alloc ?_ _)); exact BK236.out) hb); have n7_ := Aside0.mk (below_step (by repeat (first | (with_reducible first | exact HB.out | apply bwA | apply bwN | apply bwD | refine below_set ?_ GE214.out | refine below_set ?_ GE225.out | refine below_set ?_ GE230.out | refine below_set ?_ GE236.out) | exact HB.out)) hb); clear HO_226001; clear HO_231001; clear HO_237001; clear BK214; clear BK225; clear BK230; clear BK236; clear HB; have HO_226001 := n0_; have HO_231001 := n1_; have HO_237001 := n2_; have BK214 := n3_; have BK225 := n4_; have BK230 := n5_; have BK236 := n6_; have HB := n7_; clear n0_ n1_ n2_ n3_ n4_ n5_ n6_ n7_; (try clear hb); (try clear hb2); (try clear hk); (try clear hi)))
          go_ret
          exact ⟨by first | rfl | (simp [errW_none, errW_some] <;> rfl) | (simp [*, errW_none, errW_some] <;> rfl), by repeat (first | (with_reducible first | exact HB.out | apply bwA | apply bwN | apply bwD | refine below_set ?_ GE214.out | refine below_set ?_ GE225.out | refine below_set ?_ GE230.out | refine below_set ?_ GE236.out) | exact HB.out)⟩
         ·rw [if_neg c95] at H
          have c95b0 : decide (t248 < 0) = false := decide_eq_false c95
          clear c95
          by_cases c103 : t248 = t246
          ·rw [if_pos c103] at H
           have c103b0 : (t248 == t246) = true := beq_iff_eq.mpr c103
           have c103b1 : (t248 != t246) = false := bne_eq_false_iff_eq.mpr c103
           clear c103
           replace H := Option.bind_eq_some_iff.mp H
           obtain ⟨⟨t249, t250⟩, A1040, H⟩ := H
           replace H : ((impl_Fixed.f kj62 t249 t250 a1 a2 a3).bind fun bt253 => ((laws_eqCircuit.f kj62 bt253.1 bt253.2.1 t220 t221).bind fun t259 => (if t259 = true then (laws_FnExactFixed.j2 kj62 t246 (bt253.2.2 != t224) t231 t247) else (laws_FnExactFixed.j2 kj62 t246 true t231 t247)))) = some r := H
           have A104 := Aside0.mk A1040
           clear A1040
           replace H := Option.bind_eq_some_iff.mp H
           obtain ⟨⟨t253, t254, t257⟩, A1050, H⟩ := H
           replace H : ((laws_eqCircuit.f kj62 t253 t254 t220 t221).bind fun t259 => (if t259 = true then (laws_FnExactFixed.j2 kj62 t246 (t257 != t224) t231 t247) else (laws_FnExactFixed.j2 kj62 t246 true t231 t247))) = some r := H
           have A105 := Aside0.mk A1050
           clear A1050
           have HC106 := Aside0.mk H
           clear H
           have hnb107 := NB236_214.out
           have hnc107 := NB214_236.out
           have hnb108 := NB236_225.out
           have hnc108 := NB225_236.out
           have hnb109 := NB236_230.out
           have hnc109 := NB230_236.out
           have hcz110_0 : wc.cell? ⟨gb236, 0, none⟩ = some (.int .i64 t231) := (blk_cell BK236.out 0).trans rfl
           have hcz110_1 : wc.cell? ⟨gb236, 1, none⟩ = some (.slice Ao39 t232.length co39) := (blk_cell BK236.out 1).trans rfl
           have hfz110_0 := blk_frozen BK236.out 0
           have hfz110_1 := blk_frozen BK236.out 1
           go_upto_region 25 with (first | ((with_reducible refine gate_callee (f := 17) rfl ?_); refine goesL_ (some 76) rfl rfl Try.func17 (by kernel_rfl) rfl #[.agg #[.int .i64 t231, .slice Ao39 t232.length co39], .int .i64 1] rfl (by (try simp only [List.map_toArray, List.map_cons, List.map_nil]); first | done | rfl | (simp only [List.length_drop, List.length_take]; rfl)) ?_; (with_reducible refine (laws_markCircuit.calls kj62 t231 (fun k_ => some k_ = (.slice Ao39 t232.length co39 : Value).ownBlock) (.slice Ao39 t232.length co39) t232 1 t246 t247 w _ ?side1 ?side2 A93.out).mono ?_); (case side1 => repeat (first | (with_reducible first | exact HB.out | apply bwA | apply bwN | apply bwD | refine below_set ?_ GE214.out | refine below_set ?_ GE225.out | refine below_set ?_ GE230.out | refine below_set ?_ GE236.out) | exact HB.out)); (case side2 => exact Kd.R_tight rfl HO_237001.out); rintro e w111 ⟨rfl, hy0, hb, hkp⟩; refine ⟨_, rfl, ?_⟩; have n0_ := Aside0.mk (Kd.R_mono (ok' := fun k_ => some k_ ≠ (.slice Ao32 t244.length co32 : Value).ownBlock ∧ some k_ ≠ (.slice Ao39 t232.length co39 : Value).ownBlock) (Kd.R_keptB (HO_226001.out) hkp (fun k_ hk_ hs_ => (hk_.2) hs_)) (fun k_ hk_ => ⟨hk_.1.1, hk_.1.2⟩)); have n1_ := Aside0.mk (Kd.R_mono (ok' := fun k_ => some k_ ≠ (.slice Ao25 t221.length co25 : Value).ownBlock ∧ some k_ ≠ (.slice Ao39 t232.length co39 : Value).ownBlock) (Kd.R_keptB (HO_231001.out) hkp (fun k_ hk_ hs_ => (hk_.2) hs_)) (fun k_ hk_ => ⟨hk_.1.1, hk_.1.2⟩)); have n2_ := Aside0.mk (Kd.R_reok rfl hy0 (fun k_ e_ => HO_237001.out.1 k_ e_)); have n3_ := Aside0.mk (blk_kept (by (with_reducible repeat (first | refine blk_drewN ?_ _ | refine blk_drew ?_ | refine blk_alloc ?_ _)); exact BK214.out) hkp (fun hs_ => (fun e_ => (Kd.R_ne HO_237001.out BK214.out (by decide)) e_) hs_)); have n4_ := Aside0.mk (blk_kept (by (with_reducible repeat (first | refine blk_drewN ?_ _ | refine blk_drew ?_ | refine blk_alloc ?_ _)); exact BK225.out) hkp (fun hs_ => (fun e_ => (Kd.R_ne HO_237001.out BK225.out (by decide)) e_) hs_)); have n5_ := Aside0.mk (blk_kept (by (with_reducible repeat (first | refine blk_drewN ?_ _ | refine blk_drew ?_ | refine blk_alloc ?_ _)); exact BK230.out) hkp (fun hs_ => (fun e_ => (Kd.R_ne HO_237001.out BK230.out (by decide)) e_) hs_)); have n6_ := Aside0.mk (blk_kept (by (with_reducible repeat (first | refine blk_drewN ?_ _ | refine blk_drew ?_ | refine blk_alloc ?_ _)); exact BK236.out) hkp (fun hs_ => (fun e_ => (Kd.R_ne HO_237001.out BK236.out (by decide)) e_) hs_)); have n7_ := Aside0.mk (hb); clear HO_226001; clear HO_231001; clear HO_237001; clear BK214; clear BK225; clear BK230; clear BK236; clear HB; have HO_226001 := n0_; have HO_231001 := n1_; have HO_237001 := n2_; have BK214 := n3_; have BK225 := n4_; have BK230 := n5_; have BK236 := n6_; have HB := n7_; clear n0_ n1_ n2_ n3_ n4_ n5_ n6_ n7_; (try clear hb); (try clear hkp); (try clear hy0); have hcz112_0 : w111.cell? ⟨gb236, 0, none⟩ = some (.int .i64 t231) := (blk_cell BK236.out 0).trans rfl; have hcz112_1 : w111.cell? ⟨gb236, 1, none⟩ = some (.slice Ao39 t232.length co39) := (blk_cell BK236.out 1).trans rfl; have hfz112_0 := blk_frozen BK236.out 0; have hfz112_1 := blk_frozen BK236.out 1) | ((with_reducible refine gate_callee (f := 18) rfl ?_); refine goesL_ (some 79) rfl rfl Try.func18 (by kernel_rfl) rfl #[.agg #[.int .i64 t231, .slice Ao39 t247.length co39], .int .i64 1] rfl (by (try simp only [List.map_toArray, List.map_cons, List.map_nil]); first | done | (rw [show t247.length = t232.length from (Kd.R_reads' HO_237001.out).1.symm] <;> rfl) | rfl | (simp only [List.length_drop, List.length_take]; rfl)) ?_; (with_reducible refine (laws_heldCircuit.calls kj62 t231 _ _ t247 1 t248 _ ?side1 ?side2 A94.out).mono ?_); (case side1 => repeat (first | exact (Kd.R_reads' HO_237001.out).2.2 | (with_reducible refine Kd.C_alloc ?_ _) | (with_reducible refine Kd.C_drewN ?_ _) | (with_reducible refine Kd.C_drew ?_))); (case side2 => rw [show t247.length = t232.length from (Kd.R_reads' HO_237001.out).1.symm]; exact (Kd.R_reads' HO_237001.out).2.1); rintro e w113 ⟨rfl, hb⟩; refine ⟨_, rfl, ?_⟩; have n0_ := Aside0.mk (Kd.R_below (by (with_reducible repeat (first | apply Kd.R_alloc | apply Kd.R_drewN | apply Kd.R_drew)); exact HO_226001.out) hb); have n1_ := Aside0.mk (Kd.R_below (by (with_reducible repeat (first | apply Kd.R_alloc | apply Kd.R_drewN | apply Kd.R_drew)); exact HO_231001.out) hb); have n2_ := Aside0.mk (Kd.R_below (by (with_reducible repeat (first | apply Kd.R_alloc | apply Kd.R_drewN | apply Kd.R_drew)); exact HO_237001.out) hb); have n3_ := Aside0.mk (blk_below (g := gb214) (o := .cells #[.int .i64 a0_0, .slice A0_1 l0_1.length c0_1] 24 (0, 0)) (by (with_reducible repeat (first | refine blk_drewN ?_ _ | refine blk_drew ?_ | refine blk_alloc ?_ _)); exact BK214.out) hb); have n4_ := Aside0.mk (blk_below (g := gb225) (o := .cells #[.int .i64 t220, .slice Ao25 t221.length co25] 28 (0, 0)) (by (with_reducible repeat (first | refine blk_drewN ?_ _ | refine blk_drew ?_ | refine blk_alloc ?_ _)); exact BK225.out) hb); have n5_ := Aside0.mk (blk_below (g := gb230) (o := .cells #[.int .i64 t226, .slice Ao32 t244.length co32] 28 (0, 0)) (by (with_reducible repeat (first | refine blk_drewN ?_ _ | refine blk_drew ?_ | refine blk_alloc ?_ _)); exact BK230.out) hb); have n6_ := Aside0.mk (blk_below (g := gb236) (o := .cells #[.int .i64 t231, .slice Ao39 t232.length co39] 28 (0, 0)) (by (with_reducible repeat (first | refine blk_drewN ?_ _ | refine blk_drew ?_ | refine blk_alloc ?_ _)); exact BK236.out) hb); have n7_ := Aside0.mk (below_step (by repeat (first | (with_reducible first | exact HB.out | apply bwA | apply bwN | apply bwD | refine below_set ?_ GE214.out | refine below_set ?_ GE225.out | refine below_set ?_ GE230.out | refine below_set ?_ GE236.out) | exact HB.out)) hb); clear HO_226001; clear HO_231001; clear HO_237001; clear BK214; clear BK225; clear BK230; clear BK236; clear HB; have HO_226001 := n0_; have HO_231001 := n1_; have HO_237001 := n2_; have BK214 := n3_; have BK225 := n4_; have BK230 := n5_; have BK236 := n6_; have HB := n7_; clear n0_ n1_ n2_ n3_ n4_ n5_ n6_ n7_; (try clear hb); (try clear hb2); (try clear hk); (try clear hi); have hnb114 := NB214_225.out; have hnc114 := NB225_214.out; have hnb115 := NB214_230.out; have hnc115 := NB230_214.out; have hcz116_0 : w113.cell? ⟨gb214, 0, none⟩ = some (.int .i64 a0_0) := (blk_cell BK214.out 0).trans rfl; have hcz116_1 : w113.cell? ⟨gb214, 1, none⟩ = some (.slice A0_1 l0_1.length c0_1) := (blk_cell BK214.out 1).trans rfl; have hfz116_0 := blk_frozen BK214.out 0; have hfz116_1 := blk_frozen BK214.out 1) | ((with_reducible refine gate_callee (f := 14) rfl ?_); refine goesL_ (some 87) rfl rfl Try.func14 (by kernel_rfl) rfl #[.agg #[.int .i64 a0_0, .slice A0_1 l0_1.length c0_1]] rfl (by (try simp only [List.map_toArray, List.map_cons, List.map_nil]); first | done | rfl | (simp only [List.length_drop, List.length_take]; rfl)) ?_; (with_reducible refine (laws_toCircuit.calls kj62 a0_0 _ _ l0_1 t249 t250 _ ?side1 ?side2 A104.out).mono ?_); (case side1 => repeat (first | exact (Kd.C_below HR0_1.out HB.out) | (with_reducible refine Kd.C_alloc ?_ _) | (with_reducible refine Kd.C_drewN ?_ _) | (with_reducible refine Kd.C_drew ?_))); (case side2 => exact HC0_1.out); rintro e w117 ⟨v251, rfl, ho0, hb⟩; refine ⟨_, rfl, ?_⟩; have n0_ := Aside0.mk (Kd.R_elder' (by (with_reducible repeat (first | apply Kd.R_alloc | apply Kd.R_drewN | apply Kd.R_drew)); exact HO_226001.out) (Kd.R_base ho0) hb); have n1_ := Aside0.mk (Kd.R_elder' (by (with_reducible repeat (first | apply Kd.R_alloc | apply Kd.R_drewN | apply Kd.R_drew)); exact HO_231001.out) (Kd.R_base ho0) hb); have n2_ := Aside0.mk (Kd.R_elder' (by (with_reducible repeat (first | apply Kd.R_alloc | apply Kd.R_drewN | apply Kd.R_drew)); exact HO_237001.out) (Kd.R_base ho0) hb); have n3_ := Aside0.mk (Kd.R_lower (Kd.R_new' (Kd.R_new' (Kd.R_new' ho0 (Kd.R_lt (by (with_reducible repeat (first | apply Kd.R_alloc | apply Kd.R_drewN | apply Kd.R_drew)); exact HO_226001.out))) (Kd.R_lt (by (with_reducible repeat (first | apply Kd.R_alloc | apply Kd.R_drewN | apply Kd.R_drew)); exact HO_231001.out))) (Kd.R_lt (by (with_reducible repeat (first | apply Kd.R_alloc | apply Kd.R_drewN | apply Kd.R_drew)); exact HO_237001.out))) (below_size (by repeat (first | (with_reducible first | exact HB.out | apply bwA | apply bwN | apply bwD | refine below_set ?_ GE214.out | refine below_set ?_ GE225.out | refine below_set ?_ GE230.out | refine below_set ?_ GE236.out) | exact HB.out)))); have n4_ := Aside0.mk (blk_below (g := gb214) (o := .cells #[.int .i64 a0_0, .slice A0_1 l0_1.length c0_1] 24 (0, 0)) (by (with_reducible repeat (first | refine blk_drewN ?_ _ | refine blk_drew ?_ | refine blk_alloc ?_ _)); exact BK214.out) hb); have n5_ := Aside0.mk (blk_below (g := gb225) (o := .cells #[.int .i64 t220, .slice Ao25 t221.length co25] 28 (0, 0)) (by (with_reducible repeat (first | refine blk_drewN ?_ _ | refine blk_drew ?_ | refine blk_alloc ?_ _)); exact BK225.out) hb); have n6_ := Aside0.mk (blk_below (g := gb230) (o := .cells #[.int .i64 t226, .slice Ao32 t244.length co32] 28 (0, 0)) (by (with_reducible repeat (first | refine blk_drewN ?_ _ | refine blk_drew ?_ | refine blk_alloc ?_ _)); exact BK230.out) hb); have n7_ := Aside0.mk (blk_below (g := gb236) (o := .cells #[.int .i64 t231, .slice Ao39 t232.length co39] 28 (0, 0)) (by (with_reducible repeat (first | refine blk_drewN ?_ _ | refine blk_drew ?_ | refine blk_alloc ?_ _)); exact BK236.out) hb); have n8_ := Aside0.mk (below_step (by repeat (first | (with_reducible first | exact HB.out | apply bwA | apply bwN | apply bwD | refine below_set ?_ GE214.out | refine below_set ?_ GE225.out | refine below_set ?_ GE230.out | refine below_set ?_ GE236.out) | exact HB.out)) hb); clear HO_226001; clear HO_231001; clear HO_237001; clear BK214; clear BK225; clear BK230; clear BK236; clear HB; have HO_226001 := n0_; have HO_231001 := n1_; have HO_237001 := n2_; have HO252 := n3_; have BK214 := n4_; have BK225 := n5_; have BK230 := n6_; have BK236 := n7_; have HB := n8_; clear n0_ n1_ n2_ n3_ n4_ n5_ n6_ n7_ n8_; (try clear hb); (try clear hb2); (try clear hk); (try clear hi); (try clear ho0); obtain ⟨Ao118, co118, eo118⟩ := Kd.R_slice HO252.out; subst eo118) | ((with_reducible refine gate_callee (f := 25) rfl ?_); refine goesL_ (some 91) rfl rfl Try.func25 (by kernel_rfl) rfl #[.agg #[.int .i64 t249, .slice Ao118 t250.length co118], .int .i64 a1, .int .i64 a2, .int .i64 a3] rfl (by (try simp only [List.map_toArray, List.map_cons, List.map_nil]); first | done | rfl | (simp only [List.length_drop, List.length_take]; rfl)) ?_; (with_reducible refine (impl_Fixed.calls kj62 t249 _ _ t250 a1 a2 a3 t253 t254 t257 _ ?side1 ?side2 A105.out).mono ?_); (case side1 => repeat (first | exact (Kd.R_reads' HO252.out).2.2 | (with_reducible refine Kd.C_alloc ?_ _) | (with_reducible refine Kd.C_drewN ?_ _) | (with_reducible refine Kd.C_drew ?_))); (case side2 => exact (Kd.R_reads' HO252.out).2.1); rintro e w119 ⟨v255, rfl, ho0, hb⟩; refine ⟨_, rfl, ?_⟩; have n0_ := Aside0.mk (Kd.R_elder' (by (with_reducible repeat (first | apply Kd.R_alloc | apply Kd.R_drewN | apply Kd.R_drew)); exact HO_226001.out) (Kd.R_base ho0) hb); have n1_ := Aside0.mk (Kd.R_elder' (by (with_reducible repeat (first | apply Kd.R_alloc | apply Kd.R_drewN | apply Kd.R_drew)); exact HO_231001.out) (Kd.R_base ho0) hb); have n2_ := Aside0.mk (Kd.R_elder' (by (with_reducible repeat (first | apply Kd.R_alloc | apply Kd.R_drewN | apply Kd.R_drew)); exact HO_237001.out) (Kd.R_base ho0) hb); have n3_ := Aside0.mk (Kd.R_elder' (by (with_reducible repeat (first | apply Kd.R_alloc | apply Kd.R_drewN | apply Kd.R_drew)); exact HO252.out) (Kd.R_base ho0) hb); have n4_ := Aside0.mk (Kd.R_lower (Kd.R_new' (Kd.R_new' (Kd.R_new' (Kd.R_new' ho0 (Kd.R_lt (by (with_reducible repeat (first | apply Kd.R_alloc | apply Kd.R_drewN | apply Kd.R_drew)); exact HO_226001.out))) (Kd.R_lt (by (with_reducible repeat (first | apply Kd.R_alloc | apply Kd.R_drewN | apply Kd.R_drew)); exact HO_231001.out))) (Kd.R_lt (by (with_reducible repeat (first | apply Kd.R_alloc | apply Kd.R_drewN | apply Kd.R_drew)); exact HO_237001.out))) (Kd.R_lt (by (with_reducible repeat (first | apply Kd.R_alloc | apply Kd.R_drewN | apply Kd.R_drew)); exact HO252.out))) (below_size (by repeat (first | (with_reducible first | exact HB.out | apply bwA | apply bwN | apply bwD | refine below_set ?_ GE214.out | refine below_set ?_ GE225.out | refine below_set ?_ GE230.out | refine below_set ?_ GE236.out) | exact HB.out)))); have n5_ := Aside0.mk (blk_below (g := gb214) (o := .cells #[.int .i64 a0_0, .slice A0_1 l0_1.length c0_1] 24 (0, 0)) (by (with_reducible repeat (first | refine blk_drewN ?_ _ | refine blk_drew ?_ | refine blk_alloc ?_ _)); exact BK214.out) hb); have n6_ := Aside0.mk (blk_below (g := gb225) (o := .cells #[.int .i64 t220, .slice Ao25 t221.length co25] 28 (0, 0)) (by (with_reducible repeat (first | refine blk_drewN ?_ _ | refine blk_drew ?_ | refine blk_alloc ?_ _)); exact BK225.out) hb); have n7_ := Aside0.mk (blk_below (g := gb230) (o := .cells #[.int .i64 t226, .slice Ao32 t244.length co32] 28 (0, 0)) (by (with_reducible repeat (first | refine blk_drewN ?_ _ | refine blk_drew ?_ | refine blk_alloc ?_ _)); exact BK230.out) hb); have n8_ := Aside0.mk (blk_below (g := gb236) (o := .cells #[.int .i64 t231, .slice Ao39 t232.length co39] 28 (0, 0)) (by (with_reducible repeat (first | refine blk_drewN ?_ _ | refine blk_drew ?_ | refine blk_alloc ?_ _)); exact BK236.out) hb); have n9_ := Aside0.mk (below_step (by repeat (first | (with_reducible first | exact HB.out | apply bwA | apply bwN | apply bwD | refine below_set ?_ GE214.out | refine below_set ?_ GE225.out | refine below_set ?_ GE230.out | refine below_set ?_ GE236.out) | exact HB.out)) hb); clear HO_226001; clear HO_231001; clear HO_237001; clear HO252; clear BK214; clear BK225; clear BK230; clear BK236; clear HB; have HO_226001 := n0_; have HO_231001 := n1_; have HO_237001 := n2_; have HO252 := n3_; have HO256 := n4_; have BK214 := n5_; have BK225 := n6_; have BK230 := n7_; have BK236 := n8_; have HB := n9_; clear n0_ n1_ n2_ n3_ n4_ n5_ n6_ n7_ n8_ n9_; (try clear hb); (try clear hb2); (try clear hk); (try clear hi); (try clear ho0)) | ((with_reducible refine gate_dst (N := 18) rfl ?_); refine box_event ?hg (N := 18) ?hd (cs := #[.int .i64 0, .slice none 0 0]) (t := 28) ?hr ?_; (case hd => rfl); (case hg => rfl); (case hr => first | (go_simp; done) | (go_simp; rfl)); intro gb258 hg w120 hbox hb; have n0_ := Aside0.mk (Kd.R_below (by (with_reducible repeat (first | apply Kd.R_alloc | apply Kd.R_drewN | apply Kd.R_drew)); exact HO_226001.out) hb); have n1_ := Aside0.mk (Kd.R_below (by (with_reducible repeat (first | apply Kd.R_alloc | apply Kd.R_drewN | apply Kd.R_drew)); exact HO_231001.out) hb); have n2_ := Aside0.mk (Kd.R_below (by (with_reducible repeat (first | apply Kd.R_alloc | apply Kd.R_drewN | apply Kd.R_drew)); exact HO_237001.out) hb); have n3_ := Aside0.mk (Kd.R_below (by (with_reducible repeat (first | apply Kd.R_alloc | apply Kd.R_drewN | apply Kd.R_drew)); exact HO252.out) hb); have n4_ := Aside0.mk (Kd.R_below (by (with_reducible repeat (first | apply Kd.R_alloc | apply Kd.R_drewN | apply Kd.R_drew)); exact HO256.out) hb); have n5_ := Aside0.mk (blk_below (g := gb214) (o := .cells #[.int .i64 a0_0, .slice A0_1 l0_1.length c0_1] 24 (0, 0)) (by (with_reducible repeat (first | refine blk_drewN ?_ _ | refine blk_drew ?_ | refine blk_alloc ?_ _)); exact BK214.out) hb); have n6_ := Aside0.mk (blk_below (g := gb225) (o := .cells #[.int .i64 t220, .slice Ao25 t221.length co25] 28 (0, 0)) (by (with_reducible repeat (first | refine blk_drewN ?_ _ | refine blk_drew ?_ | refine blk_alloc ?_ _)); exact BK225.out) hb); have n7_ := Aside0.mk (blk_below (g := gb230) (o := .cells #[.int .i64 t226, .slice Ao32 t244.length co32] 28 (0, 0)) (by (with_reducible repeat (first | refine blk_drewN ?_ _ | refine blk_drew ?_ | refine blk_alloc ?_ _)); exact BK230.out) hb); have n8_ := Aside0.mk (blk_below (g := gb236) (o := .cells #[.int .i64 t231, .slice Ao39 t232.length co39] 28 (0, 0)) (by (with_reducible repeat (first | refine blk_drewN ?_ _ | refine blk_drew ?_ | refine blk_alloc ?_ _)); exact BK236.out) hb); have n9_ := Aside0.mk (below_step (by repeat (first | (with_reducible first | exact HB.out | apply bwA | apply bwN | apply bwD | refine below_set ?_ GE214.out | refine below_set ?_ GE225.out | refine below_set ?_ GE230.out | refine below_set ?_ GE236.out) | exact HB.out)) hb); have n10_ := Aside0.mk (hbox); have n11_ := Aside0.mk ((by rw [hg]; exact (below_size (by repeat (first | (with_reducible first | exact HB.out | apply bwA | apply bwN | apply bwD | refine below_set ?_ GE214.out | refine below_set ?_ GE225.out | refine below_set ?_ GE230.out | refine below_set ?_ GE236.out) | exact HB.out))) : w.heap.size ≤ gb258)); have n12_ := Aside0.mk ((by rw [hg]; exact (below_size (by repeat (first | (with_reducible first | exact HB.out | apply bwA | apply bwN | apply bwD | refine below_set ?_ GE214.out | refine below_set ?_ GE225.out | refine below_set ?_ GE230.out | refine below_set ?_ GE236.out) | exact HB.out))) : w.heap.size ≤ gb258)); have n13_ := Aside0.mk ((by rw [hg]; exact Nat.ne_of_lt (blk_lt (g := gb214) (o := .cells #[.int .i64 a0_0, .slice A0_1 l0_1.length c0_1] 24 (0, 0)) (by (with_reducible repeat (first | refine blk_drewN ?_ _ | refine blk_drew ?_ | refine blk_alloc ?_ _)); exact BK214.out)) : gb214 ≠ gb258)); have n14_ := Aside0.mk ((by rw [hg]; exact Nat.ne_of_gt (blk_lt (g := gb214) (o := .cells #[.int .i64 a0_0, .slice A0_1 l0_1.length c0_1] 24 (0, 0)) (by (with_reducible repeat (first | refine blk_drewN ?_ _ | refine blk_drew ?_ | refine blk_alloc ?_ _)); exact BK214.out)) : gb258 ≠ gb214)); have n15_ := Aside0.mk ((by rw [hg]; exact Nat.ne_of_lt (blk_lt (g := gb225) (o := .cells #[.int .i64 t220, .slice Ao25 t221.length co25] 28 (0, 0)) (by (with_reducible repeat (first | refine blk_drewN ?_ _ | refine blk_drew ?_ | refine blk_alloc ?_ _)); exact BK225.out)) : gb225 ≠ gb258)); have n16_ := Aside0.mk ((by rw [hg]; exact Nat.ne_of_gt (blk_lt (g := gb225) (o := .cells #[.int .i64 t220, .slice Ao25 t221.length co25] 28 (0, 0)) (by (with_reducible repeat (first | refine blk_drewN ?_ _ | refine blk_drew ?_ | refine blk_alloc ?_ _)); exact BK225.out)) : gb258 ≠ gb225)); have n17_ := Aside0.mk ((by rw [hg]; exact Nat.ne_of_lt (blk_lt (g := gb230) (o := .cells #[.int .i64 t226, .slice Ao32 t244.length co32] 28 (0, 0)) (by (with_reducible repeat (first | refine blk_drewN ?_ _ | refine blk_drew ?_ | refine blk_alloc ?_ _)); exact BK230.out)) : gb230 ≠ gb258)); have n18_ := Aside0.mk ((by rw [hg]; exact Nat.ne_of_gt (blk_lt (g := gb230) (o := .cells #[.int .i64 t226, .slice Ao32 t244.length co32] 28 (0, 0)) (by (with_reducible repeat (first | refine blk_drewN ?_ _ | refine blk_drew ?_ | refine blk_alloc ?_ _)); exact BK230.out)) : gb258 ≠ gb230)); have n19_ := Aside0.mk ((by rw [hg]; exact Nat.ne_of_lt (blk_lt (g := gb236) (o := .cells #[.int .i64 t231, .slice Ao39 t232.length co39] 28 (0, 0)) (by (with_reducible repeat (first | refine blk_drewN ?_ _ | refine blk_drew ?_ | refine blk_alloc ?_ _)); exact BK236.out)) : gb236 ≠ gb258)); have n20_ := Aside0.mk ((by rw [hg]; exact Nat.ne_of_gt (blk_lt (g := gb236) (o := .cells #[.int .i64 t231, .slice Ao39 t232.length co39] 28 (0, 0)) (by (with_reducible repeat (first | refine blk_drewN ?_ _ | refine blk_drew ?_ | refine blk_alloc ?_ _)); exact BK236.out)) : gb258 ≠ gb236)); clear HO_226001; clear HO_231001; clear HO_237001; clear HO252; clear HO256; clear BK214; clear BK225; clear BK230; clear BK236; clear HB; have HO_226001 := n0_; have HO_231001 := n1_; have HO_237001 := n2_; have HO252 := n3_; have HO256 := n4_; have BK214 := n5_; have BK225 := n6_; have BK230 := n7_; have BK236 := n8_; have HB := n9_; have BK258 := n10_; have GW258 := n11_; have GE258 := n12_; have NB214_258 := n13_; have NB258_214 := n14_; have NB225_258 := n15_; have NB258_225 := n16_; have NB230_258 := n17_; have NB258_230 := n18_; have NB236_258 := n19_; have NB258_236 := n20_; clear n0_ n1_ n2_ n3_ n4_ n5_ n6_ n7_ n8_ n9_ n10_ n11_ n12_ n13_ n14_ n15_ n16_ n17_ n18_ n19_ n20_; clear hb hbox hg; have hnb121 := NB258_214.out; have hnc121 := NB214_258.out; have hnb122 := NB258_225.out; have hnc122 := NB225_258.out; have hnb123 := NB258_230.out; have hnc123 := NB230_258.out; have hnb124 := NB258_236.out; have hnc124 := NB236_258.out; have hcz125_0 : w120.cell? ⟨gb258, 0, none⟩ = some (.int .i64 0) := (blk_cell BK258.out 0).trans rfl; have hcz125_1 : w120.cell? ⟨gb258, 1, none⟩ = some (.slice none 0 0) := (blk_cell BK258.out 1).trans rfl; have hfz125_0 := blk_frozen BK258.out 0; have hfz125_1 := blk_frozen BK258.out 1; obtain ⟨Ao126, co126, eo126⟩ := Kd.R_slice HO256.out; subst eo126))
           (try simp only [Act.put, List.setIfInBounds_toArray, List.set_cons_zero, List.set_cons_succ])
           go_cut [102] (fun v102 wc => ∃ (kq : Nat) (x102_105 : Bool), v102 = .bool x102_105 ∧ Aside0 (laws_FnExactFixed.j2 kq t246 x102_105 t231 t247 = some r) ∧ Aside0 (kq ≤ kj62) ∧ Aside0 (Kd.R k92 92 wc w.heap.size (fun k_ => some k_ ≠ ((.slice Ao32 t244.length co32) : Value).ownBlock ∧ some k_ ≠ ((.slice Ao39 t232.length co39) : Value).ownBlock ∧ some k_ ≠ ((.slice Ao126 t254.length co126) : Value).ownBlock) (.slice Ao25 t221.length co25) t221) ∧ Aside0 (Kd.R k92 92 wc w.heap.size (fun k_ => some k_ ≠ ((.slice Ao25 t221.length co25) : Value).ownBlock ∧ some k_ ≠ ((.slice Ao39 t232.length co39) : Value).ownBlock ∧ some k_ ≠ ((.slice Ao126 t254.length co126) : Value).ownBlock) (.slice Ao32 t244.length co32) t244) ∧ Aside0 (Kd.R k92 92 wc w.heap.size (fun k_ => some k_ ≠ ((.slice Ao25 t221.length co25) : Value).ownBlock ∧ some k_ ≠ ((.slice Ao32 t244.length co32) : Value).ownBlock ∧ some k_ ≠ ((.slice Ao126 t254.length co126) : Value).ownBlock) (.slice Ao39 t232.length co39) t247) ∧ Aside0 (Kd.R k92 92 wc w.heap.size (fun k_ => some k_ ≠ ((.slice Ao25 t221.length co25) : Value).ownBlock ∧ some k_ ≠ ((.slice Ao32 t244.length co32) : Value).ownBlock ∧ some k_ ≠ ((.slice Ao39 t232.length co39) : Value).ownBlock) (.slice Ao126 t254.length co126) t254) ∧ Aside0 (wc.heap[gb214]? = some (.cells #[.int .i64 a0_0, (.slice A0_1 l0_1.length c0_1)] 24 (0, 0))) ∧ Aside0 (wc.heap[gb225]? = some (.cells #[.int .i64 t220, (.slice Ao25 t221.length co25)] 28 (0, 0))) ∧ Aside0 (wc.heap[gb230]? = some (.cells #[.int .i64 t226, (.slice Ao32 t244.length co32)] 28 (0, 0))) ∧ Aside0 (wc.heap[gb236]? = some (.cells #[.int .i64 t231, (.slice Ao39 t232.length co39)] 28 (0, 0))) ∧ Aside0 (wc.heap[gb258]? = some (.cells #[.int .i64 t253, (.slice Ao126 t254.length co126)] 28 (0, 0))) ∧ Aside0 (Below w.heap.size w wc))
           case first =>
            have H := HC106.out
            clear HC106
            replace H := Option.bind_eq_some_iff.mp H
            obtain ⟨t259, A1270, H⟩ := H
            replace H : (if t259 = true then (laws_FnExactFixed.j2 kj62 t246 (t257 != t224) t231 t247) else (laws_FnExactFixed.j2 kj62 t246 true t231 t247)) = some r := H
            have A127 := Aside0.mk A1270
            clear A1270
            by_cases c128 : t259 = true
            ·subst c128
             have H1 : (laws_FnExactFixed.j2 kj62 t246 (t257 != t224) t231 t247) = some r := by rw [if_pos rfl] at H; exact H
             clear H
             have H := H1
             clear H1
             have H' := Aside0.mk H
             clear H
             have hnb129 := NB258_214.out
             have hnc129 := NB214_258.out
             have hnb130 := NB258_225.out
             have hnc130 := NB225_258.out
             have hnb131 := NB258_230.out
             have hnc131 := NB230_258.out
             have hnb132 := NB258_236.out
             have hnc132 := NB236_258.out
             have hcz133_0 : w120.cell? ⟨gb258, 0, none⟩ = some (.int .i64 0) := (blk_cell BK258.out 0).trans rfl
             have hcz133_1 : w120.cell? ⟨gb258, 1, none⟩ = some (.slice none 0 0) := (blk_cell BK258.out 1).trans rfl
             have hfz133_0 := blk_frozen BK258.out 0
             have hfz133_1 := blk_frozen BK258.out 1
             have hnb134 := NB225_214.out
             have hnc134 := NB214_225.out
             have hnb135 := NB225_230.out
             have hnc135 := NB230_225.out
             have hnb136 := NB225_236.out
             have hnc136 := NB236_225.out
             have hcz137_0 : w120.cell? ⟨gb225, 0, none⟩ = some (.int .i64 t220) := (blk_cell BK225.out 0).trans rfl
             have hcz137_1 : w120.cell? ⟨gb225, 1, none⟩ = some (.slice Ao25 t221.length co25) := (blk_cell BK225.out 1).trans rfl
             have hfz137_0 := blk_frozen BK225.out 0
             have hfz137_1 := blk_frozen BK225.out 1
             go_wp2_with (first | ((with_reducible refine gate_callee (f := 16) rfl ?_); refine goesL_ (some 96) rfl rfl Try.func16 (by kernel_rfl) rfl #[.agg #[.int .i64 t253, .slice Ao126 t254.length co126], .agg #[.int .i64 t220, .slice Ao25 t221.length co25]] rfl (by (try simp only [List.map_toArray, List.map_cons, List.map_nil]); first | done | rfl | (simp only [List.length_drop, List.length_take]; rfl)) ?_; (with_reducible refine (laws_eqCircuit.calls kj62 t253 _ _ t254 t220 _ _ t221 true _ ?side1 ?side2 ?side3 ?side4 A127.out).mono ?_); (case side1 => refine (Kd.R_reads' (e := 92) (base := w.heap.size) (ok := fun k_ => ((((True ∧ some k_ ≠ (.slice Ao25 t221.length co25 : Value).ownBlock) ∧ some k_ ≠ (.slice Ao32 t244.length co32 : Value).ownBlock) ∧ some k_ ≠ (.slice Ao39 t232.length co39 : Value).ownBlock) ∧ some k_ ≠ (.slice Ao118 t250.length co118 : Value).ownBlock)) (n := t254.length) (c := co126) ?_).2.2; exact (by (with_reducible repeat (first | apply Kd.R_alloc | apply Kd.R_drewN | apply Kd.R_drew)); exact (Kd.R_mono (Kd.R_far (p := ⟨gb258, 1, none⟩) (Kd.R_far (p := ⟨gb258, 0, none⟩) (Kd.R_types HO256.out BK258.out (by decide)) (fun _ hk => hk.2) (.int .i64 t253)) (fun _ hk => hk.2) (.slice Ao126 t254.length co126)) (fun _ h_ => h_.1)))); (case side2 => exact (Kd.R_reads' HO256.out).2.1); (case side3 => refine (Kd.R_reads' (e := 92) (base := w.heap.size) (ok := fun k_ => (((some k_ ≠ (.slice Ao32 t244.length co32 : Value).ownBlock ∧ some k_ ≠ (.slice Ao39 t232.length co39 : Value).ownBlock) ∧ some k_ ≠ (.slice Ao118 t250.length co118 : Value).ownBlock) ∧ some k_ ≠ (.slice Ao126 t254.length co126 : Value).ownBlock)) (n := t221.length) (c := co25) ?_).2.2; exact (by (with_reducible repeat (first | apply Kd.R_alloc | apply Kd.R_drewN | apply Kd.R_drew)); exact (Kd.R_mono (Kd.R_far (p := ⟨gb258, 1, none⟩) (Kd.R_far (p := ⟨gb258, 0, none⟩) (Kd.R_types HO_226001.out BK258.out (by decide)) (fun _ hk => hk.2) (.int .i64 t253)) (fun _ hk => hk.2) (.slice Ao126 t254.length co126)) (fun _ h_ => h_.1)))); (case side4 => exact (Kd.R_reads' HO_226001.out).2.1); rintro e w138 ⟨rfl, hb⟩; refine ⟨_, rfl, ?_⟩; have n0_ := Aside0.mk (Kd.R_below (by (with_reducible repeat (first | apply Kd.R_alloc | apply Kd.R_drewN | apply Kd.R_drew)); exact (Kd.R_mono (Kd.R_far (p := ⟨gb258, 1, none⟩) (Kd.R_far (p := ⟨gb258, 0, none⟩) (Kd.R_types HO_226001.out BK258.out (by decide)) (fun _ hk => hk.2) (.int .i64 t253)) (fun _ hk => hk.2) (.slice Ao126 t254.length co126)) (fun _ h_ => h_.1))) hb); have n1_ := Aside0.mk (Kd.R_below (by (with_reducible repeat (first | apply Kd.R_alloc | apply Kd.R_drewN | apply Kd.R_drew)); exact (Kd.R_mono (Kd.R_far (p := ⟨gb258, 1, none⟩) (Kd.R_far (p := ⟨gb258, 0, none⟩) (Kd.R_types HO_231001.out BK258.out (by decide)) (fun _ hk => hk.2) (.int .i64 t253)) (fun _ hk => hk.2) (.slice Ao126 t254.length co126)) (fun _ h_ => h_.1))) hb); have n2_ := Aside0.mk (Kd.R_below (by (with_reducible repeat (first | apply Kd.R_alloc | apply Kd.R_drewN | apply Kd.R_drew)); exact (Kd.R_mono (Kd.R_far (p := ⟨gb258, 1, none⟩) (Kd.R_far (p := ⟨gb258, 0, none⟩) (Kd.R_types HO_237001.out BK258.out (by decide)) (fun _ hk => hk.2) (.int .i64 t253)) (fun _ hk => hk.2) (.slice Ao126 t254.length co126)) (fun _ h_ => h_.1))) hb); have n3_ := Aside0.mk (Kd.R_below (by (with_reducible repeat (first | apply Kd.R_alloc | apply Kd.R_drewN | apply Kd.R_drew)); exact (Kd.R_mono (Kd.R_far (p := ⟨gb258, 1, none⟩) (Kd.R_far (p := ⟨gb258, 0, none⟩) (Kd.R_types HO252.out BK258.out (by decide)) (fun _ hk => hk.2) (.int .i64 t253)) (fun _ hk => hk.2) (.slice Ao126 t254.length co126)) (fun _ h_ => h_.1))) hb); have n4_ := Aside0.mk (Kd.R_below (by (with_reducible repeat (first | apply Kd.R_alloc | apply Kd.R_drewN | apply Kd.R_drew)); exact (Kd.R_mono (Kd.R_far (p := ⟨gb258, 1, none⟩) (Kd.R_far (p := ⟨gb258, 0, none⟩) (Kd.R_types HO256.out BK258.out (by decide)) (fun _ hk => hk.2) (.int .i64 t253)) (fun _ hk => hk.2) (.slice Ao126 t254.length co126)) (fun _ h_ => h_.1))) hb); have n5_ := Aside0.mk (blk_below (g := gb214) (o := .cells #[.int .i64 a0_0, .slice A0_1 l0_1.length c0_1] 24 (0, 0)) (by (with_reducible repeat (first | refine blk_drewN ?_ _ | refine blk_drew ?_ | refine blk_alloc ?_ _)); refine blk_far ?_ NB214_258.out _; (with_reducible repeat (first | refine blk_drewN ?_ _ | refine blk_drew ?_ | refine blk_alloc ?_ _)); refine blk_far ?_ NB214_258.out _; (with_reducible repeat (first | refine blk_drewN ?_ _ | refine blk_drew ?_ | refine blk_alloc ?_ _)); exact BK214.out) hb); have n6_ := Aside0.mk (blk_below (g := gb225) (o := .cells #[.int .i64 t220, .slice Ao25 t221.length co25] 28 (0, 0)) (by (with_reducible repeat (first | refine blk_drewN ?_ _ | refine blk_drew ?_ | refine blk_alloc ?_ _)); refine blk_far ?_ NB225_258.out _; (with_reducible repeat (first | refine blk_drewN ?_ _ | refine blk_drew ?_ | refine blk_alloc ?_ _)); refine blk_far ?_ NB225_258.out _; (with_reducible repeat (first | refine blk_drewN ?_ _ | refine blk_drew ?_ | refine blk_alloc ?_ _)); exact BK225.out) hb); have n7_ := Aside0.mk (blk_below (g := gb230) (o := .cells #[.int .i64 t226, .slice Ao32 t244.length co32] 28 (0, 0)) (by (with_reducible repeat (first | refine blk_drewN ?_ _ | refine blk_drew ?_ | refine blk_alloc ?_ _)); refine blk_far ?_ NB230_258.out _; (with_reducible repeat (first | refine blk_drewN ?_ _ | refine blk_drew ?_ | refine blk_alloc ?_ _)); refine blk_far ?_ NB230_258.out _; (with_reducible repeat (first | refine blk_drewN ?_ _ | refine blk_drew ?_ | refine blk_alloc ?_ _)); exact BK230.out) hb); have n8_ := Aside0.mk (blk_below (g := gb236) (o := .cells #[.int .i64 t231, .slice Ao39 t232.length co39] 28 (0, 0)) (by (with_reducible repeat (first | refine blk_drewN ?_ _ | refine blk_drew ?_ | refine blk_alloc ?_ _)); refine blk_far ?_ NB236_258.out _; (with_reducible repeat (first | refine blk_drewN ?_ _ | refine blk_drew ?_ | refine blk_alloc ?_ _)); refine blk_far ?_ NB236_258.out _; (with_reducible repeat (first | refine blk_drewN ?_ _ | refine blk_drew ?_ | refine blk_alloc ?_ _)); exact BK236.out) hb); have n9_ := Aside0.mk (blk_below (g := gb258) (o := .cells #[.int .i64 t253, .slice Ao126 t254.length co126] 28 (0, 0)) (by (with_reducible repeat (first | refine blk_drewN ?_ _ | refine blk_drew ?_ | refine blk_alloc ?_ _)); refine blk_put (cs := #[.int .i64 t253, .slice none 0 0]) ?_ 1 _ rfl; (with_reducible repeat (first | refine blk_drewN ?_ _ | refine blk_drew ?_ | refine blk_alloc ?_ _)); refine blk_put (cs := #[.int .i64 0, .slice none 0 0]) ?_ 0 _ rfl; (with_reducible repeat (first | refine blk_drewN ?_ _ | refine blk_drew ?_ | refine blk_alloc ?_ _)); exact BK258.out) hb); have n10_ := Aside0.mk (below_step (by repeat (first | (with_reducible first | exact HB.out | apply bwA | apply bwN | apply bwD | refine below_set ?_ GE214.out | refine below_set ?_ GE225.out | refine below_set ?_ GE230.out | refine below_set ?_ GE236.out | refine below_set ?_ GE258.out) | exact HB.out)) hb); clear HO_226001; clear HO_231001; clear HO_237001; clear HO252; clear HO256; clear BK214; clear BK225; clear BK230; clear BK236; clear BK258; clear HB; have HO_226001 := n0_; have HO_231001 := n1_; have HO_237001 := n2_; have HO252 := n3_; have HO256 := n4_; have BK214 := n5_; have BK225 := n6_; have BK230 := n7_; have BK236 := n8_; have BK258 := n9_; have HB := n10_; clear n0_ n1_ n2_ n3_ n4_ n5_ n6_ n7_ n8_ n9_ n10_; (try clear hb); (try clear hb2); (try clear hk); (try clear hi)))
             go_meet
             case rel => exact ⟨_, ((t257 != t224)), (by first | rfl | (simp; done) | (simp [*]; done)), H', ⟨by have := HJ13.out; have := HJ62.out; first | omega | exact Nat.le_refl _⟩, ⟨by (try simp only [hl231001_62]); (with_reducible repeat (first | apply Kd.R_alloc | apply Kd.R_drewN | apply Kd.R_drew)); exact Kd.R_mono HO_226001.out (fun _ hk => ⟨hk.1.1.1, ⟨hk.1.1.2, hk.2⟩⟩)⟩, ⟨by (try simp only [hl231001_62]); (with_reducible repeat (first | apply Kd.R_alloc | apply Kd.R_drewN | apply Kd.R_drew)); exact Kd.R_mono HO_231001.out (fun _ hk => ⟨hk.1.1.1, ⟨hk.1.1.2, hk.2⟩⟩)⟩, ⟨by (try simp only [hl231001_62]); (with_reducible repeat (first | apply Kd.R_alloc | apply Kd.R_drewN | apply Kd.R_drew)); exact Kd.R_mono HO_237001.out (fun _ hk => ⟨hk.1.1.1, ⟨hk.1.1.2, hk.2⟩⟩)⟩, ⟨by (try simp only [hl231001_62]); (with_reducible repeat (first | apply Kd.R_alloc | apply Kd.R_drewN | apply Kd.R_drew)); exact Kd.R_mono HO256.out (fun _ hk => ⟨hk.1.1.1.2, ⟨hk.1.1.2, hk.1.2⟩⟩)⟩, ⟨by (try simp only [hl231001_62]); (with_reducible repeat (first | refine blk_drewN ?_ _ | refine blk_drew ?_ | refine blk_alloc ?_ _)); exact BK214.out⟩, ⟨by (try simp only [hl231001_62]); (with_reducible repeat (first | refine blk_drewN ?_ _ | refine blk_drew ?_ | refine blk_alloc ?_ _)); exact BK225.out⟩, ⟨by (try simp only [hl231001_62]); (with_reducible repeat (first | refine blk_drewN ?_ _ | refine blk_drew ?_ | refine blk_alloc ?_ _)); exact BK230.out⟩, ⟨by (try simp only [hl231001_62]); (with_reducible repeat (first | refine blk_drewN ?_ _ | refine blk_drew ?_ | refine blk_alloc ?_ _)); exact BK236.out⟩, ⟨by (try simp only [hl231001_62]); (with_reducible repeat (first | refine blk_drewN ?_ _ | refine blk_drew ?_ | refine blk_alloc ?_ _)); exact BK258.out⟩, ⟨by repeat (first | (with_reducible first | exact HB.out | apply bwA | apply bwN | apply bwD | refine below_set ?_ GE214.out | refine below_set ?_ GE225.out | refine below_set ?_ GE230.out | refine below_set ?_ GE236.out | refine below_set ?_ GE258.out) | exact HB.out)⟩⟩
            ·replace c128 := Bool.eq_false_iff.mpr c128
             subst c128
             have H1 : (laws_FnExactFixed.j2 kj62 t246 true t231 t247) = some r := by rw [if_neg (show ¬ (false = true) by decide)] at H; exact H
             clear H
             have H := H1
             clear H1
             have H' := Aside0.mk H
             clear H
             have hnb139 := NB258_214.out
             have hnc139 := NB214_258.out
             have hnb140 := NB258_225.out
             have hnc140 := NB225_258.out
             have hnb141 := NB258_230.out
             have hnc141 := NB230_258.out
             have hnb142 := NB258_236.out
             have hnc142 := NB236_258.out
             have hcz143_0 : w120.cell? ⟨gb258, 0, none⟩ = some (.int .i64 0) := (blk_cell BK258.out 0).trans rfl
             have hcz143_1 : w120.cell? ⟨gb258, 1, none⟩ = some (.slice none 0 0) := (blk_cell BK258.out 1).trans rfl
             have hfz143_0 := blk_frozen BK258.out 0
             have hfz143_1 := blk_frozen BK258.out 1
             have hnb144 := NB225_214.out
             have hnc144 := NB214_225.out
             have hnb145 := NB225_230.out
             have hnc145 := NB230_225.out
             have hnb146 := NB225_236.out
             have hnc146 := NB236_225.out
             have hcz147_0 : w120.cell? ⟨gb225, 0, none⟩ = some (.int .i64 t220) := (blk_cell BK225.out 0).trans rfl
             have hcz147_1 : w120.cell? ⟨gb225, 1, none⟩ = some (.slice Ao25 t221.length co25) := (blk_cell BK225.out 1).trans rfl
             have hfz147_0 := blk_frozen BK225.out 0
             have hfz147_1 := blk_frozen BK225.out 1
             go_wp2_with (first | ((with_reducible refine gate_callee (f := 16) rfl ?_); refine goesL_ (some 96) rfl rfl Try.func16 (by kernel_rfl) rfl #[.agg #[.int .i64 t253, .slice Ao126 t254.length co126], .agg #[.int .i64 t220, .slice Ao25 t221.length co25]] rfl (by (try simp only [List.map_toArray, List.map_cons, List.map_nil]); first | done | rfl | (simp only [List.length_drop, List.length_take]; rfl)) ?_; (with_reducible refine (laws_eqCircuit.calls kj62 t253 _ _ t254 t220 _ _ t221 false _ ?side1 ?side2 ?side3 ?side4 A127.out).mono ?_); (case side1 => refine (Kd.R_reads' (e := 92) (base := w.heap.size) (ok := fun k_ => ((((True ∧ some k_ ≠ (.slice Ao25 t221.length co25 : Value).ownBlock) ∧ some k_ ≠ (.slice Ao32 t244.length co32 : Value).ownBlock) ∧ some k_ ≠ (.slice Ao39 t232.length co39 : Value).ownBlock) ∧ some k_ ≠ (.slice Ao118 t250.length co118 : Value).ownBlock)) (n := t254.length) (c := co126) ?_).2.2; exact (by (with_reducible repeat (first | apply Kd.R_alloc | apply Kd.R_drewN | apply Kd.R_drew)); exact (Kd.R_mono (Kd.R_far (p := ⟨gb258, 1, none⟩) (Kd.R_far (p := ⟨gb258, 0, none⟩) (Kd.R_types HO256.out BK258.out (by decide)) (fun _ hk => hk.2) (.int .i64 t253)) (fun _ hk => hk.2) (.slice Ao126 t254.length co126)) (fun _ h_ => h_.1)))); (case side2 => exact (Kd.R_reads' HO256.out).2.1); (case side3 => refine (Kd.R_reads' (e := 92) (base := w.heap.size) (ok := fun k_ => (((some k_ ≠ (.slice Ao32 t244.length co32 : Value).ownBlock ∧ some k_ ≠ (.slice Ao39 t232.length co39 : Value).ownBlock) ∧ some k_ ≠ (.slice Ao118 t250.length co118 : Value).ownBlock) ∧ some k_ ≠ (.slice Ao126 t254.length co126 : Value).ownBlock)) (n := t221.length) (c := co25) ?_).2.2; exact (by (with_reducible repeat (first | apply Kd.R_alloc | apply Kd.R_drewN | apply Kd.R_drew)); exact (Kd.R_mono (Kd.R_far (p := ⟨gb258, 1, none⟩) (Kd.R_far (p := ⟨gb258, 0, none⟩) (Kd.R_types HO_226001.out BK258.out (by decide)) (fun _ hk => hk.2) (.int .i64 t253)) (fun _ hk => hk.2) (.slice Ao126 t254.length co126)) (fun _ h_ => h_.1)))); (case side4 => exact (Kd.R_reads' HO_226001.out).2.1); rintro e w148 ⟨rfl, hb⟩; refine ⟨_, rfl, ?_⟩; have n0_ := Aside0.mk (Kd.R_below (by (with_reducible repeat (first | apply Kd.R_alloc | apply Kd.R_drewN | apply Kd.R_drew)); exact (Kd.R_mono (Kd.R_far (p := ⟨gb258, 1, none⟩) (Kd.R_far (p := ⟨gb258, 0, none⟩) (Kd.R_types HO_226001.out BK258.out (by decide)) (fun _ hk => hk.2) (.int .i64 t253)) (fun _ hk => hk.2) (.slice Ao126 t254.length co126)) (fun _ h_ => h_.1))) hb); have n1_ := Aside0.mk (Kd.R_below (by (with_reducible repeat (first | apply Kd.R_alloc | apply Kd.R_drewN | apply Kd.R_drew)); exact (Kd.R_mono (Kd.R_far (p := ⟨gb258, 1, none⟩) (Kd.R_far (p := ⟨gb258, 0, none⟩) (Kd.R_types HO_231001.out BK258.out (by decide)) (fun _ hk => hk.2) (.int .i64 t253)) (fun _ hk => hk.2) (.slice Ao126 t254.length co126)) (fun _ h_ => h_.1))) hb); have n2_ := Aside0.mk (Kd.R_below (by (with_reducible repeat (first | apply Kd.R_alloc | apply Kd.R_drewN | apply Kd.R_drew)); exact (Kd.R_mono (Kd.R_far (p := ⟨gb258, 1, none⟩) (Kd.R_far (p := ⟨gb258, 0, none⟩) (Kd.R_types HO_237001.out BK258.out (by decide)) (fun _ hk => hk.2) (.int .i64 t253)) (fun _ hk => hk.2) (.slice Ao126 t254.length co126)) (fun _ h_ => h_.1))) hb); have n3_ := Aside0.mk (Kd.R_below (by (with_reducible repeat (first | apply Kd.R_alloc | apply Kd.R_drewN | apply Kd.R_drew)); exact (Kd.R_mono (Kd.R_far (p := ⟨gb258, 1, none⟩) (Kd.R_far (p := ⟨gb258, 0, none⟩) (Kd.R_types HO252.out BK258.out (by decide)) (fun _ hk => hk.2) (.int .i64 t253)) (fun _ hk => hk.2) (.slice Ao126 t254.length co126)) (fun _ h_ => h_.1))) hb); have n4_ := Aside0.mk (Kd.R_below (by (with_reducible repeat (first | apply Kd.R_alloc | apply Kd.R_drewN | apply Kd.R_drew)); exact (Kd.R_mono (Kd.R_far (p := ⟨gb258, 1, none⟩) (Kd.R_far (p := ⟨gb258, 0, none⟩) (Kd.R_types HO256.out BK258.out (by decide)) (fun _ hk => hk.2) (.int .i64 t253)) (fun _ hk => hk.2) (.slice Ao126 t254.length co126)) (fun _ h_ => h_.1))) hb); have n5_ := Aside0.mk (blk_below (g := gb214) (o := .cells #[.int .i64 a0_0, .slice A0_1 l0_1.length c0_1] 24 (0, 0)) (by (with_reducible repeat (first | refine blk_drewN ?_ _ | refine blk_drew ?_ | refine blk_alloc ?_ _)); refine blk_far ?_ NB214_258.out _; (with_reducible repeat (first | refine blk_drewN ?_ _ | refine blk_drew ?_ | refine blk_alloc ?_ _)); refine blk_far ?_ NB214_258.out _; (with_reducible repeat (first | refine blk_drewN ?_ _ | refine blk_drew ?_ | refine blk_alloc ?_ _)); exact BK214.out) hb); have n6_ := Aside0.mk (blk_below (g := gb225) (o := .cells #[.int .i64 t220, .slice Ao25 t221.length co25] 28 (0, 0)) (by (with_reducible repeat (first | refine blk_drewN ?_ _ | refine blk_drew ?_ | refine blk_alloc ?_ _)); refine blk_far ?_ NB225_258.out _; (with_reducible repeat (first | refine blk_drewN ?_ _ | refine blk_drew ?_ | refine blk_alloc ?_ _)); refine blk_far ?_ NB225_258.out _; (with_reducible repeat (first | refine blk_drewN ?_ _ | refine blk_drew ?_ | refine blk_alloc ?_ _)); exact BK225.out) hb); have n7_ := Aside0.mk (blk_below (g := gb230) (o := .cells #[.int .i64 t226, .slice Ao32 t244.length co32] 28 (0, 0)) (by (with_reducible repeat (first | refine blk_drewN ?_ _ | refine blk_drew ?_ | refine blk_alloc ?_ _)); refine blk_far ?_ NB230_258.out _; (with_reducible repeat (first | refine blk_drewN ?_ _ | refine blk_drew ?_ | refine blk_alloc ?_ _)); refine blk_far ?_ NB230_258.out _; (with_reducible repeat (first | refine blk_drewN ?_ _ | refine blk_drew ?_ | refine blk_alloc ?_ _)); exact BK230.out) hb); have n8_ := Aside0.mk (blk_below (g := gb236) (o := .cells #[.int .i64 t231, .slice Ao39 t232.length co39] 28 (0, 0)) (by (with_reducible repeat (first | refine blk_drewN ?_ _ | refine blk_drew ?_ | refine blk_alloc ?_ _)); refine blk_far ?_ NB236_258.out _; (with_reducible repeat (first | refine blk_drewN ?_ _ | refine blk_drew ?_ | refine blk_alloc ?_ _)); refine blk_far ?_ NB236_258.out _; (with_reducible repeat (first | refine blk_drewN ?_ _ | refine blk_drew ?_ | refine blk_alloc ?_ _)); exact BK236.out) hb); have n9_ := Aside0.mk (blk_below (g := gb258) (o := .cells #[.int .i64 t253, .slice Ao126 t254.length co126] 28 (0, 0)) (by (with_reducible repeat (first | refine blk_drewN ?_ _ | refine blk_drew ?_ | refine blk_alloc ?_ _)); refine blk_put (cs := #[.int .i64 t253, .slice none 0 0]) ?_ 1 _ rfl; (with_reducible repeat (first | refine blk_drewN ?_ _ | refine blk_drew ?_ | refine blk_alloc ?_ _)); refine blk_put (cs := #[.int .i64 0, .slice none 0 0]) ?_ 0 _ rfl; (with_reducible repeat (first | refine blk_drewN ?_ _ | refine blk_drew ?_ | refine blk_alloc ?_ _)); exact BK258.out) hb); have n10_ := Aside0.mk (below_step (by repeat (first | (with_reducible first | exact HB.out | apply bwA | apply bwN | apply bwD | refine below_set ?_ GE214.out | refine below_set ?_ GE225.out | refine below_set ?_ GE230.out | refine below_set ?_ GE236.out | refine below_set ?_ GE258.out) | exact HB.out)) hb); clear HO_226001; clear HO_231001; clear HO_237001; clear HO252; clear HO256; clear BK214; clear BK225; clear BK230; clear BK236; clear BK258; clear HB; have HO_226001 := n0_; have HO_231001 := n1_; have HO_237001 := n2_; have HO252 := n3_; have HO256 := n4_; have BK214 := n5_; have BK225 := n6_; have BK230 := n7_; have BK236 := n8_; have BK258 := n9_; have HB := n10_; clear n0_ n1_ n2_ n3_ n4_ n5_ n6_ n7_ n8_ n9_ n10_; (try clear hb); (try clear hb2); (try clear hk); (try clear hi)))
             go_meet
             case rel => exact ⟨_, (true), (by first | rfl | (simp; done) | (simp [*]; done)), H', ⟨by have := HJ13.out; have := HJ62.out; first | omega | exact Nat.le_refl _⟩, ⟨by (try simp only [hl231001_62]); (with_reducible repeat (first | apply Kd.R_alloc | apply Kd.R_drewN | apply Kd.R_drew)); exact Kd.R_mono HO_226001.out (fun _ hk => ⟨hk.1.1.1, ⟨hk.1.1.2, hk.2⟩⟩)⟩, ⟨by (try simp only [hl231001_62]); (with_reducible repeat (first | apply Kd.R_alloc | apply Kd.R_drewN | apply Kd.R_drew)); exact Kd.R_mono HO_231001.out (fun _ hk => ⟨hk.1.1.1, ⟨hk.1.1.2, hk.2⟩⟩)⟩, ⟨by (try simp only [hl231001_62]); (with_reducible repeat (first | apply Kd.R_alloc | apply Kd.R_drewN | apply Kd.R_drew)); exact Kd.R_mono HO_237001.out (fun _ hk => ⟨hk.1.1.1, ⟨hk.1.1.2, hk.2⟩⟩)⟩, ⟨by (try simp only [hl231001_62]); (with_reducible repeat (first | apply Kd.R_alloc | apply Kd.R_drewN | apply Kd.R_drew)); exact Kd.R_mono HO256.out (fun _ hk => ⟨hk.1.1.1.2, ⟨hk.1.1.2, hk.1.2⟩⟩)⟩, ⟨by (try simp only [hl231001_62]); (with_reducible repeat (first | refine blk_drewN ?_ _ | refine blk_drew ?_ | refine blk_alloc ?_ _)); exact BK214.out⟩, ⟨by (try simp only [hl231001_62]); (with_reducible repeat (first | refine blk_drewN ?_ _ | refine blk_drew ?_ | refine blk_alloc ?_ _)); exact BK225.out⟩, ⟨by (try simp only [hl231001_62]); (with_reducible repeat (first | refine blk_drewN ?_ _ | refine blk_drew ?_ | refine blk_alloc ?_ _)); exact BK230.out⟩, ⟨by (try simp only [hl231001_62]); (with_reducible repeat (first | refine blk_drewN ?_ _ | refine blk_drew ?_ | refine blk_alloc ?_ _)); exact BK236.out⟩, ⟨by (try simp only [hl231001_62]); (with_reducible repeat (first | refine blk_drewN ?_ _ | refine blk_drew ?_ | refine blk_alloc ?_ _)); exact BK258.out⟩, ⟨by repeat (first | (with_reducible first | exact HB.out | apply bwA | apply bwN | apply bwD | refine below_set ?_ GE214.out | refine below_set ?_ GE225.out | refine below_set ?_ GE230.out | refine below_set ?_ GE236.out | refine below_set ?_ GE258.out) | exact HB.out)⟩⟩
           case rest =>
            clear HC106
            try clear c1
            try clear c2
            try clear p2
            try clear c3
            try clear c4
            try clear c5
            try clear c6
            try clear c6b0
            try clear c7
            try clear c8
            try clear c9
            try clear c10
            try clear c11
            try clear c12
            try clear c13
            try clear c14
            try clear c16
            try clear c17
            try clear c18
            try clear c23
            try clear c24
            try clear c25
            try clear c29
            try clear c30
            try clear c35
            try clear c36
            try clear c37
            try clear c41
            try clear c42
            try clear c43
            try clear c44
            try clear c46
            try clear c47
            try clear c50
            try clear c51
            try clear c52
            try clear c54
            try clear c55
            try clear c58
            try clear c61
            try clear c68
            try clear c69
            try clear c70
            try clear c73
            try clear c73b0
            try clear c75
            try clear c76
            try clear c77
            try clear c78
            try clear c80
            try clear c81
            try clear c84
            try clear c85
            try clear c86
            try clear c88
            try clear c89
            try clear c92
            try clear c95
            try clear c95b0
            try clear c96
            try clear c97
            try clear c98
            try clear c103
            try clear c103b0
            try clear c103b1
            try clear c107
            try clear c108
            try clear c109
            try clear c114
            try clear c115
            try clear c121
            try clear c122
            try clear c123
            try clear c124
            try clear c128
            try clear c129
            try clear c130
            try clear c131
            try clear c132
            try clear c134
            try clear c135
            try clear c136
            try clear c139
            try clear c140
            try clear c141
            try clear c142
            try clear c144
            try clear c145
            try clear c146
            try clear hcz101_0
            try clear hcz101_1
            try clear hcz110_0
            try clear hcz110_1
            try clear hcz112_0
            try clear hcz112_1
            try clear hcz116_0
            try clear hcz116_1
            try clear hcz125_0
            try clear hcz125_1
            try clear hcz133_0
            try clear hcz133_1
            try clear hcz137_0
            try clear hcz137_1
            try clear hcz143_0
            try clear hcz143_1
            try clear hcz147_0
            try clear hcz147_1
            try clear hcz16_0
            try clear hcz16_1
            try clear hcz18_0
            try clear hcz18_1
            try clear hcz24_0
            try clear hcz24_1
            try clear hcz26_0
            try clear hcz26_1
            try clear hcz31_0
            try clear hcz31_1
            try clear hcz38_0
            try clear hcz38_1
            try clear hcz45_0
            try clear hcz45_1
            try clear hcz48_0
            try clear hcz48_1
            try clear hcz53_0
            try clear hcz53_1
            try clear hcz56_0
            try clear hcz56_1
            try clear hcz71_0
            try clear hcz71_1
            try clear hcz79_0
            try clear hcz79_1
            try clear hcz82_0
            try clear hcz82_1
            try clear hcz87_0
            try clear hcz87_1
            try clear hcz8_0
            try clear hcz8_1
            try clear hcz90_0
            try clear hcz90_1
            try clear hcz99_0
            try clear hcz99_1
            try clear hfz101_0
            try clear hfz101_1
            try clear hfz110_0
            try clear hfz110_1
            try clear hfz112_0
            try clear hfz112_1
            try clear hfz116_0
            try clear hfz116_1
            try clear hfz125_0
            try clear hfz125_1
            try clear hfz133_0
            try clear hfz133_1
            try clear hfz137_0
            try clear hfz137_1
            try clear hfz143_0
            try clear hfz143_1
            try clear hfz147_0
            try clear hfz147_1
            try clear hfz16_0
            try clear hfz16_1
            try clear hfz18_0
            try clear hfz18_1
            try clear hfz24_0
            try clear hfz24_1
            try clear hfz26_0
            try clear hfz26_1
            try clear hfz31_0
            try clear hfz31_1
            try clear hfz38_0
            try clear hfz38_1
            try clear hfz45_0
            try clear hfz45_1
            try clear hfz48_0
            try clear hfz48_1
            try clear hfz53_0
            try clear hfz53_1
            try clear hfz56_0
            try clear hfz56_1
            try clear hfz71_0
            try clear hfz71_1
            try clear hfz79_0
            try clear hfz79_1
            try clear hfz82_0
            try clear hfz82_1
            try clear hfz87_0
            try clear hfz87_1
            try clear hfz8_0
            try clear hfz8_1
            try clear hfz90_0
            try clear hfz90_1
            try clear hfz99_0
            try clear hfz99_1
            try clear p2
            obtain ⟨kq, x102_105, rfl, HA, HJ105, HO_226001, HO_231001, HO_237001, HO_259001, BK214, BK225, BK230, BK236, BK258, HB⟩ := hcut
            have hl237001_105 := (Kd.R_reads' HO_237001.out).1
            rw [hl237001_105] at HO_237001
            (try simp only [hl237001_105])
            (try simp only [hl237001_105] at BK214)
            (try simp only [hl237001_105] at BK225)
            (try simp only [hl237001_105] at BK230)
            (try simp only [hl237001_105] at BK236)
            (try simp only [hl237001_105] at BK258)
            (try simp only [hl237001_105] at HO_226001)
            (try simp only [hl237001_105] at HO_231001)
            (try simp only [hl237001_105] at HO_259001)
            cases kq with
            | zero => exact absurd HA.out (by simp [laws_FnExactFixed.j2])
            | succ kj105 =>
             have H := HA.out
             clear HA
             simp only [laws_FnExactFixed.j2] at H
             by_cases c149 : x102_105 = true
             ·subst c149
              have H1 : (some false) = some r := by rw [if_pos rfl] at H; exact H
              clear H
              have H := H1
              clear H1
              obtain rfl := Option.some.inj H
              go_wp2
              go_ret
              exact ⟨by first | rfl | (simp [errW_none, errW_some] <;> rfl) | (simp [*, errW_none, errW_some] <;> rfl), by repeat (first | (with_reducible first | exact HB.out | apply bwA | apply bwN | apply bwD | refine below_set ?_ GE214.out | refine below_set ?_ GE225.out | refine below_set ?_ GE230.out | refine below_set ?_ GE236.out | refine below_set ?_ GE258.out) | exact HB.out)⟩
             ·replace c149 := Bool.eq_false_iff.mpr c149
              subst c149
              have H1 : ((laws_heldCircuit.f kj105 t231 t247 1).bind fun t260 => (if t260 < 0 then (some false) else (if t260 = t246 then (some true) else (some false)))) = some r := by rw [if_neg (show ¬ (false = true) by decide)] at H; exact H
              clear H
              have H := H1
              clear H1
              replace H := Option.bind_eq_some_iff.mp H
              obtain ⟨t260, A1500, H⟩ := H
              replace H : (if t260 < 0 then (some false) else (if t260 = t246 then (some true) else (some false))) = some r := H
              have A150 := Aside0.mk A1500
              clear A1500
              by_cases c151 : t260 < 0
              ·rw [if_pos c151] at H
               have c151b0 : decide (t260 < 0) = true := decide_eq_true c151
               clear c151
               obtain rfl := Option.some.inj H
               have hnb152 := NB236_214.out
               have hnc152 := NB214_236.out
               have hnb153 := NB236_225.out
               have hnc153 := NB225_236.out
               have hnb154 := NB236_230.out
               have hnc154 := NB230_236.out
               have hnb155 := NB236_258.out
               have hnc155 := NB258_236.out
               have hcz156_0 : wc.cell? ⟨gb236, 0, none⟩ = some (.int .i64 t231) := (blk_cell BK236.out 0).trans rfl
               have hcz156_1 : wc.cell? ⟨gb236, 1, none⟩ = some (.slice Ao39 t247.length co39) := (blk_cell BK236.out 1).trans rfl
               have hfz156_0 := blk_frozen BK236.out 0
               have hfz156_1 := blk_frozen BK236.out 1
               go_wp2_with (first | ((with_reducible refine gate_callee (f := 18) rfl ?_); refine goesL_ (some 105) rfl rfl Try.func18 (by kernel_rfl) rfl #[.agg #[.int .i64 t231, .slice Ao39 t247.length co39], .int .i64 1] rfl (by (try simp only [List.map_toArray, List.map_cons, List.map_nil]); first | done | rfl | (simp only [List.length_drop, List.length_take]; rfl)) ?_; (with_reducible refine (laws_heldCircuit.calls kj105 t231 _ _ t247 1 t260 _ ?side1 ?side2 A150.out).mono ?_); (case side1 => repeat (first | exact (Kd.R_reads' HO_237001.out).2.2 | (with_reducible refine Kd.C_alloc ?_ _) | (with_reducible refine Kd.C_drewN ?_ _) | (with_reducible refine Kd.C_drew ?_))); (case side2 => exact (Kd.R_reads' HO_237001.out).2.1); rintro e w157 ⟨rfl, hb⟩; refine ⟨_, rfl, ?_⟩; have n0_ := Aside0.mk (Kd.R_below (by (with_reducible repeat (first | apply Kd.R_alloc | apply Kd.R_drewN | apply Kd.R_drew)); exact HO_226001.out) hb); have n1_ := Aside0.mk (Kd.R_below (by (with_reducible repeat (first | apply Kd.R_alloc | apply Kd.R_drewN | apply Kd.R_drew)); exact HO_231001.out) hb); have n2_ := Aside0.mk (Kd.R_below (by (with_reducible repeat (first | apply Kd.R_alloc | apply Kd.R_drewN | apply Kd.R_drew)); exact HO_237001.out) hb); have n3_ := Aside0.mk (Kd.R_below (by (with_reducible repeat (first | apply Kd.R_alloc | apply Kd.R_drewN | apply Kd.R_drew)); exact HO_259001.out) hb); have n4_ := Aside0.mk (blk_below (g := gb214) (o := .cells #[.int .i64 a0_0, .slice A0_1 l0_1.length c0_1] 24 (0, 0)) (by (with_reducible repeat (first | refine blk_drewN ?_ _ | refine blk_drew ?_ | refine blk_alloc ?_ _)); exact BK214.out) hb); have n5_ := Aside0.mk (blk_below (g := gb225) (o := .cells #[.int .i64 t220, .slice Ao25 t221.length co25] 28 (0, 0)) (by (with_reducible repeat (first | refine blk_drewN ?_ _ | refine blk_drew ?_ | refine blk_alloc ?_ _)); exact BK225.out) hb); have n6_ := Aside0.mk (blk_below (g := gb230) (o := .cells #[.int .i64 t226, .slice Ao32 t244.length co32] 28 (0, 0)) (by (with_reducible repeat (first | refine blk_drewN ?_ _ | refine blk_drew ?_ | refine blk_alloc ?_ _)); exact BK230.out) hb); have n7_ := Aside0.mk (blk_below (g := gb236) (o := .cells #[.int .i64 t231, .slice Ao39 t247.length co39] 28 (0, 0)) (by (with_reducible repeat (first | refine blk_drewN ?_ _ | refine blk_drew ?_ | refine blk_alloc ?_ _)); exact BK236.out) hb); have n8_ := Aside0.mk (blk_below (g := gb258) (o := .cells #[.int .i64 t253, .slice Ao126 t254.length co126] 28 (0, 0)) (by (with_reducible repeat (first | refine blk_drewN ?_ _ | refine blk_drew ?_ | refine blk_alloc ?_ _)); exact BK258.out) hb); have n9_ := Aside0.mk (below_step (by repeat (first | (with_reducible first | exact HB.out | apply bwA | apply bwN | apply bwD | refine below_set ?_ GE214.out | refine below_set ?_ GE225.out | refine below_set ?_ GE230.out | refine below_set ?_ GE236.out | refine below_set ?_ GE258.out) | exact HB.out)) hb); clear HO_226001; clear HO_231001; clear HO_237001; clear HO_259001; clear BK214; clear BK225; clear BK230; clear BK236; clear BK258; clear HB; have HO_226001 := n0_; have HO_231001 := n1_; have HO_237001 := n2_; have HO_259001 := n3_; have BK214 := n4_; have BK225 := n5_; have BK230 := n6_; have BK236 := n7_; have BK258 := n8_; have HB := n9_; clear n0_ n1_ n2_ n3_ n4_ n5_ n6_ n7_ n8_ n9_; (try clear hb); (try clear hb2); (try clear hk); (try clear hi)))
               go_ret
               exact ⟨by first | rfl | (simp [errW_none, errW_some] <;> rfl) | (simp [*, errW_none, errW_some] <;> rfl), by repeat (first | (with_reducible first | exact HB.out | apply bwA | apply bwN | apply bwD | refine below_set ?_ GE214.out | refine below_set ?_ GE225.out | refine below_set ?_ GE230.out | refine below_set ?_ GE236.out | refine below_set ?_ GE258.out) | exact HB.out)⟩
              ·rw [if_neg c151] at H
               have c151b0 : decide (t260 < 0) = false := decide_eq_false c151
               clear c151
               by_cases c158 : t260 = t246
               ·rw [if_pos c158] at H
                have c158b0 : (t260 == t246) = true := beq_iff_eq.mpr c158
                have c158b1 : (t260 != t246) = false := bne_eq_false_iff_eq.mpr c158
                clear c158
                obtain rfl := Option.some.inj H
                have hnb159 := NB236_214.out
                have hnc159 := NB214_236.out
                have hnb160 := NB236_225.out
                have hnc160 := NB225_236.out
                have hnb161 := NB236_230.out
                have hnc161 := NB230_236.out
                have hnb162 := NB236_258.out
                have hnc162 := NB258_236.out
                have hcz163_0 : wc.cell? ⟨gb236, 0, none⟩ = some (.int .i64 t231) := (blk_cell BK236.out 0).trans rfl
                have hcz163_1 : wc.cell? ⟨gb236, 1, none⟩ = some (.slice Ao39 t247.length co39) := (blk_cell BK236.out 1).trans rfl
                have hfz163_0 := blk_frozen BK236.out 0
                have hfz163_1 := blk_frozen BK236.out 1
                go_wp2_with (first | ((with_reducible refine gate_callee (f := 18) rfl ?_); refine goesL_ (some 105) rfl rfl Try.func18 (by kernel_rfl) rfl #[.agg #[.int .i64 t231, .slice Ao39 t247.length co39], .int .i64 1] rfl (by (try simp only [List.map_toArray, List.map_cons, List.map_nil]); first | done | rfl | (simp only [List.length_drop, List.length_take]; rfl)) ?_; (with_reducible refine (laws_heldCircuit.calls kj105 t231 _ _ t247 1 t260 _ ?side1 ?side2 A150.out).mono ?_); (case side1 => repeat (first | exact (Kd.R_reads' HO_237001.out).2.2 | (with_reducible refine Kd.C_alloc ?_ _) | (with_reducible refine Kd.C_drewN ?_ _) | (with_reducible refine Kd.C_drew ?_))); (case side2 => exact (Kd.R_reads' HO_237001.out).2.1); rintro e w164 ⟨rfl, hb⟩; refine ⟨_, rfl, ?_⟩; have n0_ := Aside0.mk (Kd.R_below (by (with_reducible repeat (first | apply Kd.R_alloc | apply Kd.R_drewN | apply Kd.R_drew)); exact HO_226001.out) hb); have n1_ := Aside0.mk (Kd.R_below (by (with_reducible repeat (first | apply Kd.R_alloc | apply Kd.R_drewN | apply Kd.R_drew)); exact HO_231001.out) hb); have n2_ := Aside0.mk (Kd.R_below (by (with_reducible repeat (first | apply Kd.R_alloc | apply Kd.R_drewN | apply Kd.R_drew)); exact HO_237001.out) hb); have n3_ := Aside0.mk (Kd.R_below (by (with_reducible repeat (first | apply Kd.R_alloc | apply Kd.R_drewN | apply Kd.R_drew)); exact HO_259001.out) hb); have n4_ := Aside0.mk (blk_below (g := gb214) (o := .cells #[.int .i64 a0_0, .slice A0_1 l0_1.length c0_1] 24 (0, 0)) (by (with_reducible repeat (first | refine blk_drewN ?_ _ | refine blk_drew ?_ | refine blk_alloc ?_ _)); exact BK214.out) hb); have n5_ := Aside0.mk (blk_below (g := gb225) (o := .cells #[.int .i64 t220, .slice Ao25 t221.length co25] 28 (0, 0)) (by (with_reducible repeat (first | refine blk_drewN ?_ _ | refine blk_drew ?_ | refine blk_alloc ?_ _)); exact BK225.out) hb); have n6_ := Aside0.mk (blk_below (g := gb230) (o := .cells #[.int .i64 t226, .slice Ao32 t244.length co32] 28 (0, 0)) (by (with_reducible repeat (first | refine blk_drewN ?_ _ | refine blk_drew ?_ | refine blk_alloc ?_ _)); exact BK230.out) hb); have n7_ := Aside0.mk (blk_below (g := gb236) (o := .cells #[.int .i64 t231, .slice Ao39 t247.length co39] 28 (0, 0)) (by (with_reducible repeat (first | refine blk_drewN ?_ _ | refine blk_drew ?_ | refine blk_alloc ?_ _)); exact BK236.out) hb); have n8_ := Aside0.mk (blk_below (g := gb258) (o := .cells #[.int .i64 t253, .slice Ao126 t254.length co126] 28 (0, 0)) (by (with_reducible repeat (first | refine blk_drewN ?_ _ | refine blk_drew ?_ | refine blk_alloc ?_ _)); exact BK258.out) hb); have n9_ := Aside0.mk (below_step (by repeat (first | (with_reducible first | exact HB.out | apply bwA | apply bwN | apply bwD | refine below_set ?_ GE214.out | refine below_set ?_ GE225.out | refine below_set ?_ GE230.out | refine below_set ?_ GE236.out | refine below_set ?_ GE258.out) | exact HB.out)) hb); clear HO_226001; clear HO_231001; clear HO_237001; clear HO_259001; clear BK214; clear BK225; clear BK230; clear BK236; clear BK258; clear HB; have HO_226001 := n0_; have HO_231001 := n1_; have HO_237001 := n2_; have HO_259001 := n3_; have BK214 := n4_; have BK225 := n5_; have BK230 := n6_; have BK236 := n7_; have BK258 := n8_; have HB := n9_; clear n0_ n1_ n2_ n3_ n4_ n5_ n6_ n7_ n8_ n9_; (try clear hb); (try clear hb2); (try clear hk); (try clear hi)))
                go_ret
                exact ⟨by first | rfl | (simp [errW_none, errW_some] <;> rfl) | (simp [*, errW_none, errW_some] <;> rfl), by repeat (first | (with_reducible first | exact HB.out | apply bwA | apply bwN | apply bwD | refine below_set ?_ GE214.out | refine below_set ?_ GE225.out | refine below_set ?_ GE230.out | refine below_set ?_ GE236.out | refine below_set ?_ GE258.out) | exact HB.out)⟩
               ·rw [if_neg c158] at H
                have c158b0 : (t260 == t246) = false := beq_eq_false_iff_ne.mpr c158
                have c158b1 : (t260 != t246) = true := bne_iff_ne.mpr c158
                obtain rfl := Option.some.inj H
                have hnb165 := NB236_214.out
                have hnc165 := NB214_236.out
                have hnb166 := NB236_225.out
                have hnc166 := NB225_236.out
                have hnb167 := NB236_230.out
                have hnc167 := NB230_236.out
                have hnb168 := NB236_258.out
                have hnc168 := NB258_236.out
                have hcz169_0 : wc.cell? ⟨gb236, 0, none⟩ = some (.int .i64 t231) := (blk_cell BK236.out 0).trans rfl
                have hcz169_1 : wc.cell? ⟨gb236, 1, none⟩ = some (.slice Ao39 t247.length co39) := (blk_cell BK236.out 1).trans rfl
                have hfz169_0 := blk_frozen BK236.out 0
                have hfz169_1 := blk_frozen BK236.out 1
                go_wp2_with (first | ((with_reducible refine gate_callee (f := 18) rfl ?_); refine goesL_ (some 105) rfl rfl Try.func18 (by kernel_rfl) rfl #[.agg #[.int .i64 t231, .slice Ao39 t247.length co39], .int .i64 1] rfl (by (try simp only [List.map_toArray, List.map_cons, List.map_nil]); first | done | rfl | (simp only [List.length_drop, List.length_take]; rfl)) ?_; (with_reducible refine (laws_heldCircuit.calls kj105 t231 _ _ t247 1 t260 _ ?side1 ?side2 A150.out).mono ?_); (case side1 => repeat (first | exact (Kd.R_reads' HO_237001.out).2.2 | (with_reducible refine Kd.C_alloc ?_ _) | (with_reducible refine Kd.C_drewN ?_ _) | (with_reducible refine Kd.C_drew ?_))); (case side2 => exact (Kd.R_reads' HO_237001.out).2.1); rintro e w170 ⟨rfl, hb⟩; refine ⟨_, rfl, ?_⟩; have n0_ := Aside0.mk (Kd.R_below (by (with_reducible repeat (first | apply Kd.R_alloc | apply Kd.R_drewN | apply Kd.R_drew)); exact HO_226001.out) hb); have n1_ := Aside0.mk (Kd.R_below (by (with_reducible repeat (first | apply Kd.R_alloc | apply Kd.R_drewN | apply Kd.R_drew)); exact HO_231001.out) hb); have n2_ := Aside0.mk (Kd.R_below (by (with_reducible repeat (first | apply Kd.R_alloc | apply Kd.R_drewN | apply Kd.R_drew)); exact HO_237001.out) hb); have n3_ := Aside0.mk (Kd.R_below (by (with_reducible repeat (first | apply Kd.R_alloc | apply Kd.R_drewN | apply Kd.R_drew)); exact HO_259001.out) hb); have n4_ := Aside0.mk (blk_below (g := gb214) (o := .cells #[.int .i64 a0_0, .slice A0_1 l0_1.length c0_1] 24 (0, 0)) (by (with_reducible repeat (first | refine blk_drewN ?_ _ | refine blk_drew ?_ | refine blk_alloc ?_ _)); exact BK214.out) hb); have n5_ := Aside0.mk (blk_below (g := gb225) (o := .cells #[.int .i64 t220, .slice Ao25 t221.length co25] 28 (0, 0)) (by (with_reducible repeat (first | refine blk_drewN ?_ _ | refine blk_drew ?_ | refine blk_alloc ?_ _)); exact BK225.out) hb); have n6_ := Aside0.mk (blk_below (g := gb230) (o := .cells #[.int .i64 t226, .slice Ao32 t244.length co32] 28 (0, 0)) (by (with_reducible repeat (first | refine blk_drewN ?_ _ | refine blk_drew ?_ | refine blk_alloc ?_ _)); exact BK230.out) hb); have n7_ := Aside0.mk (blk_below (g := gb236) (o := .cells #[.int .i64 t231, .slice Ao39 t247.length co39] 28 (0, 0)) (by (with_reducible repeat (first | refine blk_drewN ?_ _ | refine blk_drew ?_ | refine blk_alloc ?_ _)); exact BK236.out) hb); have n8_ := Aside0.mk (blk_below (g := gb258) (o := .cells #[.int .i64 t253, .slice Ao126 t254.length co126] 28 (0, 0)) (by (with_reducible repeat (first | refine blk_drewN ?_ _ | refine blk_drew ?_ | refine blk_alloc ?_ _)); exact BK258.out) hb); have n9_ := Aside0.mk (below_step (by repeat (first | (with_reducible first | exact HB.out | apply bwA | apply bwN | apply bwD | refine below_set ?_ GE214.out | refine below_set ?_ GE225.out | refine below_set ?_ GE230.out | refine below_set ?_ GE236.out | refine below_set ?_ GE258.out) | exact HB.out)) hb); clear HO_226001; clear HO_231001; clear HO_237001; clear HO_259001; clear BK214; clear BK225; clear BK230; clear BK236; clear BK258; clear HB; have HO_226001 := n0_; have HO_231001 := n1_; have HO_237001 := n2_; have HO_259001 := n3_; have BK214 := n4_; have BK225 := n5_; have BK230 := n6_; have BK236 := n7_; have BK258 := n8_; have HB := n9_; clear n0_ n1_ n2_ n3_ n4_ n5_ n6_ n7_ n8_ n9_; (try clear hb); (try clear hb2); (try clear hk); (try clear hi)))
                go_ret
                exact ⟨by first | rfl | (simp [errW_none, errW_some] <;> rfl) | (simp [*, errW_none, errW_some] <;> rfl), by repeat (first | (with_reducible first | exact HB.out | apply bwA | apply bwN | apply bwD | refine below_set ?_ GE214.out | refine below_set ?_ GE225.out | refine below_set ?_ GE230.out | refine below_set ?_ GE236.out | refine below_set ?_ GE258.out) | exact HB.out)⟩
          ·rw [if_neg c103] at H
           have c103b0 : (t248 == t246) = false := beq_eq_false_iff_ne.mpr c103
           have c103b1 : (t248 != t246) = true := bne_iff_ne.mpr c103
           obtain rfl := Option.some.inj H
           have hnb171 := NB236_214.out
           have hnc171 := NB214_236.out
           have hnb172 := NB236_225.out
           have hnc172 := NB225_236.out
           have hnb173 := NB236_230.out
           have hnc173 := NB230_236.out
           have hcz174_0 : wc.cell? ⟨gb236, 0, none⟩ = some (.int .i64 t231) := (blk_cell BK236.out 0).trans rfl
           have hcz174_1 : wc.cell? ⟨gb236, 1, none⟩ = some (.slice Ao39 t232.length co39) := (blk_cell BK236.out 1).trans rfl
           have hfz174_0 := blk_frozen BK236.out 0
           have hfz174_1 := blk_frozen BK236.out 1
           go_wp2_with (first | ((with_reducible refine gate_callee (f := 17) rfl ?_); refine goesL_ (some 76) rfl rfl Try.func17 (by kernel_rfl) rfl #[.agg #[.int .i64 t231, .slice Ao39 t232.length co39], .int .i64 1] rfl (by (try simp only [List.map_toArray, List.map_cons, List.map_nil]); first | done | rfl | (simp only [List.length_drop, List.length_take]; rfl)) ?_; (with_reducible refine (laws_markCircuit.calls kj62 t231 (fun k_ => some k_ = (.slice Ao39 t232.length co39 : Value).ownBlock) (.slice Ao39 t232.length co39) t232 1 t246 t247 w _ ?side1 ?side2 A93.out).mono ?_); (case side1 => repeat (first | (with_reducible first | exact HB.out | apply bwA | apply bwN | apply bwD | refine below_set ?_ GE214.out | refine below_set ?_ GE225.out | refine below_set ?_ GE230.out | refine below_set ?_ GE236.out) | exact HB.out)); (case side2 => exact Kd.R_tight rfl HO_237001.out); rintro e w175 ⟨rfl, hy0, hb, hkp⟩; refine ⟨_, rfl, ?_⟩; have n0_ := Aside0.mk (Kd.R_mono (ok' := fun k_ => some k_ ≠ (.slice Ao32 t244.length co32 : Value).ownBlock ∧ some k_ ≠ (.slice Ao39 t232.length co39 : Value).ownBlock) (Kd.R_keptB (HO_226001.out) hkp (fun k_ hk_ hs_ => (hk_.2) hs_)) (fun k_ hk_ => ⟨hk_.1.1, hk_.1.2⟩)); have n1_ := Aside0.mk (Kd.R_mono (ok' := fun k_ => some k_ ≠ (.slice Ao25 t221.length co25 : Value).ownBlock ∧ some k_ ≠ (.slice Ao39 t232.length co39 : Value).ownBlock) (Kd.R_keptB (HO_231001.out) hkp (fun k_ hk_ hs_ => (hk_.2) hs_)) (fun k_ hk_ => ⟨hk_.1.1, hk_.1.2⟩)); have n2_ := Aside0.mk (Kd.R_reok rfl hy0 (fun k_ e_ => HO_237001.out.1 k_ e_)); have n3_ := Aside0.mk (blk_kept (by (with_reducible repeat (first | refine blk_drewN ?_ _ | refine blk_drew ?_ | refine blk_alloc ?_ _)); exact BK214.out) hkp (fun hs_ => (fun e_ => (Kd.R_ne HO_237001.out BK214.out (by decide)) e_) hs_)); have n4_ := Aside0.mk (blk_kept (by (with_reducible repeat (first | refine blk_drewN ?_ _ | refine blk_drew ?_ | refine blk_alloc ?_ _)); exact BK225.out) hkp (fun hs_ => (fun e_ => (Kd.R_ne HO_237001.out BK225.out (by decide)) e_) hs_)); have n5_ := Aside0.mk (blk_kept (by (with_reducible repeat (first | refine blk_drewN ?_ _ | refine blk_drew ?_ | refine blk_alloc ?_ _)); exact BK230.out) hkp (fun hs_ => (fun e_ => (Kd.R_ne HO_237001.out BK230.out (by decide)) e_) hs_)); have n6_ := Aside0.mk (blk_kept (by (with_reducible repeat (first | refine blk_drewN ?_ _ | refine blk_drew ?_ | refine blk_alloc ?_ _)); exact BK236.out) hkp (fun hs_ => (fun e_ => (Kd.R_ne HO_237001.out BK236.out (by decide)) e_) hs_)); have n7_ := Aside0.mk (hb); clear HO_226001; clear HO_231001; clear HO_237001; clear BK214; clear BK225; clear BK230; clear BK236; clear HB; have HO_226001 := n0_; have HO_231001 := n1_; have HO_237001 := n2_; have BK214 := n3_; have BK225 := n4_; have BK230 := n5_; have BK236 := n6_; have HB := n7_; clear n0_ n1_ n2_ n3_ n4_ n5_ n6_ n7_; (try clear hb); (try clear hkp); (try clear hy0); have hcz176_0 : w175.cell? ⟨gb236, 0, none⟩ = some (.int .i64 t231) := (blk_cell BK236.out 0).trans rfl; have hcz176_1 : w175.cell? ⟨gb236, 1, none⟩ = some (.slice Ao39 t232.length co39) := (blk_cell BK236.out 1).trans rfl; have hfz176_0 := blk_frozen BK236.out 0; have hfz176_1 := blk_frozen BK236.out 1) | ((with_reducible refine gate_callee (f := 18) rfl ?_); refine goesL_ (some 79) rfl rfl Try.func18 (by kernel_rfl) rfl #[.agg #[.int .i64 t231, .slice Ao39 t247.length co39], .int .i64 1] rfl (by (try simp only [List.map_toArray, List.map_cons, List.map_nil]); first | done | (rw [show t247.length = t232.length from (Kd.R_reads' HO_237001.out).1.symm] <;> rfl) | rfl | (simp only [List.length_drop, List.length_take]; rfl)) ?_; (with_reducible refine (laws_heldCircuit.calls kj62 t231 _ _ t247 1 t248 _ ?side1 ?side2 A94.out).mono ?_); (case side1 => repeat (first | exact (Kd.R_reads' HO_237001.out).2.2 | (with_reducible refine Kd.C_alloc ?_ _) | (with_reducible refine Kd.C_drewN ?_ _) | (with_reducible refine Kd.C_drew ?_))); (case side2 => rw [show t247.length = t232.length from (Kd.R_reads' HO_237001.out).1.symm]; exact (Kd.R_reads' HO_237001.out).2.1); rintro e w177 ⟨rfl, hb⟩; refine ⟨_, rfl, ?_⟩; have n0_ := Aside0.mk (Kd.R_below (by (with_reducible repeat (first | apply Kd.R_alloc | apply Kd.R_drewN | apply Kd.R_drew)); exact HO_226001.out) hb); have n1_ := Aside0.mk (Kd.R_below (by (with_reducible repeat (first | apply Kd.R_alloc | apply Kd.R_drewN | apply Kd.R_drew)); exact HO_231001.out) hb); have n2_ := Aside0.mk (Kd.R_below (by (with_reducible repeat (first | apply Kd.R_alloc | apply Kd.R_drewN | apply Kd.R_drew)); exact HO_237001.out) hb); have n3_ := Aside0.mk (blk_below (g := gb214) (o := .cells #[.int .i64 a0_0, .slice A0_1 l0_1.length c0_1] 24 (0, 0)) (by (with_reducible repeat (first | refine blk_drewN ?_ _ | refine blk_drew ?_ | refine blk_alloc ?_ _)); exact BK214.out) hb); have n4_ := Aside0.mk (blk_below (g := gb225) (o := .cells #[.int .i64 t220, .slice Ao25 t221.length co25] 28 (0, 0)) (by (with_reducible repeat (first | refine blk_drewN ?_ _ | refine blk_drew ?_ | refine blk_alloc ?_ _)); exact BK225.out) hb); have n5_ := Aside0.mk (blk_below (g := gb230) (o := .cells #[.int .i64 t226, .slice Ao32 t244.length co32] 28 (0, 0)) (by (with_reducible repeat (first | refine blk_drewN ?_ _ | refine blk_drew ?_ | refine blk_alloc ?_ _)); exact BK230.out) hb); have n6_ := Aside0.mk (blk_below (g := gb236) (o := .cells #[.int .i64 t231, .slice Ao39 t232.length co39] 28 (0, 0)) (by (with_reducible repeat (first | refine blk_drewN ?_ _ | refine blk_drew ?_ | refine blk_alloc ?_ _)); exact BK236.out) hb); have n7_ := Aside0.mk (below_step (by repeat (first | (with_reducible first | exact HB.out | apply bwA | apply bwN | apply bwD | refine below_set ?_ GE214.out | refine below_set ?_ GE225.out | refine below_set ?_ GE230.out | refine below_set ?_ GE236.out) | exact HB.out)) hb); clear HO_226001; clear HO_231001; clear HO_237001; clear BK214; clear BK225; clear BK230; clear BK236; clear HB; have HO_226001 := n0_; have HO_231001 := n1_; have HO_237001 := n2_; have BK214 := n3_; have BK225 := n4_; have BK230 := n5_; have BK236 := n6_; have HB := n7_; clear n0_ n1_ n2_ n3_ n4_ n5_ n6_ n7_; (try clear hb); (try clear hb2); (try clear hk); (try clear hi)))
           go_ret
           exact ⟨by first | rfl | (simp [errW_none, errW_some] <;> rfl) | (simp [*, errW_none, errW_some] <;> rfl), by repeat (first | (with_reducible first | exact HB.out | apply bwA | apply bwN | apply bwD | refine below_set ?_ GE214.out | refine below_set ?_ GE225.out | refine below_set ?_ GE230.out | refine below_set ?_ GE236.out) | exact HB.out)⟩
     ·replace c61 := Bool.eq_false_iff.mpr c61
      subst c61
      have H1 : (some false) = some r := by rw [if_neg (show ¬ (false = true) by decide)] at H; exact H
      clear H
      have H := H1
      clear H1
      obtain rfl := Option.some.inj H
      try go_wp2
      have n0_ := Aside0.mk (Kd.R_drew HO_226001.out)
      have n1_ := Aside0.mk (Kd.R_drew HO_231001.out)
      have n2_ := Aside0.mk (Kd.R_drew HO_237001.out)
      have n3_ := Aside0.mk (blk_drew BK214.out)
      have n4_ := Aside0.mk (blk_drew BK225.out)
      have n5_ := Aside0.mk (blk_drew BK230.out)
      have n6_ := Aside0.mk (blk_drew BK236.out)
      have n7_ := Aside0.mk (below_drew1 HB.out)
      clear HO_226001
      clear HO_231001
      clear HO_237001
      clear BK214
      clear BK225
      clear BK230
      clear BK236
      clear HB
      have HO_226001 := n0_
      have HO_231001 := n1_
      have HO_237001 := n2_
      have BK214 := n3_
      have BK225 := n4_
      have BK230 := n5_
      have BK236 := n6_
      have HB := n7_
      clear n0_ n1_ n2_ n3_ n4_ n5_ n6_ n7_
      refine start_ (n := 5) (S := fun w' => w'.cell? ⟨gb230, 0, none⟩ = some (.int .i64 t226) ∧ w'.cell? ⟨gb230, 1, none⟩ = some (.slice Ao32 t227.length co32) ∧ w'.cell? ⟨gb214, 0, none⟩ = some (.int .i64 a0_0) ∧ w'.cell? ⟨gb214, 1, none⟩ = some (.slice A0_1 l0_1.length c0_1)) (ds := []) #[false, false, false, false, false] (by kernel_rfl) rfl rfl ⟨(blk_cell BK230.out 0).trans rfl, (blk_cell BK230.out 1).trans rfl, (blk_cell BK214.out 0).trans rfl, (blk_cell BK214.out 1).trans rfl⟩ (fun hHeld => ?_)
      generalize wc.drew = w178 at HO_226001 HO_231001 HO_237001 BK214 BK225 BK230 BK236 HB hHeld ⊢
      refine take_ (i := 0) (N := some 53) (v := ?_) (a' := ?_) #[true, false, false, false, false] rfl rfl (by kernel_rfl) (fun _ _ _ h => h) (Or.inl ⟨by rfl, ?_⟩) hHeld ?_ ?_
      rotate_left
      ·rintro w' ⟨s0, s1, s2, s3⟩
       go_simp
       with_reducible rfl
      rotate_left
      ·simp only [Act.put, List.setIfInBounds_toArray, List.set_cons_zero, List.set_cons_succ, i64_w, i32_w]
       rfl
      refine take_ (i := 1) (N := some 54) (v := ?_) (a' := ?_) #[true, true, false, false, false] rfl rfl (by kernel_rfl) (fun _ _ _ h => h) (Or.inl ⟨by rfl, ?_⟩) hHeld ?_ ?_
      rotate_left
      ·rintro w' ⟨s0, s1, s2, s3⟩
       go_simp
       with_reducible rfl
      rotate_left
      ·simp only [Act.put, List.setIfInBounds_toArray, List.set_cons_zero, List.set_cons_succ, i64_w, i32_w]
       rfl
      refine one_ (i := 2) (N := some 55) #[true, true, true, false, false] rfl rfl (by kernel_rfl) (by decide) (fun K hK => ?_)
      refine goes_ Try.func14 (by kernel_rfl) rfl #[.agg #[.int .i64 a0_0, .slice A0_1 l0_1.length c0_1]] (by rfl) rfl rfl (by (try simp only [List.map_toArray, List.map_cons, List.map_nil]); first | done | rfl | (simp only [List.length_drop, List.length_take]; rfl)) ?_
      with_reducible refine (laws_toCircuit.calls kj13 a0_0 _ _ l0_1 t238 t239 _ ?side1 ?side2 A59.out).mono ?_
      (case side1 => repeat (first | exact (Kd.C_below HR0_1.out HB.out) | (with_reducible refine Kd.C_alloc ?_ _) | (with_reducible refine Kd.C_drewN ?_ _) | (with_reducible refine Kd.C_drew ?_)))
      (case side2 => exact HC0_1.out)
      rintro e w179 ⟨v240, rfl, ho0, hb⟩
      refine ⟨_, rfl, ?_⟩
      have n0_ := Aside0.mk (Kd.R_elder' (by (with_reducible repeat (first | apply Kd.R_alloc | apply Kd.R_drewN | apply Kd.R_drew)); exact HO_226001.out) (Kd.R_base ho0) hb)
      have n1_ := Aside0.mk (Kd.R_elder' (by (with_reducible repeat (first | apply Kd.R_alloc | apply Kd.R_drewN | apply Kd.R_drew)); exact HO_231001.out) (Kd.R_base ho0) hb)
      have n2_ := Aside0.mk (Kd.R_elder' (by (with_reducible repeat (first | apply Kd.R_alloc | apply Kd.R_drewN | apply Kd.R_drew)); exact HO_237001.out) (Kd.R_base ho0) hb)
      have n3_ := Aside0.mk (Kd.R_lower (Kd.R_new' (Kd.R_new' (Kd.R_new' ho0 (Kd.R_lt (by (with_reducible repeat (first | apply Kd.R_alloc | apply Kd.R_drewN | apply Kd.R_drew)); exact HO_226001.out))) (Kd.R_lt (by (with_reducible repeat (first | apply Kd.R_alloc | apply Kd.R_drewN | apply Kd.R_drew)); exact HO_231001.out))) (Kd.R_lt (by (with_reducible repeat (first | apply Kd.R_alloc | apply Kd.R_drewN | apply Kd.R_drew)); exact HO_237001.out))) (below_size (by repeat (first | (with_reducible first | exact HB.out | apply bwA | apply bwN | apply bwD | refine below_set ?_ GE214.out | refine below_set ?_ GE225.out | refine below_set ?_ GE230.out | refine below_set ?_ GE236.out) | exact HB.out))))
      have n4_ := Aside0.mk (blk_below (g := gb214) (o := .cells #[.int .i64 a0_0, .slice A0_1 l0_1.length c0_1] 24 (0, 0)) (by (with_reducible repeat (first | refine blk_drewN ?_ _ | refine blk_drew ?_ | refine blk_alloc ?_ _)); exact BK214.out) hb)
      have n5_ := Aside0.mk (blk_below (g := gb225) (o := .cells #[.int .i64 t220, .slice Ao25 t221.length co25] 28 (0, 0)) (by (with_reducible repeat (first | refine blk_drewN ?_ _ | refine blk_drew ?_ | refine blk_alloc ?_ _)); exact BK225.out) hb)
      have n6_ := Aside0.mk (blk_below (g := gb230) (o := .cells #[.int .i64 t226, .slice Ao32 t227.length co32] 28 (0, 0)) (by (with_reducible repeat (first | refine blk_drewN ?_ _ | refine blk_drew ?_ | refine blk_alloc ?_ _)); exact BK230.out) hb)
      have n7_ := Aside0.mk (blk_below (g := gb236) (o := .cells #[.int .i64 t231, .slice Ao39 t232.length co39] 28 (0, 0)) (by (with_reducible repeat (first | refine blk_drewN ?_ _ | refine blk_drew ?_ | refine blk_alloc ?_ _)); exact BK236.out) hb)
      have n8_ := Aside0.mk (below_step (by repeat (first | (with_reducible first | exact HB.out | apply bwA | apply bwN | apply bwD | refine below_set ?_ GE214.out | refine below_set ?_ GE225.out | refine below_set ?_ GE230.out | refine below_set ?_ GE236.out) | exact HB.out)) hb)
      clear HO_226001
      clear HO_231001
      clear HO_237001
      clear BK214
      clear BK225
      clear BK230
      clear BK236
      clear HB
      have HO_226001 := n0_
      have HO_231001 := n1_
      have HO_237001 := n2_
      have HO241 := n3_
      have BK214 := n4_
      have BK225 := n5_
      have BK230 := n6_
      have BK236 := n7_
      have HB := n8_
      clear n0_ n1_ n2_ n3_ n4_ n5_ n6_ n7_ n8_
      (try clear hb)
      (try clear hb2)
      (try clear hk)
      (try clear hi)
      (try clear ho0)
      obtain ⟨Ao180, co180, eo180⟩ := Kd.R_slice HO241.out
      (first | subst eo180 | (injection eo180 with f1_ f2_ f3_; have f4_ := f1_.symm; have f5_ := f3_.symm; clear f1_ f2_ f3_; subst f4_; subst f5_))
      refine hK.out _ _ ⟨(blk_cell BK230.out 0).trans rfl, (blk_cell BK230.out 1).trans rfl, (blk_cell BK214.out 0).trans rfl, (blk_cell BK214.out 1).trans rfl⟩ (fun hHeld => ?_)
      clear hK K
      refine norm_ (a' := ?_) ?_ ?_
      rotate_left
      ·show Act.put _ (some 55) _ = _
       simp only [Act.put, List.setIfInBounds_toArray, List.set_cons_zero, List.set_cons_succ, i64_w, i32_w]
       rfl
      refine one_ (i := 3) (N := some 56) #[true, true, true, true, false] rfl rfl (by kernel_rfl) (by decide) (fun K hK => ?_)
      refine goes_ Try.func16 (by kernel_rfl) rfl #[.agg #[.int .i64 t226, .slice Ao32 t227.length co32], .agg #[.int .i64 t238, .slice Ao180 t239.length co180]] (by rfl) rfl rfl (by (try simp only [List.map_toArray, List.map_cons, List.map_nil]); first | done | rfl | (simp only [List.length_drop, List.length_take]; rfl)) ?_
      with_reducible refine (laws_eqCircuit.calls kj13 t226 _ _ t227 t238 _ _ t239 false _ ?side1 ?side2 ?side3 ?side4 A60.out).mono ?_
      (case side1 => repeat (first | exact (Kd.R_reads' HO_231001.out).2.2 | (with_reducible refine Kd.C_alloc ?_ _) | (with_reducible refine Kd.C_drewN ?_ _) | (with_reducible refine Kd.C_drew ?_)))
      (case side2 => exact (Kd.R_reads' HO_231001.out).2.1)
      (case side3 => repeat (first | exact (Kd.R_reads' HO241.out).2.2 | (with_reducible refine Kd.C_alloc ?_ _) | (with_reducible refine Kd.C_drewN ?_ _) | (with_reducible refine Kd.C_drew ?_)))
      (case side4 => exact (Kd.R_reads' HO241.out).2.1)
      rintro e w181 ⟨rfl, hb⟩
      refine ⟨_, rfl, ?_⟩
      have n0_ := Aside0.mk (Kd.R_below (by (with_reducible repeat (first | apply Kd.R_alloc | apply Kd.R_drewN | apply Kd.R_drew)); exact HO_226001.out) hb)
      have n1_ := Aside0.mk (Kd.R_below (by (with_reducible repeat (first | apply Kd.R_alloc | apply Kd.R_drewN | apply Kd.R_drew)); exact HO_231001.out) hb)
      have n2_ := Aside0.mk (Kd.R_below (by (with_reducible repeat (first | apply Kd.R_alloc | apply Kd.R_drewN | apply Kd.R_drew)); exact HO_237001.out) hb)
      have n3_ := Aside0.mk (Kd.R_below (by (with_reducible repeat (first | apply Kd.R_alloc | apply Kd.R_drewN | apply Kd.R_drew)); exact HO241.out) hb)
      have n4_ := Aside0.mk (blk_below (g := gb214) (o := .cells #[.int .i64 a0_0, .slice A0_1 l0_1.length c0_1] 24 (0, 0)) (by (with_reducible repeat (first | refine blk_drewN ?_ _ | refine blk_drew ?_ | refine blk_alloc ?_ _)); exact BK214.out) hb)
      have n5_ := Aside0.mk (blk_below (g := gb225) (o := .cells #[.int .i64 t220, .slice Ao25 t221.length co25] 28 (0, 0)) (by (with_reducible repeat (first | refine blk_drewN ?_ _ | refine blk_drew ?_ | refine blk_alloc ?_ _)); exact BK225.out) hb)
      have n6_ := Aside0.mk (blk_below (g := gb230) (o := .cells #[.int .i64 t226, .slice Ao32 t227.length co32] 28 (0, 0)) (by (with_reducible repeat (first | refine blk_drewN ?_ _ | refine blk_drew ?_ | refine blk_alloc ?_ _)); exact BK230.out) hb)
      have n7_ := Aside0.mk (blk_below (g := gb236) (o := .cells #[.int .i64 t231, .slice Ao39 t232.length co39] 28 (0, 0)) (by (with_reducible repeat (first | refine blk_drewN ?_ _ | refine blk_drew ?_ | refine blk_alloc ?_ _)); exact BK236.out) hb)
      have n8_ := Aside0.mk (below_step (by repeat (first | (with_reducible first | exact HB.out | apply bwA | apply bwN | apply bwD | refine below_set ?_ GE214.out | refine below_set ?_ GE225.out | refine below_set ?_ GE230.out | refine below_set ?_ GE236.out) | exact HB.out)) hb)
      clear HO_226001
      clear HO_231001
      clear HO_237001
      clear HO241
      clear BK214
      clear BK225
      clear BK230
      clear BK236
      clear HB
      have HO_226001 := n0_
      have HO_231001 := n1_
      have HO_237001 := n2_
      have HO241 := n3_
      have BK214 := n4_
      have BK225 := n5_
      have BK230 := n6_
      have BK236 := n7_
      have HB := n8_
      clear n0_ n1_ n2_ n3_ n4_ n5_ n6_ n7_ n8_
      (try clear hb)
      (try clear hb2)
      (try clear hk)
      (try clear hi)
      refine hK.out _ _ ⟨(blk_cell BK230.out 0).trans rfl, (blk_cell BK230.out 1).trans rfl, (blk_cell BK214.out 0).trans rfl, (blk_cell BK214.out 1).trans rfl⟩ (fun hHeld => ?_)
      clear hK K
      refine norm_ (a' := ?_) ?_ ?_
      rotate_left
      ·show Act.put _ (some 56) _ = _
       simp only [Act.put, List.setIfInBounds_toArray, List.set_cons_zero, List.set_cons_succ, i64_w, i32_w]
       rfl
      refine pure_ (i := 4) (N := some 57) (v := ?_) (a' := ?_) #[true, true, true, true, true] rfl rfl (by kernel_rfl) (fun _ _ _ h => h) (Or.inl ⟨by rfl, ?_⟩) ?_ ?_
      rotate_left
      ·intro w'
       go_simp
       with_reducible rfl
      rotate_left
      ·simp only [Act.put, List.setIfInBounds_toArray, List.set_cons_zero, List.set_cons_succ, i64_w, i32_w]
       rfl
      refine done_ (by kernel_rfl) ?_
      try go_wp2
      go_ret
      exact ⟨by first | rfl | (simp [errW_none, errW_some] <;> rfl) | (simp [*, errW_none, errW_some] <;> rfl), by repeat (first | (with_reducible first | exact HB.out | apply bwA | apply bwN | apply bwD | refine below_set ?_ GE214.out | refine below_set ?_ GE225.out | refine below_set ?_ GE230.out | refine below_set ?_ GE236.out) | exact HB.out)⟩
def GoodIi64 (x : Int) : Prop := (Lit.int .i64 x).wf = true
def GoodS113 (x : S113) : Prop := GoodIi64 x.f0 ∧ GoodIi64 x.f1
def GoodL3 (x : List (S113)) : Prop := (x.length ≤ maxLen ∧ ∀ x_ ∈ x, GoodS113 x_)
/-- THE ONE PURE STATEMENT of laws_FnExactFixed. -/
def laws_FnExactFixed.Pure : Prop := ∀ (a0_0 : Int) (l0_1 : List (S113)) (a1 : Int) (a2 : Int) (a3 : Int), GoodIi64 a0_0 → GoodL3 l0_1 → GoodIi64 a1 → GoodIi64 a2 → GoodIi64 a3 → ∃ k, laws_FnExactFixed.f k a0_0 l0_1 a1 a2 a3 = some true
theorem laws_FnExactFixed.walk (P : laws_FnExactFixed.Pure) (a0_0 : Int) (A0_1 : Option Addr) (c0_1 : Nat) (l0_1 : List (S113)) (a1 : Int) (a2 : Int) (a3 : Int) (w : World) (hr0_1 : Kd.C k113 w A0_1 l0_1.length l0_1) (hc0_1 : l0_1.length ≤ c0_1) (g0_0 : GoodIi64 a0_0) (g0_1 : GoodL3 l0_1) (g1 : GoodIi64 a1) (g2 : GoodIi64 a2) (g3 : GoodIi64 a3) :
  Calls Try.prog 5 #[.agg #[.int .i64 a0_0, .slice A0_1 l0_1.length c0_1], .int .i64 a1, .int .i64 a2, .int .i64 a3] w fun e w' => e = .returned (.bool true) ∧ Below w.heap.size w w' := by
 obtain ⟨k, h⟩ := P a0_0 l0_1 a1 a2 a3 g0_0 g0_1 g1 g2 g3
 refine (laws_FnExactFixed.calls k a0_0 _ _ l0_1 a1 a2 a3 true w hr0_1 hc0_1 h).mono ?_
 rintro e w' ⟨rfl, hd⟩
 exact ⟨rfl, hd⟩

end Go.Proofs.Ytpcckoljocpchaa.QFnExactFixed
