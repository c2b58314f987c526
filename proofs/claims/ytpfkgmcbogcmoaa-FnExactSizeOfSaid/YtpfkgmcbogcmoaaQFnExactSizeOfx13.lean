-- Written by a program of this session (mk.py). Lean checks it.
import Derived.Test.YtpfkgmcbogcmoaaQFnExactSizeOfx0
import Derived.Test.YtpfkgmcbogcmoaaQFnExactSizeOfx1
import Derived.Test.YtpfkgmcbogcmoaaQFnExactSizeOfx6
import Derived.Test.YtpfkgmcbogcmoaaQFnExactSizeOfx7
import Derived.Test.YtpfkgmcbogcmoaaQFnExactSizeOfx9
import Derived.Test.YtpfkgmcbogcmoaaQFnExactSizeOfx12
namespace Go.Proofs.Ytpfkgmcbogcmoaa.QFnExactSizeOf
open Go.RowKit Go.Proofs.YtpfkgmcbogcmoaaW.PrintWords Go.Proofs.YtpfkgmcbogcmoaaW.PrintLast Go.Proofs.YtpfkgmcbogcmoaaW.PrintMore
attribute [local go_sem] max2_int min2_int max_two min_two max_three min_three max_four min_four   -- for this text's walks alone
set_option linter.unusedVariables false
set_option linter.unusedSimpArgs false

/-! ### laws_FnExactSizeOf: function 8 -/
def laws_FnExactSizeOf.f (k : Nat) (l0_0 : List (S133)) (l0_1 : List (S131)) : Option (Bool) := (laws_szSystem.f k l0_0 l0_1 1048576).bind fun t307 => (if t307 < 0 then (some true) else ((laws_toSystem.f k l0_0 l0_1).bind fun bt308 => ((spec_SizeOf.f k bt308.1 bt308.2).bind fun t314 => ((laws_toSystem.f k l0_0 l0_1).bind fun bt315 => ((impl_SizeOf.f k bt315.1 bt315.2).bind fun t322 => (if t322 = t314 then ((laws_toSystem.f k l0_0 l0_1).bind fun bt323 => ((laws_eqSystem.f k bt315.1 bt315.2 bt323.1 bt323.2).bind fun t329 => (if t329 = true then (some true) else (some false)))) else (some false)))))))
theorem laws_FnExactSizeOf.mono : ∀ a0 a1 k, LeO (laws_FnExactSizeOf.f k a0 a1) (laws_FnExactSizeOf.f (k + 1) a0 a1) := by
 intro a0 a1 k
 unfold laws_FnExactSizeOf.f
 repeat' first
   | (with_reducible exact impl_SizeOf.mono _ _ _)
   | (with_reducible exact laws_eqSystem.mono _ _ _ _ _)
   | (with_reducible exact laws_szSystem.mono _ _ _ _)
   | (with_reducible exact laws_toSystem.mono _ _ _)
   | (with_reducible exact spec_SizeOf.mono _ _ _)
   | (with_reducible exact LeO.refl _)
   | (with_reducible exact LeO.none _)
   | (with_reducible refine LeO.ite ?_ ?_)
   | (with_reducible refine LeO.bind ?_ (fun _ => ?_))
   | exact impl_SizeOf.mono _ _ _
   | exact laws_eqSystem.mono _ _ _ _ _
   | exact laws_szSystem.mono _ _ _ _
   | exact laws_toSystem.mono _ _ _
   | exact spec_SizeOf.mono _ _ _
   | exact LeO.none _
   | refine LeO.ite ?_ ?_
   | refine LeO.bind ?_ (fun _ => ?_)
set_option maxHeartbeats 8000000 in
set_option maxRecDepth 100000 in
theorem laws_FnExactSizeOf.calls (k : Nat) (A0_0 : Option Addr) (c0_0 : Nat) (l0_0 : List (S133)) (A0_1 : Option Addr) (c0_1 : Nat) (l0_1 : List (S131)) (r : Bool) (w : World) (hr0_0 : Kd.C k133 w A0_0 l0_0.length l0_0) (hc0_0 : l0_0.length ≤ c0_0) (hr0_1 : Kd.C k131 w A0_1 l0_1.length l0_1) (hc0_1 : l0_1.length ≤ c0_1) (h : laws_FnExactSizeOf.f k l0_0 l0_1 = some r) :
  Calls Try.prog 8 #[.agg #[.slice A0_0 l0_0.length c0_0, .slice A0_1 l0_1.length c0_1]] w fun e w' => e = .returned (.bool r) ∧ Below w.heap.size w w' := by
 have hu52 := Try.underlying52
 have hu58 := Try.underlying58
 have HR0_0 := Aside0.mk hr0_0
 have HC0_0 := Aside0.mk hc0_0
 clear hr0_0 hc0_0
 have HR0_1 := Aside0.mk hr0_1
 have HC0_1 := Aside0.mk hc0_1
 clear hr0_1 hc0_1
 have HB := Aside0.mk (Below.refl w.heap.size w)
 have H : ((laws_szSystem.f k l0_0 l0_1 1048576).bind fun t307 => (if t307 < 0 then (some true) else ((laws_toSystem.f k l0_0 l0_1).bind fun bt308 => ((spec_SizeOf.f k bt308.1 bt308.2).bind fun t314 => ((laws_toSystem.f k l0_0 l0_1).bind fun bt315 => ((impl_SizeOf.f k bt315.1 bt315.2).bind fun t322 => (if t322 = t314 then ((laws_toSystem.f k l0_0 l0_1).bind fun bt323 => ((laws_eqSystem.f k bt315.1 bt315.2 bt323.1 bt323.2).bind fun t329 => (if t329 = true then (some true) else (some false)))) else (some false)))))))) = some r := h
 clear h
 replace H := Option.bind_eq_some_iff.mp H
 obtain ⟨t307, A20, H⟩ := H
 replace H : (if t307 < 0 then (some true) else ((laws_toSystem.f k l0_0 l0_1).bind fun bt308 => ((spec_SizeOf.f k bt308.1 bt308.2).bind fun t314 => ((laws_toSystem.f k l0_0 l0_1).bind fun bt315 => ((impl_SizeOf.f k bt315.1 bt315.2).bind fun t322 => (if t322 = t314 then ((laws_toSystem.f k l0_0 l0_1).bind fun bt323 => ((laws_eqSystem.f k bt315.1 bt315.2 bt323.1 bt323.2).bind fun t329 => (if t329 = true then (some true) else (some false)))) else (some false))))))) = some r := H
 have A2 := Aside0.mk A20
 clear A20
 by_cases c3 : t307 < 0
 ·rw [if_pos c3] at H
  have c3b0 : decide (t307 < 0) = true := decide_eq_true c3
  clear c3
  obtain rfl := Option.some.inj H
  go_enter Try.func8, Try.ntmps8
  go_wp2_with (first | ((with_reducible refine gate_dst (N := 1) rfl ?_); refine box_event ?hg (N := 1) ?hd (cs := #[.slice A0_0 l0_0.length c0_0, .slice A0_1 l0_1.length c0_1]) (t := 52) ?hr ?_; (case hd => rfl); (case hg => rfl); (case hr => first | (go_simp; done) | (go_simp; rfl)); intro gb306 hg w4 hbox hb; have n0_ := Aside0.mk (below_step (by repeat (first | (with_reducible first | exact HB.out | apply bwA | apply bwN | apply bwD) | exact HB.out)) hb); have n1_ := Aside0.mk (hbox); have n2_ := Aside0.mk ((by rw [hg]; exact (below_size (by repeat (first | (with_reducible first | exact HB.out | apply bwA | apply bwN | apply bwD) | exact HB.out))) : w.heap.size ≤ gb306)); have n3_ := Aside0.mk ((by rw [hg]; exact (below_size (by repeat (first | (with_reducible first | exact HB.out | apply bwA | apply bwN | apply bwD) | exact HB.out))) : w.heap.size ≤ gb306)); clear HB; have HB := n0_; have BK306 := n1_; have GW306 := n2_; have GE306 := n3_; clear n0_ n1_ n2_ n3_; clear hb hbox hg; have hcz5_0 : w4.cell? ⟨gb306, 0, none⟩ = some (.slice A0_0 l0_0.length c0_0) := (blk_cell BK306.out 0).trans rfl; have hcz5_1 : w4.cell? ⟨gb306, 1, none⟩ = some (.slice A0_1 l0_1.length c0_1) := (blk_cell BK306.out 1).trans rfl; have hfz5_0 := blk_frozen BK306.out 0; have hfz5_1 := blk_frozen BK306.out 1) | ((with_reducible refine gate_callee (f := 33) rfl ?_); refine goesL_ (some 9) rfl rfl Try.func33 (by kernel_rfl) rfl #[.agg #[.slice A0_0 l0_0.length c0_0, .slice A0_1 l0_1.length c0_1], .int .i64 1048576] rfl lmB ?_; (with_reducible refine (laws_szSystem.calls k _ _ l0_0 _ _ l0_1 1048576 t307 _ ?side1 ?side2 ?side3 ?side4 A2.out).mono ?_); (case side1 => repeat (first | exact (Kd.C_below HR0_0.out HB.out) | (with_reducible refine Kd.C_alloc ?_ _) | (with_reducible refine Kd.C_drewN ?_ _) | (with_reducible refine Kd.C_drew ?_))); (case side2 => exact HC0_0.out); (case side3 => repeat (first | exact (Kd.C_below HR0_1.out HB.out) | (with_reducible refine Kd.C_alloc ?_ _) | (with_reducible refine Kd.C_drewN ?_ _) | (with_reducible refine Kd.C_drew ?_))); (case side4 => exact HC0_1.out); rintro e w6 ⟨rfl, hb⟩; refine ⟨_, rfl, ?_⟩; have n0_ := Aside0.mk (blk_below (g := gb306) (o := .cells #[.slice A0_0 l0_0.length c0_0, .slice A0_1 l0_1.length c0_1] 52 (0, 0)) (bvK BK306.out) hb); have n1_ := Aside0.mk (below_step (by repeat (first | (with_reducible first | exact HB.out | apply bwA | apply bwN | apply bwD | refine below_set ?_ GE306.out) | exact HB.out)) hb); clear BK306; clear HB; have BK306 := n0_; have HB := n1_; clear n0_ n1_; (try clear hb); (try clear hb2); (try clear hk); (try clear hi)))
  go_ret
  exact ⟨ers, by repeat (first | (with_reducible first | exact HB.out | apply bwA | apply bwN | apply bwD | refine below_set ?_ GE306.out) | exact HB.out)⟩
 ·rw [if_neg c3] at H
  have c3b0 : decide (t307 < 0) = false := decide_eq_false c3
  clear c3
  replace H := Option.bind_eq_some_iff.mp H
  obtain ⟨⟨t308, t311⟩, A70, H⟩ := H
  replace H : ((spec_SizeOf.f k t308 t311).bind fun t314 => ((laws_toSystem.f k l0_0 l0_1).bind fun bt315 => ((impl_SizeOf.f k bt315.1 bt315.2).bind fun t322 => (if t322 = t314 then ((laws_toSystem.f k l0_0 l0_1).bind fun bt323 => ((laws_eqSystem.f k bt315.1 bt315.2 bt323.1 bt323.2).bind fun t329 => (if t329 = true then (some true) else (some false)))) else (some false))))) = some r := H
  have A7 := Aside0.mk A70
  clear A70
  replace H := Option.bind_eq_some_iff.mp H
  obtain ⟨t314, A80, H⟩ := H
  replace H : ((laws_toSystem.f k l0_0 l0_1).bind fun bt315 => ((impl_SizeOf.f k bt315.1 bt315.2).bind fun t322 => (if t322 = t314 then ((laws_toSystem.f k l0_0 l0_1).bind fun bt323 => ((laws_eqSystem.f k bt315.1 bt315.2 bt323.1 bt323.2).bind fun t329 => (if t329 = true then (some true) else (some false)))) else (some false)))) = some r := H
  have A8 := Aside0.mk A80
  clear A80
  replace H := Option.bind_eq_some_iff.mp H
  obtain ⟨⟨t315, t318⟩, A90, H⟩ := H
  replace H : ((impl_SizeOf.f k t315 t318).bind fun t322 => (if t322 = t314 then ((laws_toSystem.f k l0_0 l0_1).bind fun bt323 => ((laws_eqSystem.f k t315 t318 bt323.1 bt323.2).bind fun t329 => (if t329 = true then (some true) else (some false)))) else (some false))) = some r := H
  have A9 := Aside0.mk A90
  clear A90
  replace H := Option.bind_eq_some_iff.mp H
  obtain ⟨t322, A100, H⟩ := H
  replace H : (if t322 = t314 then ((laws_toSystem.f k l0_0 l0_1).bind fun bt323 => ((laws_eqSystem.f k t315 t318 bt323.1 bt323.2).bind fun t329 => (if t329 = true then (some true) else (some false)))) else (some false)) = some r := H
  have A10 := Aside0.mk A100
  clear A100
  by_cases c11 : t322 = t314
  ·rw [if_pos c11] at H
   have c11b0 : (t322 == t314) = true := beq_iff_eq.mpr c11
   have c11b1 : (t322 != t314) = false := bne_eq_false_iff_eq.mpr c11
   clear c11
   replace H := Option.bind_eq_some_iff.mp H
   obtain ⟨⟨t323, t326⟩, A120, H⟩ := H
   replace H : ((laws_eqSystem.f k t315 t318 t323 t326).bind fun t329 => (if t329 = true then (some true) else (some false))) = some r := H
   have A12 := Aside0.mk A120
   clear A120
   replace H := Option.bind_eq_some_iff.mp H
   obtain ⟨t329, A130, H⟩ := H
   replace H : (if t329 = true then (some true) else (some false)) = some r := H
   have A13 := Aside0.mk A130
   clear A130
   by_cases c14 : t329 = true
   ·subst c14
    have H1 : (some true) = some r := by rw [if_pos rfl] at H; exact H
    clear H
    have H := H1
    clear H1
    obtain rfl := Option.some.inj H
    go_enter Try.func8, Try.ntmps8
    try go_wp2_with (first | ((with_reducible refine gate_dst (N := 1) rfl ?_); refine box_event ?hg (N := 1) ?hd (cs := #[.slice A0_0 l0_0.length c0_0, .slice A0_1 l0_1.length c0_1]) (t := 52) ?hr ?_; (case hd => rfl); (case hg => rfl); (case hr => first | (go_simp; done) | (go_simp; rfl)); intro gb306 hg w15 hbox hb; have n0_ := Aside0.mk (below_step (by repeat (first | (with_reducible first | exact HB.out | apply bwA | apply bwN | apply bwD) | exact HB.out)) hb); have n1_ := Aside0.mk (hbox); have n2_ := Aside0.mk ((by rw [hg]; exact (below_size (by repeat (first | (with_reducible first | exact HB.out | apply bwA | apply bwN | apply bwD) | exact HB.out))) : w.heap.size ≤ gb306)); have n3_ := Aside0.mk ((by rw [hg]; exact (below_size (by repeat (first | (with_reducible first | exact HB.out | apply bwA | apply bwN | apply bwD) | exact HB.out))) : w.heap.size ≤ gb306)); clear HB; have HB := n0_; have BK306 := n1_; have GW306 := n2_; have GE306 := n3_; clear n0_ n1_ n2_ n3_; clear hb hbox hg; have hcz16_0 : w15.cell? ⟨gb306, 0, none⟩ = some (.slice A0_0 l0_0.length c0_0) := (blk_cell BK306.out 0).trans rfl; have hcz16_1 : w15.cell? ⟨gb306, 1, none⟩ = some (.slice A0_1 l0_1.length c0_1) := (blk_cell BK306.out 1).trans rfl; have hfz16_0 := blk_frozen BK306.out 0; have hfz16_1 := blk_frozen BK306.out 1) | ((with_reducible refine gate_callee (f := 33) rfl ?_); refine goesL_ (some 9) rfl rfl Try.func33 (by kernel_rfl) rfl #[.agg #[.slice A0_0 l0_0.length c0_0, .slice A0_1 l0_1.length c0_1], .int .i64 1048576] rfl lmB ?_; (with_reducible refine (laws_szSystem.calls k _ _ l0_0 _ _ l0_1 1048576 t307 _ ?side1 ?side2 ?side3 ?side4 A2.out).mono ?_); (case side1 => repeat (first | exact (Kd.C_below HR0_0.out HB.out) | (with_reducible refine Kd.C_alloc ?_ _) | (with_reducible refine Kd.C_drewN ?_ _) | (with_reducible refine Kd.C_drew ?_))); (case side2 => exact HC0_0.out); (case side3 => repeat (first | exact (Kd.C_below HR0_1.out HB.out) | (with_reducible refine Kd.C_alloc ?_ _) | (with_reducible refine Kd.C_drewN ?_ _) | (with_reducible refine Kd.C_drew ?_))); (case side4 => exact HC0_1.out); rintro e w17 ⟨rfl, hb⟩; refine ⟨_, rfl, ?_⟩; have n0_ := Aside0.mk (blk_below (g := gb306) (o := .cells #[.slice A0_0 l0_0.length c0_0, .slice A0_1 l0_1.length c0_1] 52 (0, 0)) (bvK BK306.out) hb); have n1_ := Aside0.mk (below_step (by repeat (first | (with_reducible first | exact HB.out | apply bwA | apply bwN | apply bwD | refine below_set ?_ GE306.out) | exact HB.out)) hb); clear BK306; clear HB; have BK306 := n0_; have HB := n1_; clear n0_ n1_; (try clear hb); (try clear hb2); (try clear hk); (try clear hi); have hcz18_0 : w17.cell? ⟨gb306, 0, none⟩ = some (.slice A0_0 l0_0.length c0_0) := (blk_cell BK306.out 0).trans rfl; have hcz18_1 : w17.cell? ⟨gb306, 1, none⟩ = some (.slice A0_1 l0_1.length c0_1) := (blk_cell BK306.out 1).trans rfl; have hfz18_0 := blk_frozen BK306.out 0; have hfz18_1 := blk_frozen BK306.out 1) | ((with_reducible refine gate_callee (f := 35) rfl ?_); refine goesL_ (some 13) rfl rfl Try.func35 (by kernel_rfl) rfl #[.agg #[.slice A0_0 l0_0.length c0_0, .slice A0_1 l0_1.length c0_1]] rfl lmB ?_; (with_reducible refine (laws_toSystem.calls k _ _ l0_0 _ _ l0_1 t308 t311 _ ?side1 ?side2 ?side3 ?side4 A7.out).mono ?_); (case side1 => repeat (first | exact (Kd.C_below HR0_0.out HB.out) | (with_reducible refine Kd.C_alloc ?_ _) | (with_reducible refine Kd.C_drewN ?_ _) | (with_reducible refine Kd.C_drew ?_))); (case side2 => exact HC0_0.out); (case side3 => repeat (first | exact (Kd.C_below HR0_1.out HB.out) | (with_reducible refine Kd.C_alloc ?_ _) | (with_reducible refine Kd.C_drewN ?_ _) | (with_reducible refine Kd.C_drew ?_))); (case side4 => exact HC0_1.out); rintro e w19 ⟨v309, v312, rfl, ho0, ho1, hb⟩; refine ⟨_, rfl, ?_⟩; have n0_ := Aside0.mk (Kd.R_lower ho0 (below_size (by repeat (first | (with_reducible first | exact HB.out | apply bwA | apply bwN | apply bwD | refine below_set ?_ GE306.out) | exact HB.out)))); have n1_ := Aside0.mk (Kd.R_lower ho1 (below_size (by repeat (first | (with_reducible first | exact HB.out | apply bwA | apply bwN | apply bwD | refine below_set ?_ GE306.out) | exact HB.out)))); have n2_ := Aside0.mk (blk_below (g := gb306) (o := .cells #[.slice A0_0 l0_0.length c0_0, .slice A0_1 l0_1.length c0_1] 52 (0, 0)) (bvK BK306.out) hb); have n3_ := Aside0.mk (below_step (by repeat (first | (with_reducible first | exact HB.out | apply bwA | apply bwN | apply bwD | refine below_set ?_ GE306.out) | exact HB.out)) hb); clear BK306; clear HB; have HO310 := n0_; have HO313 := n1_; have BK306 := n2_; have HB := n3_; clear n0_ n1_ n2_ n3_; (try clear hb); (try clear hb2); (try clear hk); (try clear hi); (try clear ho0); (try clear ho1); obtain ⟨Ao20, co20, eo20⟩ := Kd.R_slice HO310.out; subst eo20; obtain ⟨Ao21, co21, eo21⟩ := Kd.R_slice HO313.out; subst eo21) | ((with_reducible refine gate_callee (f := 34) rfl ?_); refine goesL_ (some 14) rfl rfl Try.func34 (by kernel_rfl) rfl #[.agg #[.slice Ao20 t308.length co20, .slice Ao21 t311.length co21]] rfl lmB ?_; (with_reducible refine (spec_SizeOf.calls k _ _ t308 _ _ t311 t314 _ ?side1 ?side2 ?side3 ?side4 A8.out).mono ?_); (case side1 => repeat (first | exact (Kd.R_reads' HO310.out).2.2 | (with_reducible refine Kd.C_alloc ?_ _) | (with_reducible refine Kd.C_drewN ?_ _) | (with_reducible refine Kd.C_drew ?_))); (case side2 => exact (Kd.R_reads' HO310.out).2.1); (case side3 => repeat (first | exact (Kd.R_reads' HO313.out).2.2 | (with_reducible refine Kd.C_alloc ?_ _) | (with_reducible refine Kd.C_drewN ?_ _) | (with_reducible refine Kd.C_drew ?_))); (case side4 => exact (Kd.R_reads' HO313.out).2.1); rintro e w22 ⟨rfl, hb⟩; refine ⟨_, rfl, ?_⟩; have n0_ := Aside0.mk (Kd.R_below (rvR HO310.out) hb); have n1_ := Aside0.mk (Kd.R_below (rvR HO313.out) hb); have n2_ := Aside0.mk (blk_below (g := gb306) (o := .cells #[.slice A0_0 l0_0.length c0_0, .slice A0_1 l0_1.length c0_1] 52 (0, 0)) (bvK BK306.out) hb); have n3_ := Aside0.mk (below_step (by repeat (first | (with_reducible first | exact HB.out | apply bwA | apply bwN | apply bwD | refine below_set ?_ GE306.out) | exact HB.out)) hb); clear HO310; clear HO313; clear BK306; clear HB; have HO310 := n0_; have HO313 := n1_; have BK306 := n2_; have HB := n3_; clear n0_ n1_ n2_ n3_; (try clear hb); (try clear hb2); (try clear hk); (try clear hi); have hcz23_0 : w22.cell? ⟨gb306, 0, none⟩ = some (.slice A0_0 l0_0.length c0_0) := (blk_cell BK306.out 0).trans rfl; have hcz23_1 : w22.cell? ⟨gb306, 1, none⟩ = some (.slice A0_1 l0_1.length c0_1) := (blk_cell BK306.out 1).trans rfl; have hfz23_0 := blk_frozen BK306.out 0; have hfz23_1 := blk_frozen BK306.out 1) | ((with_reducible refine gate_callee (f := 35) rfl ?_); refine goesL_ (some 16) rfl rfl Try.func35 (by kernel_rfl) rfl #[.agg #[.slice A0_0 l0_0.length c0_0, .slice A0_1 l0_1.length c0_1]] rfl lmB ?_; (with_reducible refine (laws_toSystem.calls k _ _ l0_0 _ _ l0_1 t315 t318 _ ?side1 ?side2 ?side3 ?side4 A9.out).mono ?_); (case side1 => repeat (first | exact (Kd.C_below HR0_0.out HB.out) | (with_reducible refine Kd.C_alloc ?_ _) | (with_reducible refine Kd.C_drewN ?_ _) | (with_reducible refine Kd.C_drew ?_))); (case side2 => exact HC0_0.out); (case side3 => repeat (first | exact (Kd.C_below HR0_1.out HB.out) | (with_reducible refine Kd.C_alloc ?_ _) | (with_reducible refine Kd.C_drewN ?_ _) | (with_reducible refine Kd.C_drew ?_))); (case side4 => exact HC0_1.out); rintro e w24 ⟨v316, v319, rfl, ho0, ho1, hb⟩; refine ⟨_, rfl, ?_⟩; have n0_ := Aside0.mk (Kd.R_elder' (rvR HO310.out) (Kd.R_base ho0) hb); have n1_ := Aside0.mk (Kd.R_elder' (rvR HO313.out) (Kd.R_base ho1) hb); have n2_ := Aside0.mk (Kd.R_lower (Kd.R_new' ho0 (Kd.R_lt (rvR HO310.out))) (below_size (by repeat (first | (with_reducible first | exact HB.out | apply bwA | apply bwN | apply bwD | refine below_set ?_ GE306.out) | exact HB.out)))); have n3_ := Aside0.mk (Kd.R_lower (Kd.R_new' ho1 (Kd.R_lt (rvR HO313.out))) (below_size (by repeat (first | (with_reducible first | exact HB.out | apply bwA | apply bwN | apply bwD | refine below_set ?_ GE306.out) | exact HB.out)))); have n4_ := Aside0.mk (blk_below (g := gb306) (o := .cells #[.slice A0_0 l0_0.length c0_0, .slice A0_1 l0_1.length c0_1] 52 (0, 0)) (bvK BK306.out) hb); have n5_ := Aside0.mk (below_step (by repeat (first | (with_reducible first | exact HB.out | apply bwA | apply bwN | apply bwD | refine below_set ?_ GE306.out) | exact HB.out)) hb); clear HO310; clear HO313; clear BK306; clear HB; have HO310 := n0_; have HO313 := n1_; have HO317 := n2_; have HO320 := n3_; have BK306 := n4_; have HB := n5_; clear n0_ n1_ n2_ n3_ n4_ n5_; (try clear hb); (try clear hb2); (try clear hk); (try clear hi); (try clear ho0); (try clear ho1)) | ((with_reducible refine gate_dst (N := 5) rfl ?_); refine box_event ?hg (N := 5) ?hd (cs := #[.slice none 0 0, .slice none 0 0]) (t := 58) ?hr ?_; (case hd => rfl); (case hg => rfl); (case hr => first | (go_simp; done) | (go_simp; rfl)); intro gb321 hg w25 hbox hb; have n0_ := Aside0.mk (Kd.R_below (rvR HO310.out) hb); have n1_ := Aside0.mk (Kd.R_below (rvR HO313.out) hb); have n2_ := Aside0.mk (Kd.R_below (rvR HO317.out) hb); have n3_ := Aside0.mk (Kd.R_below (rvR HO320.out) hb); have n4_ := Aside0.mk (blk_below (g := gb306) (o := .cells #[.slice A0_0 l0_0.length c0_0, .slice A0_1 l0_1.length c0_1] 52 (0, 0)) (bvK BK306.out) hb); have n5_ := Aside0.mk (below_step (by repeat (first | (with_reducible first | exact HB.out | apply bwA | apply bwN | apply bwD | refine below_set ?_ GE306.out) | exact HB.out)) hb); have n6_ := Aside0.mk (hbox); have n7_ := Aside0.mk ((by rw [hg]; exact (below_size (by repeat (first | (with_reducible first | exact HB.out | apply bwA | apply bwN | apply bwD | refine below_set ?_ GE306.out) | exact HB.out))) : w.heap.size ≤ gb321)); have n8_ := Aside0.mk ((by rw [hg]; exact (below_size (by repeat (first | (with_reducible first | exact HB.out | apply bwA | apply bwN | apply bwD | refine below_set ?_ GE306.out) | exact HB.out))) : w.heap.size ≤ gb321)); have n9_ := Aside0.mk ((by rw [hg]; exact Nat.ne_of_lt (blk_lt (g := gb306) (o := .cells #[.slice A0_0 l0_0.length c0_0, .slice A0_1 l0_1.length c0_1] 52 (0, 0)) (bvK BK306.out)) : gb306 ≠ gb321)); have n10_ := Aside0.mk ((by rw [hg]; exact Nat.ne_of_gt (blk_lt (g := gb306) (o := .cells #[.slice A0_0 l0_0.length c0_0, .slice A0_1 l0_1.length c0_1] 52 (0, 0)) (bvK BK306.out)) : gb321 ≠ gb306)); clear HO310; clear HO313; clear HO317; clear HO320; clear BK306; clear HB; have HO310 := n0_; have HO313 := n1_; have HO317 := n2_; have HO320 := n3_; have BK306 := n4_; have HB := n5_; have BK321 := n6_; have GW321 := n7_; have GE321 := n8_; have NB306_321 := n9_; have NB321_306 := n10_; clear n0_ n1_ n2_ n3_ n4_ n5_ n6_ n7_ n8_ n9_ n10_; clear hb hbox hg; obtain ⟨Ao26, co26, eo26⟩ := Kd.R_slice HO317.out; subst eo26; have hnb27 := NB321_306.out; have hnc27 := NB306_321.out; have hcz28_0 : w25.cell? ⟨gb321, 0, none⟩ = some (.slice none 0 0) := (blk_cell BK321.out 0).trans rfl; have hcz28_1 : w25.cell? ⟨gb321, 1, none⟩ = some (.slice none 0 0) := (blk_cell BK321.out 1).trans rfl; have hfz28_0 := blk_frozen BK321.out 0; have hfz28_1 := blk_frozen BK321.out 1; obtain ⟨Ao29, co29, eo29⟩ := Kd.R_slice HO320.out; subst eo29) | ((with_reducible refine gate_callee (f := 36) rfl ?_); refine goesL_ (some 18) rfl rfl Try.func36 (by kernel_rfl) rfl #[.agg #[.slice Ao26 t315.length co26, .slice Ao29 t318.length co29]] rfl lmB ?_; (with_reducible refine (impl_SizeOf.calls k _ _ t315 _ _ t318 t322 _ ?side1 ?side2 ?side3 ?side4 A10.out).mono ?_); (case side1 => refine (Kd.R_reads' (e := 99) (base := w.heap.size) (ok := fun k_ => (True ∧ some k_ ≠ (.slice Ao20 t308.length co20 : Value).ownBlock)) (n := t315.length) (c := co26) ?_).2.2; exact (by (with_reducible repeat (first | apply Kd.R_alloc | apply Kd.R_drewN | apply Kd.R_drew)); exact (Kd.R_mono (Kd.R_far (p := ⟨gb321, 1, none⟩) (Kd.R_far (p := ⟨gb321, 0, none⟩) (Kd.R_types HO317.out BK321.out (by decide)) (fun _ hk => hk.2) (.slice Ao26 t315.length co26)) (fun _ hk => hk.2) (.slice Ao29 t318.length co29)) (fun _ h_ => h_.1)))); (case side2 => exact (Kd.R_reads' HO317.out).2.1); (case side3 => refine (Kd.R_reads' (e := 109) (base := w.heap.size) (ok := fun k_ => (True ∧ some k_ ≠ (.slice Ao21 t311.length co21 : Value).ownBlock)) (n := t318.length) (c := co29) ?_).2.2; exact (by (with_reducible repeat (first | apply Kd.R_alloc | apply Kd.R_drewN | apply Kd.R_drew)); exact (Kd.R_mono (Kd.R_far (p := ⟨gb321, 1, none⟩) (Kd.R_far (p := ⟨gb321, 0, none⟩) (Kd.R_types HO320.out BK321.out (by decide)) (fun _ hk => hk.2) (.slice Ao26 t315.length co26)) (fun _ hk => hk.2) (.slice Ao29 t318.length co29)) (fun _ h_ => h_.1)))); (case side4 => exact (Kd.R_reads' HO320.out).2.1); rintro e w30 ⟨rfl, hb⟩; refine ⟨_, rfl, ?_⟩; have n0_ := Aside0.mk (Kd.R_below (by (with_reducible repeat (first | apply Kd.R_alloc | apply Kd.R_drewN | apply Kd.R_drew)); exact (Kd.R_mono (Kd.R_far (p := ⟨gb321, 1, none⟩) (Kd.R_far (p := ⟨gb321, 0, none⟩) (Kd.R_types HO310.out BK321.out (by decide)) (fun _ hk => hk.2) (.slice Ao26 t315.length co26)) (fun _ hk => hk.2) (.slice Ao29 t318.length co29)) (fun _ h_ => h_.1))) hb); have n1_ := Aside0.mk (Kd.R_below (by (with_reducible repeat (first | apply Kd.R_alloc | apply Kd.R_drewN | apply Kd.R_drew)); exact (Kd.R_mono (Kd.R_far (p := ⟨gb321, 1, none⟩) (Kd.R_far (p := ⟨gb321, 0, none⟩) (Kd.R_types HO313.out BK321.out (by decide)) (fun _ hk => hk.2) (.slice Ao26 t315.length co26)) (fun _ hk => hk.2) (.slice Ao29 t318.length co29)) (fun _ h_ => h_.1))) hb); have n2_ := Aside0.mk (Kd.R_below (by (with_reducible repeat (first | apply Kd.R_alloc | apply Kd.R_drewN | apply Kd.R_drew)); exact (Kd.R_mono (Kd.R_far (p := ⟨gb321, 1, none⟩) (Kd.R_far (p := ⟨gb321, 0, none⟩) (Kd.R_types HO317.out BK321.out (by decide)) (fun _ hk => hk.2) (.slice Ao26 t315.length co26)) (fun _ hk => hk.2) (.slice Ao29 t318.length co29)) (fun _ h_ => h_.1))) hb); have n3_ := Aside0.mk (Kd.R_below (by (with_reducible repeat (first | apply Kd.R_alloc | apply Kd.R_drewN | apply Kd.R_drew)); exact (Kd.R_mono (Kd.R_far (p := ⟨gb321, 1, none⟩) (Kd.R_far (p := ⟨gb321, 0, none⟩) (Kd.R_types HO320.out BK321.out (by decide)) (fun _ hk => hk.2) (.slice Ao26 t315.length co26)) (fun _ hk => hk.2) (.slice Ao29 t318.length co29)) (fun _ h_ => h_.1))) hb); have n4_ := Aside0.mk (blk_below (g := gb306) (o := .cells #[.slice A0_0 l0_0.length c0_0, .slice A0_1 l0_1.length c0_1] 52 (0, 0)) (by (with_reducible repeat (first | refine blk_drewN ?_ _ | refine blk_drew ?_ | refine blk_alloc ?_ _)); refine blk_far ?_ NB306_321.out _; (with_reducible repeat (first | refine blk_drewN ?_ _ | refine blk_drew ?_ | refine blk_alloc ?_ _)); refine blk_far ?_ NB306_321.out _; (with_reducible repeat (first | refine blk_drewN ?_ _ | refine blk_drew ?_ | refine blk_alloc ?_ _)); exact BK306.out) hb); have n5_ := Aside0.mk (blk_below (g := gb321) (o := .cells #[.slice Ao26 t315.length co26, .slice Ao29 t318.length co29] 58 (0, 0)) (by (with_reducible repeat (first | refine blk_drewN ?_ _ | refine blk_drew ?_ | refine blk_alloc ?_ _)); refine blk_put (cs := #[.slice Ao26 t315.length co26, .slice none 0 0]) ?_ 1 _ rfl; (with_reducible repeat (first | refine blk_drewN ?_ _ | refine blk_drew ?_ | refine blk_alloc ?_ _)); refine blk_put (cs := #[.slice none 0 0, .slice none 0 0]) ?_ 0 _ rfl; (with_reducible repeat (first | refine blk_drewN ?_ _ | refine blk_drew ?_ | refine blk_alloc ?_ _)); exact BK321.out) hb); have n6_ := Aside0.mk (below_step (by repeat (first | (with_reducible first | exact HB.out | apply bwA | apply bwN | apply bwD | refine below_set ?_ GE306.out | refine below_set ?_ GE321.out) | exact HB.out)) hb); clear HO310; clear HO313; clear HO317; clear HO320; clear BK306; clear BK321; clear HB; have HO310 := n0_; have HO313 := n1_; have HO317 := n2_; have HO320 := n3_; have BK306 := n4_; have BK321 := n5_; have HB := n6_; clear n0_ n1_ n2_ n3_ n4_ n5_ n6_; (try clear hb); (try clear hb2); (try clear hk); (try clear hi)))
    have n0_ := Aside0.mk (Kd.R_drew HO310.out)
    have n1_ := Aside0.mk (Kd.R_drew HO313.out)
    have n2_ := Aside0.mk (Kd.R_drew HO317.out)
    have n3_ := Aside0.mk (Kd.R_drew HO320.out)
    have n4_ := Aside0.mk (blk_drew BK306.out)
    have n5_ := Aside0.mk (blk_drew BK321.out)
    have n6_ := Aside0.mk (below_drew1 HB.out)
    clear HO310
    clear HO313
    clear HO317
    clear HO320
    clear BK306
    clear BK321
    clear HB
    have HO310 := n0_
    have HO313 := n1_
    have HO317 := n2_
    have HO320 := n3_
    have BK306 := n4_
    have BK321 := n5_
    have HB := n6_
    clear n0_ n1_ n2_ n3_ n4_ n5_ n6_
    refine start_ (n := 5) (S := fun w' => w'.cell? ⟨gb321, 0, none⟩ = some (.slice Ao26 t315.length co26) ∧ w'.cell? ⟨gb321, 1, none⟩ = some (.slice Ao29 t318.length co29) ∧ w'.cell? ⟨gb306, 0, none⟩ = some (.slice A0_0 l0_0.length c0_0) ∧ w'.cell? ⟨gb306, 1, none⟩ = some (.slice A0_1 l0_1.length c0_1)) (ds := []) #[false, false, false, false, false] (by kernel_rfl) rfl rfl ⟨(blk_cell BK321.out 0).trans rfl, (blk_cell BK321.out 1).trans rfl, (blk_cell BK306.out 0).trans rfl, (blk_cell BK306.out 1).trans rfl⟩ (fun hHeld => ?_)
    generalize w30.drew = w31 at HO310 HO313 HO317 HO320 BK306 BK321 HB hHeld ⊢
    refine take_ (i := 0) (N := some 22) (v := ?_) (a' := ?_) #[true, false, false, false, false] rfl rfl (by kernel_rfl) (fun _ _ _ h => h) (Or.inl ⟨by rfl, ?_⟩) hHeld ?_ ?_
    rotate_left
    ·rintro w' ⟨s0, s1, s2, s3⟩
     go_simp
     with_reducible rfl
    rotate_left
    ·simp only [Act.put, List.setIfInBounds_toArray, List.set_cons_zero, List.set_cons_succ, i64_w, i32_w]
     rfl
    refine take_ (i := 1) (N := some 23) (v := ?_) (a' := ?_) #[true, true, false, false, false] rfl rfl (by kernel_rfl) (fun _ _ _ h => h) (Or.inl ⟨by rfl, ?_⟩) hHeld ?_ ?_
    rotate_left
    ·rintro w' ⟨s0, s1, s2, s3⟩
     go_simp
     with_reducible rfl
    rotate_left
    ·simp only [Act.put, List.setIfInBounds_toArray, List.set_cons_zero, List.set_cons_succ, i64_w, i32_w]
     rfl
    refine one_ (i := 2) (N := some 24) #[true, true, true, false, false] rfl rfl (by kernel_rfl) (by decide) (fun K hK => ?_)
    refine goes_ Try.func35 (by kernel_rfl) rfl #[.agg #[.slice A0_0 l0_0.length c0_0, .slice A0_1 l0_1.length c0_1]] (by rfl) rfl rfl lmB ?_
    with_reducible refine (laws_toSystem.calls k _ _ l0_0 _ _ l0_1 t323 t326 _ ?side1 ?side2 ?side3 ?side4 A12.out).mono ?_
    (case side1 => repeat (first | exact (Kd.C_below HR0_0.out HB.out) | (with_reducible refine Kd.C_alloc ?_ _) | (with_reducible refine Kd.C_drewN ?_ _) | (with_reducible refine Kd.C_drew ?_)))
    (case side2 => exact HC0_0.out)
    (case side3 => repeat (first | exact (Kd.C_below HR0_1.out HB.out) | (with_reducible refine Kd.C_alloc ?_ _) | (with_reducible refine Kd.C_drewN ?_ _) | (with_reducible refine Kd.C_drew ?_)))
    (case side4 => exact HC0_1.out)
    rintro e w32 ⟨v324, v327, rfl, ho0, ho1, hb⟩
    refine ⟨_, rfl, ?_⟩
    have n0_ := Aside0.mk (Kd.R_elder' (rvR HO310.out) (Kd.R_base ho0) hb)
    have n1_ := Aside0.mk (Kd.R_elder' (rvR HO313.out) (Kd.R_base ho1) hb)
    have n2_ := Aside0.mk (Kd.R_elder' (rvR HO317.out) (Kd.R_base ho0) hb)
    have n3_ := Aside0.mk (Kd.R_elder' (rvR HO320.out) (Kd.R_base ho1) hb)
    have n4_ := Aside0.mk (Kd.R_lower (Kd.R_new' (Kd.R_new' ho0 (Kd.R_lt (rvR HO310.out))) (Kd.R_lt (rvR HO317.out))) (below_size (by repeat (first | (with_reducible first | exact HB.out | apply bwA | apply bwN | apply bwD | refine below_set ?_ GE306.out | refine below_set ?_ GE321.out) | exact HB.out))))
    have n5_ := Aside0.mk (Kd.R_lower (Kd.R_new' (Kd.R_new' ho1 (Kd.R_lt (rvR HO313.out))) (Kd.R_lt (rvR HO320.out))) (below_size (by repeat (first | (with_reducible first | exact HB.out | apply bwA | apply bwN | apply bwD | refine below_set ?_ GE306.out | refine below_set ?_ GE321.out) | exact HB.out))))
    have n6_ := Aside0.mk (blk_below (g := gb306) (o := .cells #[.slice A0_0 l0_0.length c0_0, .slice A0_1 l0_1.length c0_1] 52 (0, 0)) (bvK BK306.out) hb)
    have n7_ := Aside0.mk (blk_below (g := gb321) (o := .cells #[.slice Ao26 t315.length co26, .slice Ao29 t318.length co29] 58 (0, 0)) (bvK BK321.out) hb)
    have n8_ := Aside0.mk (below_step (by repeat (first | (with_reducible first | exact HB.out | apply bwA | apply bwN | apply bwD | refine below_set ?_ GE306.out | refine below_set ?_ GE321.out) | exact HB.out)) hb)
    clear HO310
    clear HO313
    clear HO317
    clear HO320
    clear BK306
    clear BK321
    clear HB
    have HO310 := n0_
    have HO313 := n1_
    have HO317 := n2_
    have HO320 := n3_
    have HO325 := n4_
    have HO328 := n5_
    have BK306 := n6_
    have BK321 := n7_
    have HB := n8_
    clear n0_ n1_ n2_ n3_ n4_ n5_ n6_ n7_ n8_
    (try clear hb)
    (try clear hb2)
    (try clear hk)
    (try clear hi)
    (try clear ho0)
    (try clear ho1)
    obtain ⟨Ao33, co33, eo33⟩ := Kd.R_slice HO325.out
    (first | subst eo33 | (injection eo33 with f1_ f2_ f3_; have f4_ := f1_.symm; have f5_ := f3_.symm; clear f1_ f2_ f3_; subst f4_; subst f5_))
    obtain ⟨Ao34, co34, eo34⟩ := Kd.R_slice HO328.out
    (first | subst eo34 | (injection eo34 with f1_ f2_ f3_; have f4_ := f1_.symm; have f5_ := f3_.symm; clear f1_ f2_ f3_; subst f4_; subst f5_))
    refine hK.out _ _ ⟨(blk_cell BK321.out 0).trans rfl, (blk_cell BK321.out 1).trans rfl, (blk_cell BK306.out 0).trans rfl, (blk_cell BK306.out 1).trans rfl⟩ (fun hHeld => ?_)
    clear hK K
    refine norm_ (a' := ?_) ?_ ?_
    rotate_left
    ·show Act.put _ (some 24) _ = _
     simp only [Act.put, List.setIfInBounds_toArray, List.set_cons_zero, List.set_cons_succ, i64_w, i32_w]
     rfl
    refine one_ (i := 3) (N := some 25) #[true, true, true, true, false] rfl rfl (by kernel_rfl) (by decide) (fun K hK => ?_)
    refine goes_ Try.func37 (by kernel_rfl) rfl #[.agg #[.slice Ao26 t315.length co26, .slice Ao29 t318.length co29], .agg #[.slice Ao33 t323.length co33, .slice Ao34 t326.length co34]] (by rfl) rfl rfl lmB ?_
    with_reducible refine (laws_eqSystem.calls k _ _ t315 _ _ t318 _ _ t323 _ _ t326 true _ ?side1 ?side2 ?side3 ?side4 ?side5 ?side6 ?side7 ?side8 A13.out).mono ?_
    (case side1 => repeat (first | exact (Kd.R_reads' HO317.out).2.2 | (with_reducible refine Kd.C_alloc ?_ _) | (with_reducible refine Kd.C_drewN ?_ _) | (with_reducible refine Kd.C_drew ?_)))
    (case side2 => exact (Kd.R_reads' HO317.out).2.1)
    (case side3 => repeat (first | exact (Kd.R_reads' HO320.out).2.2 | (with_reducible refine Kd.C_alloc ?_ _) | (with_reducible refine Kd.C_drewN ?_ _) | (with_reducible refine Kd.C_drew ?_)))
    (case side4 => exact (Kd.R_reads' HO320.out).2.1)
    (case side5 => repeat (first | exact (Kd.R_reads' HO325.out).2.2 | (with_reducible refine Kd.C_alloc ?_ _) | (with_reducible refine Kd.C_drewN ?_ _) | (with_reducible refine Kd.C_drew ?_)))
    (case side6 => exact (Kd.R_reads' HO325.out).2.1)
    (case side7 => repeat (first | exact (Kd.R_reads' HO328.out).2.2 | (with_reducible refine Kd.C_alloc ?_ _) | (with_reducible refine Kd.C_drewN ?_ _) | (with_reducible refine Kd.C_drew ?_)))
    (case side8 => exact (Kd.R_reads' HO328.out).2.1)
    rintro e w35 ⟨rfl, hb⟩
    refine ⟨_, rfl, ?_⟩
    have n0_ := Aside0.mk (Kd.R_below (rvR HO310.out) hb)
    have n1_ := Aside0.mk (Kd.R_below (rvR HO313.out) hb)
    have n2_ := Aside0.mk (Kd.R_below (rvR HO317.out) hb)
    have n3_ := Aside0.mk (Kd.R_below (rvR HO320.out) hb)
    have n4_ := Aside0.mk (Kd.R_below (rvR HO325.out) hb)
    have n5_ := Aside0.mk (Kd.R_below (rvR HO328.out) hb)
    have n6_ := Aside0.mk (blk_below (g := gb306) (o := .cells #[.slice A0_0 l0_0.length c0_0, .slice A0_1 l0_1.length c0_1] 52 (0, 0)) (bvK BK306.out) hb)
    have n7_ := Aside0.mk (blk_below (g := gb321) (o := .cells #[.slice Ao26 t315.length co26, .slice Ao29 t318.length co29] 58 (0, 0)) (bvK BK321.out) hb)
    have n8_ := Aside0.mk (below_step (by repeat (first | (with_reducible first | exact HB.out | apply bwA | apply bwN | apply bwD | refine below_set ?_ GE306.out | refine below_set ?_ GE321.out) | exact HB.out)) hb)
    clear HO310
    clear HO313
    clear HO317
    clear HO320
    clear HO325
    clear HO328
    clear BK306
    clear BK321
    clear HB
    have HO310 := n0_
    have HO313 := n1_
    have HO317 := n2_
    have HO320 := n3_
    have HO325 := n4_
    have HO328 := n5_
    have BK306 := n6_
    have BK321 := n7_
    have HB := n8_
    clear n0_ n1_ n2_ n3_ n4_ n5_ n6_ n7_ n8_
    (try clear hb)
    (try clear hb2)
    (try clear hk)
    (try clear hi)
    refine hK.out _ _ ⟨(blk_cell BK321.out 0).trans rfl, (blk_cell BK321.out 1).trans rfl, (blk_cell BK306.out 0).trans rfl, (blk_cell BK306.out 1).trans rfl⟩ (fun hHeld => ?_)
    clear hK K
    refine norm_ (a' := ?_) ?_ ?_
    rotate_left
    ·show Act.put _ (some 25) _ = _
     simp only [Act.put, List.setIfInBounds_toArray, List.set_cons_zero, List.set_cons_succ, i64_w, i32_w]
     rfl
    refine pure_ (i := 4) (N := some 26) (v := ?_) (a' := ?_) #[true, true, true, true, true] rfl rfl (by kernel_rfl) (fun _ _ _ h => h) (Or.inl ⟨by rfl, ?_⟩) ?_ ?_
    rotate_left
    ·intro w'
     go_simp
     with_reducible rfl
    rotate_left
    ·simp only [Act.put, List.setIfInBounds_toArray, List.set_cons_zero, List.set_cons_succ, i64_w, i32_w]
     rfl
    refine done_ (by kernel_rfl) ?_
    try go_wp2
    go_ret
    exact ⟨ers, by repeat (first | (with_reducible first | exact HB.out | apply bwA | apply bwN | apply bwD | refine below_set ?_ GE306.out | refine below_set ?_ GE321.out) | exact HB.out)⟩
   ·replace c14 := Bool.eq_false_iff.mpr c14
    subst c14
    have H1 : (some false) = some r := by rw [if_neg (show ¬ (false = true) by decide)] at H; exact H
    clear H
    have H := H1
    clear H1
    obtain rfl := Option.some.inj H
    go_enter Try.func8, Try.ntmps8
    try go_wp2_with (first | ((with_reducible refine gate_dst (N := 1) rfl ?_); refine box_event ?hg (N := 1) ?hd (cs := #[.slice A0_0 l0_0.length c0_0, .slice A0_1 l0_1.length c0_1]) (t := 52) ?hr ?_; (case hd => rfl); (case hg => rfl); (case hr => first | (go_simp; done) | (go_simp; rfl)); intro gb306 hg w36 hbox hb; have n0_ := Aside0.mk (below_step (by repeat (first | (with_reducible first | exact HB.out | apply bwA | apply bwN | apply bwD) | exact HB.out)) hb); have n1_ := Aside0.mk (hbox); have n2_ := Aside0.mk ((by rw [hg]; exact (below_size (by repeat (first | (with_reducible first | exact HB.out | apply bwA | apply bwN | apply bwD) | exact HB.out))) : w.heap.size ≤ gb306)); have n3_ := Aside0.mk ((by rw [hg]; exact (below_size (by repeat (first | (with_reducible first | exact HB.out | apply bwA | apply bwN | apply bwD) | exact HB.out))) : w.heap.size ≤ gb306)); clear HB; have HB := n0_; have BK306 := n1_; have GW306 := n2_; have GE306 := n3_; clear n0_ n1_ n2_ n3_; clear hb hbox hg; have hcz37_0 : w36.cell? ⟨gb306, 0, none⟩ = some (.slice A0_0 l0_0.length c0_0) := (blk_cell BK306.out 0).trans rfl; have hcz37_1 : w36.cell? ⟨gb306, 1, none⟩ = some (.slice A0_1 l0_1.length c0_1) := (blk_cell BK306.out 1).trans rfl; have hfz37_0 := blk_frozen BK306.out 0; have hfz37_1 := blk_frozen BK306.out 1) | ((with_reducible refine gate_callee (f := 33) rfl ?_); refine goesL_ (some 9) rfl rfl Try.func33 (by kernel_rfl) rfl #[.agg #[.slice A0_0 l0_0.length c0_0, .slice A0_1 l0_1.length c0_1], .int .i64 1048576] rfl lmB ?_; (with_reducible refine (laws_szSystem.calls k _ _ l0_0 _ _ l0_1 1048576 t307 _ ?side1 ?side2 ?side3 ?side4 A2.out).mono ?_); (case side1 => repeat (first | exact (Kd.C_below HR0_0.out HB.out) | (with_reducible refine Kd.C_alloc ?_ _) | (with_reducible refine Kd.C_drewN ?_ _) | (with_reducible refine Kd.C_drew ?_))); (case side2 => exact HC0_0.out); (case side3 => repeat (first | exact (Kd.C_below HR0_1.out HB.out) | (with_reducible refine Kd.C_alloc ?_ _) | (with_reducible refine Kd.C_drewN ?_ _) | (with_reducible refine Kd.C_drew ?_))); (case side4 => exact HC0_1.out); rintro e w38 ⟨rfl, hb⟩; refine ⟨_, rfl, ?_⟩; have n0_ := Aside0.mk (blk_below (g := gb306) (o := .cells #[.slice A0_0 l0_0.length c0_0, .slice A0_1 l0_1.length c0_1] 52 (0, 0)) (bvK BK306.out) hb); have n1_ := Aside0.mk (below_step (by repeat (first | (with_reducible first | exact HB.out | apply bwA | apply bwN | apply bwD | refine below_set ?_ GE306.out) | exact HB.out)) hb); clear BK306; clear HB; have BK306 := n0_; have HB := n1_; clear n0_ n1_; (try clear hb); (try clear hb2); (try clear hk); (try clear hi); have hcz39_0 : w38.cell? ⟨gb306, 0, none⟩ = some (.slice A0_0 l0_0.length c0_0) := (blk_cell BK306.out 0).trans rfl; have hcz39_1 : w38.cell? ⟨gb306, 1, none⟩ = some (.slice A0_1 l0_1.length c0_1) := (blk_cell BK306.out 1).trans rfl; have hfz39_0 := blk_frozen BK306.out 0; have hfz39_1 := blk_frozen BK306.out 1) | ((with_reducible refine gate_callee (f := 35) rfl ?_); refine goesL_ (some 13) rfl rfl Try.func35 (by kernel_rfl) rfl #[.agg #[.slice A0_0 l0_0.length c0_0, .slice A0_1 l0_1.length c0_1]] rfl lmB ?_; (with_reducible refine (laws_toSystem.calls k _ _ l0_0 _ _ l0_1 t308 t311 _ ?side1 ?side2 ?side3 ?side4 A7.out).mono ?_); (case side1 => repeat (first | exact (Kd.C_below HR0_0.out HB.out) | (with_reducible refine Kd.C_alloc ?_ _) | (with_reducible refine Kd.C_drewN ?_ _) | (with_reducible refine Kd.C_drew ?_))); (case side2 => exact HC0_0.out); (case side3 => repeat (first | exact (Kd.C_below HR0_1.out HB.out) | (with_reducible refine Kd.C_alloc ?_ _) | (with_reducible refine Kd.C_drewN ?_ _) | (with_reducible refine Kd.C_drew ?_))); (case side4 => exact HC0_1.out); rintro e w40 ⟨v309, v312, rfl, ho0, ho1, hb⟩; refine ⟨_, rfl, ?_⟩; have n0_ := Aside0.mk (Kd.R_lower ho0 (below_size (by repeat (first | (with_reducible first | exact HB.out | apply bwA | apply bwN | apply bwD | refine below_set ?_ GE306.out) | exact HB.out)))); have n1_ := Aside0.mk (Kd.R_lower ho1 (below_size (by repeat (first | (with_reducible first | exact HB.out | apply bwA | apply bwN | apply bwD | refine below_set ?_ GE306.out) | exact HB.out)))); have n2_ := Aside0.mk (blk_below (g := gb306) (o := .cells #[.slice A0_0 l0_0.length c0_0, .slice A0_1 l0_1.length c0_1] 52 (0, 0)) (bvK BK306.out) hb); have n3_ := Aside0.mk (below_step (by repeat (first | (with_reducible first | exact HB.out | apply bwA | apply bwN | apply bwD | refine below_set ?_ GE306.out) | exact HB.out)) hb); clear BK306; clear HB; have HO310 := n0_; have HO313 := n1_; have BK306 := n2_; have HB := n3_; clear n0_ n1_ n2_ n3_; (try clear hb); (try clear hb2); (try clear hk); (try clear hi); (try clear ho0); (try clear ho1); obtain ⟨Ao41, co41, eo41⟩ := Kd.R_slice HO310.out; subst eo41; obtain ⟨Ao42, co42, eo42⟩ := Kd.R_slice HO313.out; subst eo42) | ((with_reducible refine gate_callee (f := 34) rfl ?_); refine goesL_ (some 14) rfl rfl Try.func34 (by kernel_rfl) rfl #[.agg #[.slice Ao41 t308.length co41, .slice Ao42 t311.length co42]] rfl lmB ?_; (with_reducible refine (spec_SizeOf.calls k _ _ t308 _ _ t311 t314 _ ?side1 ?side2 ?side3 ?side4 A8.out).mono ?_); (case side1 => repeat (first | exact (Kd.R_reads' HO310.out).2.2 | (with_reducible refine Kd.C_alloc ?_ _) | (with_reducible refine Kd.C_drewN ?_ _) | (with_reducible refine Kd.C_drew ?_))); (case side2 => exact (Kd.R_reads' HO310.out).2.1); (case side3 => repeat (first | exact (Kd.R_reads' HO313.out).2.2 | (with_reducible refine Kd.C_alloc ?_ _) | (with_reducible refine Kd.C_drewN ?_ _) | (with_reducible refine Kd.C_drew ?_))); (case side4 => exact (Kd.R_reads' HO313.out).2.1); rintro e w43 ⟨rfl, hb⟩; refine ⟨_, rfl, ?_⟩; have n0_ := Aside0.mk (Kd.R_below (rvR HO310.out) hb); have n1_ := Aside0.mk (Kd.R_below (rvR HO313.out) hb); have n2_ := Aside0.mk (blk_below (g := gb306) (o := .cells #[.slice A0_0 l0_0.length c0_0, .slice A0_1 l0_1.length c0_1] 52 (0, 0)) (bvK BK306.out) hb); have n3_ := Aside0.mk (below_step (by repeat (first | (with_reducible first | exact HB.out | apply bwA | apply bwN | apply bwD | refine below_set ?_ GE306.out) | exact HB.out)) hb); clear HO310; clear HO313; clear BK306; clear HB; have HO310 := n0_; have HO313 := n1_; have BK306 := n2_; have HB := n3_; clear n0_ n1_ n2_ n3_; (try clear hb); (try clear hb2); (try clear hk); (try clear hi); have hcz44_0 : w43.cell? ⟨gb306, 0, none⟩ = some (.slice A0_0 l0_0.length c0_0) := (blk_cell BK306.out 0).trans rfl; have hcz44_1 : w43.cell? ⟨gb306, 1, none⟩ = some (.slice A0_1 l0_1.length c0_1) := (blk_cell BK306.out 1).trans rfl; have hfz44_0 := blk_frozen BK306.out 0; have hfz44_1 := blk_frozen BK306.out 1) | ((with_reducible refine gate_callee (f := 35) rfl ?_); refine goesL_ (some 16) rfl rfl Try.func35 (by kernel_rfl) rfl #[.agg #[.slice A0_0 l0_0.length c0_0, .slice A0_1 l0_1.length c0_1]] rfl lmB ?_; (with_reducible refine (laws_toSystem.calls k _ _ l0_0 _ _ l0_1 t315 t318 _ ?side1 ?side2 ?side3 ?side4 A9.out).mono ?_); (case side1 => repeat (first | exact (Kd.C_below HR0_0.out HB.out) | (with_reducible refine Kd.C_alloc ?_ _) | (with_reducible refine Kd.C_drewN ?_ _) | (with_reducible refine Kd.C_drew ?_))); (case side2 => exact HC0_0.out); (case side3 => repeat (first | exact (Kd.C_below HR0_1.out HB.out) | (with_reducible refine Kd.C_alloc ?_ _) | (with_reducible refine Kd.C_drewN ?_ _) | (with_reducible refine Kd.C_drew ?_))); (case side4 => exact HC0_1.out); rintro e w45 ⟨v316, v319, rfl, ho0, ho1, hb⟩; refine ⟨_, rfl, ?_⟩; have n0_ := Aside0.mk (Kd.R_elder' (rvR HO310.out) (Kd.R_base ho0) hb); have n1_ := Aside0.mk (Kd.R_elder' (rvR HO313.out) (Kd.R_base ho1) hb); have n2_ := Aside0.mk (Kd.R_lower (Kd.R_new' ho0 (Kd.R_lt (rvR HO310.out))) (below_size (by repeat (first | (with_reducible first | exact HB.out | apply bwA | apply bwN | apply bwD | refine below_set ?_ GE306.out) | exact HB.out)))); have n3_ := Aside0.mk (Kd.R_lower (Kd.R_new' ho1 (Kd.R_lt (rvR HO313.out))) (below_size (by repeat (first | (with_reducible first | exact HB.out | apply bwA | apply bwN | apply bwD | refine below_set ?_ GE306.out) | exact HB.out)))); have n4_ := Aside0.mk (blk_below (g := gb306) (o := .cells #[.slice A0_0 l0_0.length c0_0, .slice A0_1 l0_1.length c0_1] 52 (0, 0)) (bvK BK306.out) hb); have n5_ := Aside0.mk (below_step (by repeat (first | (with_reducible first | exact HB.out | apply bwA | apply bwN | apply bwD | refine below_set ?_ GE306.out) | exact HB.out)) hb); clear HO310; clear HO313; clear BK306; clear HB; have HO310 := n0_; have HO313 := n1_; have HO317 := n2_; have HO320 := n3_; have BK306 := n4_; have HB := n5_; clear n0_ n1_ n2_ n3_ n4_ n5_; (try clear hb); (try clear hb2); (try clear hk); (try clear hi); (try clear ho0); (try clear ho1)) | ((with_reducible refine gate_dst (N := 5) rfl ?_); refine box_event ?hg (N := 5) ?hd (cs := #[.slice none 0 0, .slice none 0 0]) (t := 58) ?hr ?_; (case hd => rfl); (case hg => rfl); (case hr => first | (go_simp; done) | (go_simp; rfl)); intro gb321 hg w46 hbox hb; have n0_ := Aside0.mk (Kd.R_below (rvR HO310.out) hb); have n1_ := Aside0.mk (Kd.R_below (rvR HO313.out) hb); have n2_ := Aside0.mk (Kd.R_below (rvR HO317.out) hb); have n3_ := Aside0.mk (Kd.R_below (rvR HO320.out) hb); have n4_ := Aside0.mk (blk_below (g := gb306) (o := .cells #[.slice A0_0 l0_0.length c0_0, .slice A0_1 l0_1.length c0_1] 52 (0, 0)) (bvK BK306.out) hb); have n5_ := Aside0.mk (below_step (by repeat (first | (with_reducible first | exact HB.out | apply bwA | apply bwN | apply bwD | refine below_set ?_ GE306.out) | exact HB.out)) hb); have n6_ := Aside0.mk (hbox); have n7_ := Aside0.mk ((by rw [hg]; exact (below_size (by repeat (first | (with_reducible first | exact HB.out | apply bwA | apply bwN | apply bwD | refine below_set ?_ GE306.out) | exact HB.out))) : w.heap.size ≤ gb321)); have n8_ := Aside0.mk ((by rw [hg]; exact (below_size (by repeat (first | (with_reducible first | exact HB.out | apply bwA | apply bwN | apply bwD | refine below_set ?_ GE306.out) | exact HB.out))) : w.heap.size ≤ gb321)); have n9_ := Aside0.mk ((by rw [hg]; exact Nat.ne_of_lt (blk_lt (g := gb306) (o := .cells #[.slice A0_0 l0_0.length c0_0, .slice A0_1 l0_1.length c0_1] 52 (0, 0)) (bvK BK306.out)) : gb306 ≠ gb321)); have n10_ := Aside0.mk ((by rw [hg]; exact Nat.ne_of_gt (blk_lt (g := gb306) (o := .cells #[.slice A0_0 l0_0.length c0_0, .slice A0_1 l0_1.length c0_1] 52 (0, 0)) (bvK BK306.out)) : gb321 ≠ gb306)); clear HO310; clear HO313; clear HO317; clear HO320; clear BK306; clear HB; have HO310 := n0_; have HO313 := n1_; have HO317 := n2_; have HO320 := n3_; have BK306 := n4_; have HB := n5_; have BK321 := n6_; have GW321 := n7_; have GE321 := n8_; have NB306_321 := n9_; have NB321_306 := n10_; clear n0_ n1_ n2_ n3_ n4_ n5_ n6_ n7_ n8_ n9_ n10_; clear hb hbox hg; obtain ⟨Ao47, co47, eo47⟩ := Kd.R_slice HO317.out; subst eo47; have hnb48 := NB321_306.out; have hnc48 := NB306_321.out; have hcz49_0 : w46.cell? ⟨gb321, 0, none⟩ = some (.slice none 0 0) := (blk_cell BK321.out 0).trans rfl; have hcz49_1 : w46.cell? ⟨gb321, 1, none⟩ = some (.slice none 0 0) := (blk_cell BK321.out 1).trans rfl; have hfz49_0 := blk_frozen BK321.out 0; have hfz49_1 := blk_frozen BK321.out 1; obtain ⟨Ao50, co50, eo50⟩ := Kd.R_slice HO320.out; subst eo50) | ((with_reducible refine gate_callee (f := 36) rfl ?_); refine goesL_ (some 18) rfl rfl Try.func36 (by kernel_rfl) rfl #[.agg #[.slice Ao47 t315.length co47, .slice Ao50 t318.length co50]] rfl lmB ?_; (with_reducible refine (impl_SizeOf.calls k _ _ t315 _ _ t318 t322 _ ?side1 ?side2 ?side3 ?side4 A10.out).mono ?_); (case side1 => refine (Kd.R_reads' (e := 99) (base := w.heap.size) (ok := fun k_ => (True ∧ some k_ ≠ (.slice Ao41 t308.length co41 : Value).ownBlock)) (n := t315.length) (c := co47) ?_).2.2; exact (by (with_reducible repeat (first | apply Kd.R_alloc | apply Kd.R_drewN | apply Kd.R_drew)); exact (Kd.R_mono (Kd.R_far (p := ⟨gb321, 1, none⟩) (Kd.R_far (p := ⟨gb321, 0, none⟩) (Kd.R_types HO317.out BK321.out (by decide)) (fun _ hk => hk.2) (.slice Ao47 t315.length co47)) (fun _ hk => hk.2) (.slice Ao50 t318.length co50)) (fun _ h_ => h_.1)))); (case side2 => exact (Kd.R_reads' HO317.out).2.1); (case side3 => refine (Kd.R_reads' (e := 109) (base := w.heap.size) (ok := fun k_ => (True ∧ some k_ ≠ (.slice Ao42 t311.length co42 : Value).ownBlock)) (n := t318.length) (c := co50) ?_).2.2; exact (by (with_reducible repeat (first | apply Kd.R_alloc | apply Kd.R_drewN | apply Kd.R_drew)); exact (Kd.R_mono (Kd.R_far (p := ⟨gb321, 1, none⟩) (Kd.R_far (p := ⟨gb321, 0, none⟩) (Kd.R_types HO320.out BK321.out (by decide)) (fun _ hk => hk.2) (.slice Ao47 t315.length co47)) (fun _ hk => hk.2) (.slice Ao50 t318.length co50)) (fun _ h_ => h_.1)))); (case side4 => exact (Kd.R_reads' HO320.out).2.1); rintro e w51 ⟨rfl, hb⟩; refine ⟨_, rfl, ?_⟩; have n0_ := Aside0.mk (Kd.R_below (by (with_reducible repeat (first | apply Kd.R_alloc | apply Kd.R_drewN | apply Kd.R_drew)); exact (Kd.R_mono (Kd.R_far (p := ⟨gb321, 1, none⟩) (Kd.R_far (p := ⟨gb321, 0, none⟩) (Kd.R_types HO310.out BK321.out (by decide)) (fun _ hk => hk.2) (.slice Ao47 t315.length co47)) (fun _ hk => hk.2) (.slice Ao50 t318.length co50)) (fun _ h_ => h_.1))) hb); have n1_ := Aside0.mk (Kd.R_below (by (with_reducible repeat (first | apply Kd.R_alloc | apply Kd.R_drewN | apply Kd.R_drew)); exact (Kd.R_mono (Kd.R_far (p := ⟨gb321, 1, none⟩) (Kd.R_far (p := ⟨gb321, 0, none⟩) (Kd.R_types HO313.out BK321.out (by decide)) (fun _ hk => hk.2) (.slice Ao47 t315.length co47)) (fun _ hk => hk.2) (.slice Ao50 t318.length co50)) (fun _ h_ => h_.1))) hb); have n2_ := Aside0.mk (Kd.R_below (by (with_reducible repeat (first | apply Kd.R_alloc | apply Kd.R_drewN | apply Kd.R_drew)); exact (Kd.R_mono (Kd.R_far (p := ⟨gb321, 1, none⟩) (Kd.R_far (p := ⟨gb321, 0, none⟩) (Kd.R_types HO317.out BK321.out (by decide)) (fun _ hk => hk.2) (.slice Ao47 t315.length co47)) (fun _ hk => hk.2) (.slice Ao50 t318.length co50)) (fun _ h_ => h_.1))) hb); have n3_ := Aside0.mk (Kd.R_below (by (with_reducible repeat (first | apply Kd.R_alloc | apply Kd.R_drewN | apply Kd.R_drew)); exact (Kd.R_mono (Kd.R_far (p := ⟨gb321, 1, none⟩) (Kd.R_far (p := ⟨gb321, 0, none⟩) (Kd.R_types HO320.out BK321.out (by decide)) (fun _ hk => hk.2) (.slice Ao47 t315.length co47)) (fun _ hk => hk.2) (.slice Ao50 t318.length co50)) (fun _ h_ => h_.1))) hb); have n4_ := Aside0.mk (blk_below (g := gb306) (o := .cells #[.slice A0_0 l0_0.length c0_0, .slice A0_1 l0_1.length c0_1] 52 (0, 0)) (by (with_reducible repeat (first | refine blk_drewN ?_ _ | refine blk_drew ?_ | refine blk_alloc ?_ _)); refine blk_far ?_ NB306_321.out _; (with_reducible repeat (first | refine blk_drewN ?_ _ | refine blk_drew ?_ | refine blk_alloc ?_ _)); refine blk_far ?_ NB306_321.out _; (with_reducible repeat (first | refine blk_drewN ?_ _ | refine blk_drew ?_ | refine blk_alloc ?_ _)); exact BK306.out) hb); have n5_ := Aside0.mk (blk_below (g := gb321) (o := .cells #[.slice Ao47 t315.length co47, .slice Ao50 t318.length co50] 58 (0, 0)) (by (with_reducible repeat (first | refine blk_drewN ?_ _ | refine blk_drew ?_ | refine blk_alloc ?_ _)); refine blk_put (cs := #[.slice Ao47 t315.length co47, .slice none 0 0]) ?_ 1 _ rfl; (with_reducible repeat (first | refine blk_drewN ?_ _ | refine blk_drew ?_ | refine blk_alloc ?_ _)); refine blk_put (cs := #[.slice none 0 0, .slice none 0 0]) ?_ 0 _ rfl; (with_reducible repeat (first | refine blk_drewN ?_ _ | refine blk_drew ?_ | refine blk_alloc ?_ _)); exact BK321.out) hb); have n6_ := Aside0.mk (below_step (by repeat (first | (with_reducible first | exact HB.out | apply bwA | apply bwN | apply bwD | refine below_set ?_ GE306.out | refine below_set ?_ GE321.out) | exact HB.out)) hb); clear HO310; clear HO313; clear HO317; clear HO320; clear BK306; clear BK321; clear HB; have HO310 := n0_; have HO313 := n1_; have HO317 := n2_; have HO320 := n3_; have BK306 := n4_; have BK321 := n5_; have HB := n6_; clear n0_ n1_ n2_ n3_ n4_ n5_ n6_; (try clear hb); (try clear hb2); (try clear hk); (try clear hi)))
    have n0_ := Aside0.mk (Kd.R_drew HO310.out)
    have n1_ := Aside0.mk (Kd.R_drew HO313.out)
    have n2_ := Aside0.mk (Kd.R_drew HO317.out)
    have n3_ := Aside0.mk (Kd.R_drew HO320.out)
    have n4_ := Aside0.mk (blk_drew BK306.out)
    have n5_ := Aside0.mk (blk_drew BK321.out)
    have n6_ := Aside0.mk (below_drew1 HB.out)
    clear HO310
    clear HO313
    clear HO317
    clear HO320
    clear BK306
    clear BK321
    clear HB
    have HO310 := n0_
    have HO313 := n1_
    have HO317 := n2_
    have HO320 := n3_
    have BK306 := n4_
    have BK321 := n5_
    have HB := n6_
    clear n0_ n1_ n2_ n3_ n4_ n5_ n6_
    refine start_ (n := 5) (S := fun w' => w'.cell? ⟨gb321, 0, none⟩ = some (.slice Ao47 t315.length co47) ∧ w'.cell? ⟨gb321, 1, none⟩ = some (.slice Ao50 t318.length co50) ∧ w'.cell? ⟨gb306, 0, none⟩ = some (.slice A0_0 l0_0.length c0_0) ∧ w'.cell? ⟨gb306, 1, none⟩ = some (.slice A0_1 l0_1.length c0_1)) (ds := []) #[false, false, false, false, false] (by kernel_rfl) rfl rfl ⟨(blk_cell BK321.out 0).trans rfl, (blk_cell BK321.out 1).trans rfl, (blk_cell BK306.out 0).trans rfl, (blk_cell BK306.out 1).trans rfl⟩ (fun hHeld => ?_)
    generalize w51.drew = w52 at HO310 HO313 HO317 HO320 BK306 BK321 HB hHeld ⊢
    refine take_ (i := 0) (N := some 22) (v := ?_) (a' := ?_) #[true, false, false, false, false] rfl rfl (by kernel_rfl) (fun _ _ _ h => h) (Or.inl ⟨by rfl, ?_⟩) hHeld ?_ ?_
    rotate_left
    ·rintro w' ⟨s0, s1, s2, s3⟩
     go_simp
     with_reducible rfl
    rotate_left
    ·simp only [Act.put, List.setIfInBounds_toArray, List.set_cons_zero, List.set_cons_succ, i64_w, i32_w]
     rfl
    refine take_ (i := 1) (N := some 23) (v := ?_) (a' := ?_) #[true, true, false, false, false] rfl rfl (by kernel_rfl) (fun _ _ _ h => h) (Or.inl ⟨by rfl, ?_⟩) hHeld ?_ ?_
    rotate_left
    ·rintro w' ⟨s0, s1, s2, s3⟩
     go_simp
     with_reducible rfl
    rotate_left
    ·simp only [Act.put, List.setIfInBounds_toArray, List.set_cons_zero, List.set_cons_succ, i64_w, i32_w]
     rfl
    refine one_ (i := 2) (N := some 24) #[true, true, true, false, false] rfl rfl (by kernel_rfl) (by decide) (fun K hK => ?_)
    refine goes_ Try.func35 (by kernel_rfl) rfl #[.agg #[.slice A0_0 l0_0.length c0_0, .slice A0_1 l0_1.length c0_1]] (by rfl) rfl rfl lmB ?_
    with_reducible refine (laws_toSystem.calls k _ _ l0_0 _ _ l0_1 t323 t326 _ ?side1 ?side2 ?side3 ?side4 A12.out).mono ?_
    (case side1 => repeat (first | exact (Kd.C_below HR0_0.out HB.out) | (with_reducible refine Kd.C_alloc ?_ _) | (with_reducible refine Kd.C_drewN ?_ _) | (with_reducible refine Kd.C_drew ?_)))
    (case side2 => exact HC0_0.out)
    (case side3 => repeat (first | exact (Kd.C_below HR0_1.out HB.out) | (with_reducible refine Kd.C_alloc ?_ _) | (with_reducible refine Kd.C_drewN ?_ _) | (with_reducible refine Kd.C_drew ?_)))
    (case side4 => exact HC0_1.out)
    rintro e w53 ⟨v324, v327, rfl, ho0, ho1, hb⟩
    refine ⟨_, rfl, ?_⟩
    have n0_ := Aside0.mk (Kd.R_elder' (rvR HO310.out) (Kd.R_base ho0) hb)
    have n1_ := Aside0.mk (Kd.R_elder' (rvR HO313.out) (Kd.R_base ho1) hb)
    have n2_ := Aside0.mk (Kd.R_elder' (rvR HO317.out) (Kd.R_base ho0) hb)
    have n3_ := Aside0.mk (Kd.R_elder' (rvR HO320.out) (Kd.R_base ho1) hb)
    have n4_ := Aside0.mk (Kd.R_lower (Kd.R_new' (Kd.R_new' ho0 (Kd.R_lt (rvR HO310.out))) (Kd.R_lt (rvR HO317.out))) (below_size (by repeat (first | (with_reducible first | exact HB.out | apply bwA | apply bwN | apply bwD | refine below_set ?_ GE306.out | refine below_set ?_ GE321.out) | exact HB.out))))
    have n5_ := Aside0.mk (Kd.R_lower (Kd.R_new' (Kd.R_new' ho1 (Kd.R_lt (rvR HO313.out))) (Kd.R_lt (rvR HO320.out))) (below_size (by repeat (first | (with_reducible first | exact HB.out | apply bwA | apply bwN | apply bwD | refine below_set ?_ GE306.out | refine below_set ?_ GE321.out) | exact HB.out))))
    have n6_ := Aside0.mk (blk_below (g := gb306) (o := .cells #[.slice A0_0 l0_0.length c0_0, .slice A0_1 l0_1.length c0_1] 52 (0, 0)) (bvK BK306.out) hb)
    have n7_ := Aside0.mk (blk_below (g := gb321) (o := .cells #[.slice Ao47 t315.length co47, .slice Ao50 t318.length co50] 58 (0, 0)) (bvK BK321.out) hb)
    have n8_ := Aside0.mk (below_step (by repeat (first | (with_reducible first | exact HB.out | apply bwA | apply bwN | apply bwD | refine below_set ?_ GE306.out | refine below_set ?_ GE321.out) | exact HB.out)) hb)
    clear HO310
    clear HO313
    clear HO317
    clear HO320
    clear BK306
    clear BK321
    clear HB
    have HO310 := n0_
    have HO313 := n1_
    have HO317 := n2_
    have HO320 := n3_
    have HO325 := n4_
    have HO328 := n5_
    have BK306 := n6_
    have BK321 := n7_
    have HB := n8_
    clear n0_ n1_ n2_ n3_ n4_ n5_ n6_ n7_ n8_
    (try clear hb)
    (try clear hb2)
    (try clear hk)
    (try clear hi)
    (try clear ho0)
    (try clear ho1)
    obtain ⟨Ao54, co54, eo54⟩ := Kd.R_slice HO325.out
    (first | subst eo54 | (injection eo54 with f1_ f2_ f3_; have f4_ := f1_.symm; have f5_ := f3_.symm; clear f1_ f2_ f3_; subst f4_; subst f5_))
    obtain ⟨Ao55, co55, eo55⟩ := Kd.R_slice HO328.out
    (first | subst eo55 | (injection eo55 with f1_ f2_ f3_; have f4_ := f1_.symm; have f5_ := f3_.symm; clear f1_ f2_ f3_; subst f4_; subst f5_))
    refine hK.out _ _ ⟨(blk_cell BK321.out 0).trans rfl, (blk_cell BK321.out 1).trans rfl, (blk_cell BK306.out 0).trans rfl, (blk_cell BK306.out 1).trans rfl⟩ (fun hHeld => ?_)
    clear hK K
    refine norm_ (a' := ?_) ?_ ?_
    rotate_left
    ·show Act.put _ (some 24) _ = _
     simp only [Act.put, List.setIfInBounds_toArray, List.set_cons_zero, List.set_cons_succ, i64_w, i32_w]
     rfl
    refine one_ (i := 3) (N := some 25) #[true, true, true, true, false] rfl rfl (by kernel_rfl) (by decide) (fun K hK => ?_)
    refine goes_ Try.func37 (by kernel_rfl) rfl #[.agg #[.slice Ao47 t315.length co47, .slice Ao50 t318.length co50], .agg #[.slice Ao54 t323.length co54, .slice Ao55 t326.length co55]] (by rfl) rfl rfl lmB ?_
    with_reducible refine (laws_eqSystem.calls k _ _ t315 _ _ t318 _ _ t323 _ _ t326 false _ ?side1 ?side2 ?side3 ?side4 ?side5 ?side6 ?side7 ?side8 A13.out).mono ?_
    (case side1 => repeat (first | exact (Kd.R_reads' HO317.out).2.2 | (with_reducible refine Kd.C_alloc ?_ _) | (with_reducible refine Kd.C_drewN ?_ _) | (with_reducible refine Kd.C_drew ?_)))
    (case side2 => exact (Kd.R_reads' HO317.out).2.1)
    (case side3 => repeat (first | exact (Kd.R_reads' HO320.out).2.2 | (with_reducible refine Kd.C_alloc ?_ _) | (with_reducible refine Kd.C_drewN ?_ _) | (with_reducible refine Kd.C_drew ?_)))
    (case side4 => exact (Kd.R_reads' HO320.out).2.1)
    (case side5 => repeat (first | exact (Kd.R_reads' HO325.out).2.2 | (with_reducible refine Kd.C_alloc ?_ _) | (with_reducible refine Kd.C_drewN ?_ _) | (with_reducible refine Kd.C_drew ?_)))
    (case side6 => exact (Kd.R_reads' HO325.out).2.1)
    (case side7 => repeat (first | exact (Kd.R_reads' HO328.out).2.2 | (with_reducible refine Kd.C_alloc ?_ _) | (with_reducible refine Kd.C_drewN ?_ _) | (with_reducible refine Kd.C_drew ?_)))
    (case side8 => exact (Kd.R_reads' HO328.out).2.1)
    rintro e w56 ⟨rfl, hb⟩
    refine ⟨_, rfl, ?_⟩
    have n0_ := Aside0.mk (Kd.R_below (rvR HO310.out) hb)
    have n1_ := Aside0.mk (Kd.R_below (rvR HO313.out) hb)
    have n2_ := Aside0.mk (Kd.R_below (rvR HO317.out) hb)
    have n3_ := Aside0.mk (Kd.R_below (rvR HO320.out) hb)
    have n4_ := Aside0.mk (Kd.R_below (rvR HO325.out) hb)
    have n5_ := Aside0.mk (Kd.R_below (rvR HO328.out) hb)
    have n6_ := Aside0.mk (blk_below (g := gb306) (o := .cells #[.slice A0_0 l0_0.length c0_0, .slice A0_1 l0_1.length c0_1] 52 (0, 0)) (bvK BK306.out) hb)
    have n7_ := Aside0.mk (blk_below (g := gb321) (o := .cells #[.slice Ao47 t315.length co47, .slice Ao50 t318.length co50] 58 (0, 0)) (bvK BK321.out) hb)
    have n8_ := Aside0.mk (below_step (by repeat (first | (with_reducible first | exact HB.out | apply bwA | apply bwN | apply bwD | refine below_set ?_ GE306.out | refine below_set ?_ GE321.out) | exact HB.out)) hb)
    clear HO310
    clear HO313
    clear HO317
    clear HO320
    clear HO325
    clear HO328
    clear BK306
    clear BK321
    clear HB
    have HO310 := n0_
    have HO313 := n1_
    have HO317 := n2_
    have HO320 := n3_
    have HO325 := n4_
    have HO328 := n5_
    have BK306 := n6_
    have BK321 := n7_
    have HB := n8_
    clear n0_ n1_ n2_ n3_ n4_ n5_ n6_ n7_ n8_
    (try clear hb)
    (try clear hb2)
    (try clear hk)
    (try clear hi)
    refine hK.out _ _ ⟨(blk_cell BK321.out 0).trans rfl, (blk_cell BK321.out 1).trans rfl, (blk_cell BK306.out 0).trans rfl, (blk_cell BK306.out 1).trans rfl⟩ (fun hHeld => ?_)
    clear hK K
    refine norm_ (a' := ?_) ?_ ?_
    rotate_left
    ·show Act.put _ (some 25) _ = _
     simp only [Act.put, List.setIfInBounds_toArray, List.set_cons_zero, List.set_cons_succ, i64_w, i32_w]
     rfl
    refine pure_ (i := 4) (N := some 26) (v := ?_) (a' := ?_) #[true, true, true, true, true] rfl rfl (by kernel_rfl) (fun _ _ _ h => h) (Or.inl ⟨by rfl, ?_⟩) ?_ ?_
    rotate_left
    ·intro w'
     go_simp
     with_reducible rfl
    rotate_left
    ·simp only [Act.put, List.setIfInBounds_toArray, List.set_cons_zero, List.set_cons_succ, i64_w, i32_w]
     rfl
    refine done_ (by kernel_rfl) ?_
    try go_wp2
    go_ret
    exact ⟨ers, by repeat (first | (with_reducible first | exact HB.out | apply bwA | apply bwN | apply bwD | refine below_set ?_ GE306.out | refine below_set ?_ GE321.out) | exact HB.out)⟩
  ·rw [if_neg c11] at H
   have c11b0 : (t322 == t314) = false := beq_eq_false_iff_ne.mpr c11
   have c11b1 : (t322 != t314) = true := bne_iff_ne.mpr c11
   obtain rfl := Option.some.inj H
   go_enter Try.func8, Try.ntmps8
   go_wp2_with (first | ((with_reducible refine gate_dst (N := 1) rfl ?_); refine box_event ?hg (N := 1) ?hd (cs := #[.slice A0_0 l0_0.length c0_0, .slice A0_1 l0_1.length c0_1]) (t := 52) ?hr ?_; (case hd => rfl); (case hg => rfl); (case hr => first | (go_simp; done) | (go_simp; rfl)); intro gb306 hg w57 hbox hb; have n0_ := Aside0.mk (below_step (by repeat (first | (with_reducible first | exact HB.out | apply bwA | apply bwN | apply bwD) | exact HB.out)) hb); have n1_ := Aside0.mk (hbox); have n2_ := Aside0.mk ((by rw [hg]; exact (below_size (by repeat (first | (with_reducible first | exact HB.out | apply bwA | apply bwN | apply bwD) | exact HB.out))) : w.heap.size ≤ gb306)); have n3_ := Aside0.mk ((by rw [hg]; exact (below_size (by repeat (first | (with_reducible first | exact HB.out | apply bwA | apply bwN | apply bwD) | exact HB.out))) : w.heap.size ≤ gb306)); clear HB; have HB := n0_; have BK306 := n1_; have GW306 := n2_; have GE306 := n3_; clear n0_ n1_ n2_ n3_; clear hb hbox hg; have hcz58_0 : w57.cell? ⟨gb306, 0, none⟩ = some (.slice A0_0 l0_0.length c0_0) := (blk_cell BK306.out 0).trans rfl; have hcz58_1 : w57.cell? ⟨gb306, 1, none⟩ = some (.slice A0_1 l0_1.length c0_1) := (blk_cell BK306.out 1).trans rfl; have hfz58_0 := blk_frozen BK306.out 0; have hfz58_1 := blk_frozen BK306.out 1) | ((with_reducible refine gate_callee (f := 33) rfl ?_); refine goesL_ (some 9) rfl rfl Try.func33 (by kernel_rfl) rfl #[.agg #[.slice A0_0 l0_0.length c0_0, .slice A0_1 l0_1.length c0_1], .int .i64 1048576] rfl lmB ?_; (with_reducible refine (laws_szSystem.calls k _ _ l0_0 _ _ l0_1 1048576 t307 _ ?side1 ?side2 ?side3 ?side4 A2.out).mono ?_); (case side1 => repeat (first | exact (Kd.C_below HR0_0.out HB.out) | (with_reducible refine Kd.C_alloc ?_ _) | (with_reducible refine Kd.C_drewN ?_ _) | (with_reducible refine Kd.C_drew ?_))); (case side2 => exact HC0_0.out); (case side3 => repeat (first | exact (Kd.C_below HR0_1.out HB.out) | (with_reducible refine Kd.C_alloc ?_ _) | (with_reducible refine Kd.C_drewN ?_ _) | (with_reducible refine Kd.C_drew ?_))); (case side4 => exact HC0_1.out); rintro e w59 ⟨rfl, hb⟩; refine ⟨_, rfl, ?_⟩; have n0_ := Aside0.mk (blk_below (g := gb306) (o := .cells #[.slice A0_0 l0_0.length c0_0, .slice A0_1 l0_1.length c0_1] 52 (0, 0)) (bvK BK306.out) hb); have n1_ := Aside0.mk (below_step (by repeat (first | (with_reducible first | exact HB.out | apply bwA | apply bwN | apply bwD | refine below_set ?_ GE306.out) | exact HB.out)) hb); clear BK306; clear HB; have BK306 := n0_; have HB := n1_; clear n0_ n1_; (try clear hb); (try clear hb2); (try clear hk); (try clear hi); have hcz60_0 : w59.cell? ⟨gb306, 0, none⟩ = some (.slice A0_0 l0_0.length c0_0) := (blk_cell BK306.out 0).trans rfl; have hcz60_1 : w59.cell? ⟨gb306, 1, none⟩ = some (.slice A0_1 l0_1.length c0_1) := (blk_cell BK306.out 1).trans rfl; have hfz60_0 := blk_frozen BK306.out 0; have hfz60_1 := blk_frozen BK306.out 1) | ((with_reducible refine gate_callee (f := 35) rfl ?_); refine goesL_ (some 13) rfl rfl Try.func35 (by kernel_rfl) rfl #[.agg #[.slice A0_0 l0_0.length c0_0, .slice A0_1 l0_1.length c0_1]] rfl lmB ?_; (with_reducible refine (laws_toSystem.calls k _ _ l0_0 _ _ l0_1 t308 t311 _ ?side1 ?side2 ?side3 ?side4 A7.out).mono ?_); (case side1 => repeat (first | exact (Kd.C_below HR0_0.out HB.out) | (with_reducible refine Kd.C_alloc ?_ _) | (with_reducible refine Kd.C_drewN ?_ _) | (with_reducible refine Kd.C_drew ?_))); (case side2 => exact HC0_0.out); (case side3 => repeat (first | exact (Kd.C_below HR0_1.out HB.out) | (with_reducible refine Kd.C_alloc ?_ _) | (with_reducible refine Kd.C_drewN ?_ _) | (with_reducible refine Kd.C_drew ?_))); (case side4 => exact HC0_1.out); rintro e w61 ⟨v309, v312, rfl, ho0, ho1, hb⟩; refine ⟨_, rfl, ?_⟩; have n0_ := Aside0.mk (Kd.R_lower ho0 (below_size (by repeat (first | (with_reducible first | exact HB.out | apply bwA | apply bwN | apply bwD | refine below_set ?_ GE306.out) | exact HB.out)))); have n1_ := Aside0.mk (Kd.R_lower ho1 (below_size (by repeat (first | (with_reducible first | exact HB.out | apply bwA | apply bwN | apply bwD | refine below_set ?_ GE306.out) | exact HB.out)))); have n2_ := Aside0.mk (blk_below (g := gb306) (o := .cells #[.slice A0_0 l0_0.length c0_0, .slice A0_1 l0_1.length c0_1] 52 (0, 0)) (bvK BK306.out) hb); have n3_ := Aside0.mk (below_step (by repeat (first | (with_reducible first | exact HB.out | apply bwA | apply bwN | apply bwD | refine below_set ?_ GE306.out) | exact HB.out)) hb); clear BK306; clear HB; have HO310 := n0_; have HO313 := n1_; have BK306 := n2_; have HB := n3_; clear n0_ n1_ n2_ n3_; (try clear hb); (try clear hb2); (try clear hk); (try clear hi); (try clear ho0); (try clear ho1); obtain ⟨Ao62, co62, eo62⟩ := Kd.R_slice HO310.out; subst eo62; obtain ⟨Ao63, co63, eo63⟩ := Kd.R_slice HO313.out; subst eo63) | ((with_reducible refine gate_callee (f := 34) rfl ?_); refine goesL_ (some 14) rfl rfl Try.func34 (by kernel_rfl) rfl #[.agg #[.slice Ao62 t308.length co62, .slice Ao63 t311.length co63]] rfl lmB ?_; (with_reducible refine (spec_SizeOf.calls k _ _ t308 _ _ t311 t314 _ ?side1 ?side2 ?side3 ?side4 A8.out).mono ?_); (case side1 => repeat (first | exact (Kd.R_reads' HO310.out).2.2 | (with_reducible refine Kd.C_alloc ?_ _) | (with_reducible refine Kd.C_drewN ?_ _) | (with_reducible refine Kd.C_drew ?_))); (case side2 => exact (Kd.R_reads' HO310.out).2.1); (case side3 => repeat (first | exact (Kd.R_reads' HO313.out).2.2 | (with_reducible refine Kd.C_alloc ?_ _) | (with_reducible refine Kd.C_drewN ?_ _) | (with_reducible refine Kd.C_drew ?_))); (case side4 => exact (Kd.R_reads' HO313.out).2.1); rintro e w64 ⟨rfl, hb⟩; refine ⟨_, rfl, ?_⟩; have n0_ := Aside0.mk (Kd.R_below (rvR HO310.out) hb); have n1_ := Aside0.mk (Kd.R_below (rvR HO313.out) hb); have n2_ := Aside0.mk (blk_below (g := gb306) (o := .cells #[.slice A0_0 l0_0.length c0_0, .slice A0_1 l0_1.length c0_1] 52 (0, 0)) (bvK BK306.out) hb); have n3_ := Aside0.mk (below_step (by repeat (first | (with_reducible first | exact HB.out | apply bwA | apply bwN | apply bwD | refine below_set ?_ GE306.out) | exact HB.out)) hb); clear HO310; clear HO313; clear BK306; clear HB; have HO310 := n0_; have HO313 := n1_; have BK306 := n2_; have HB := n3_; clear n0_ n1_ n2_ n3_; (try clear hb); (try clear hb2); (try clear hk); (try clear hi); have hcz65_0 : w64.cell? ⟨gb306, 0, none⟩ = some (.slice A0_0 l0_0.length c0_0) := (blk_cell BK306.out 0).trans rfl; have hcz65_1 : w64.cell? ⟨gb306, 1, none⟩ = some (.slice A0_1 l0_1.length c0_1) := (blk_cell BK306.out 1).trans rfl; have hfz65_0 := blk_frozen BK306.out 0; have hfz65_1 := blk_frozen BK306.out 1) | ((with_reducible refine gate_callee (f := 35) rfl ?_); refine goesL_ (some 16) rfl rfl Try.func35 (by kernel_rfl) rfl #[.agg #[.slice A0_0 l0_0.length c0_0, .slice A0_1 l0_1.length c0_1]] rfl lmB ?_; (with_reducible refine (laws_toSystem.calls k _ _ l0_0 _ _ l0_1 t315 t318 _ ?side1 ?side2 ?side3 ?side4 A9.out).mono ?_); (case side1 => repeat (first | exact (Kd.C_below HR0_0.out HB.out) | (with_reducible refine Kd.C_alloc ?_ _) | (with_reducible refine Kd.C_drewN ?_ _) | (with_reducible refine Kd.C_drew ?_))); (case side2 => exact HC0_0.out); (case side3 => repeat (first | exact (Kd.C_below HR0_1.out HB.out) | (with_reducible refine Kd.C_alloc ?_ _) | (with_reducible refine Kd.C_drewN ?_ _) | (with_reducible refine Kd.C_drew ?_))); (case side4 => exact HC0_1.out); rintro e w66 ⟨v316, v319, rfl, ho0, ho1, hb⟩; refine ⟨_, rfl, ?_⟩; have n0_ := Aside0.mk (Kd.R_elder' (rvR HO310.out) (Kd.R_base ho0) hb); have n1_ := Aside0.mk (Kd.R_elder' (rvR HO313.out) (Kd.R_base ho1) hb); have n2_ := Aside0.mk (Kd.R_lower (Kd.R_new' ho0 (Kd.R_lt (rvR HO310.out))) (below_size (by repeat (first | (with_reducible first | exact HB.out | apply bwA | apply bwN | apply bwD | refine below_set ?_ GE306.out) | exact HB.out)))); have n3_ := Aside0.mk (Kd.R_lower (Kd.R_new' ho1 (Kd.R_lt (rvR HO313.out))) (below_size (by repeat (first | (with_reducible first | exact HB.out | apply bwA | apply bwN | apply bwD | refine below_set ?_ GE306.out) | exact HB.out)))); have n4_ := Aside0.mk (blk_below (g := gb306) (o := .cells #[.slice A0_0 l0_0.length c0_0, .slice A0_1 l0_1.length c0_1] 52 (0, 0)) (bvK BK306.out) hb); have n5_ := Aside0.mk (below_step (by repeat (first | (with_reducible first | exact HB.out | apply bwA | apply bwN | apply bwD | refine below_set ?_ GE306.out) | exact HB.out)) hb); clear HO310; clear HO313; clear BK306; clear HB; have HO310 := n0_; have HO313 := n1_; have HO317 := n2_; have HO320 := n3_; have BK306 := n4_; have HB := n5_; clear n0_ n1_ n2_ n3_ n4_ n5_; (try clear hb); (try clear hb2); (try clear hk); (try clear hi); (try clear ho0); (try clear ho1)) | ((with_reducible refine gate_dst (N := 5) rfl ?_); refine box_event ?hg (N := 5) ?hd (cs := #[.slice none 0 0, .slice none 0 0]) (t := 58) ?hr ?_; (case hd => rfl); (case hg => rfl); (case hr => first | (go_simp; done) | (go_simp; rfl)); intro gb321 hg w67 hbox hb; have n0_ := Aside0.mk (Kd.R_below (rvR HO310.out) hb); have n1_ := Aside0.mk (Kd.R_below (rvR HO313.out) hb); have n2_ := Aside0.mk (Kd.R_below (rvR HO317.out) hb); have n3_ := Aside0.mk (Kd.R_below (rvR HO320.out) hb); have n4_ := Aside0.mk (blk_below (g := gb306) (o := .cells #[.slice A0_0 l0_0.length c0_0, .slice A0_1 l0_1.length c0_1] 52 (0, 0)) (bvK BK306.out) hb); have n5_ := Aside0.mk (below_step (by repeat (first | (with_reducible first | exact HB.out | apply bwA | apply bwN | apply bwD | refine below_set ?_ GE306.out) | exact HB.out)) hb); have n6_ := Aside0.mk (hbox); have n7_ := Aside0.mk ((by rw [hg]; exact (below_size (by repeat (first | (with_reducible first | exact HB.out | apply bwA | apply bwN | apply bwD | refine below_set ?_ GE306.out) | exact HB.out))) : w.heap.size ≤ gb321)); have n8_ := Aside0.mk ((by rw [hg]; exact (below_size (by repeat (first | (with_reducible first | exact HB.out | apply bwA | apply bwN | apply bwD | refine below_set ?_ GE306.out) | exact HB.out))) : w.heap.size ≤ gb321)); have n9_ := Aside0.mk ((by rw [hg]; exact Nat.ne_of_lt (blk_lt (g := gb306) (o := .cells #[.slice A0_0 l0_0.length c0_0, .slice A0_1 l0_1.length c0_1] 52 (0, 0)) (bvK BK306.out)) : gb306 ≠ gb321)); have n10_ := Aside0.mk ((by rw [hg]; exact Nat.ne_of_gt (blk_lt (g := gb306) (o := .cells #[.slice A0_0 l0_0.length c0_0, .slice A0_1 l0_1.length c0_1] 52 (0, 0)) (bvK BK306.out)) : gb321 ≠ gb306)); clear HO310; clear HO313; clear HO317; clear HO320; clear BK306; clear HB; have HO310 := n0_; have HO313 := n1_; have HO317 := n2_; have HO320 := n3_; have BK306 := n4_; have HB := n5_; have BK321 := n6_; have GW321 := n7_; have GE321 := n8_; have NB306_321 := n9_; have NB321_306 := n10_; clear n0_ n1_ n2_ n3_ n4_ n5_ n6_ n7_ n8_ n9_ n10_; clear hb hbox hg; obtain ⟨Ao68, co68, eo68⟩ := Kd.R_slice HO317.out; subst eo68; have hnb69 := NB321_306.out; have hnc69 := NB306_321.out; have hcz70_0 : w67.cell? ⟨gb321, 0, none⟩ = some (.slice none 0 0) := (blk_cell BK321.out 0).trans rfl; have hcz70_1 : w67.cell? ⟨gb321, 1, none⟩ = some (.slice none 0 0) := (blk_cell BK321.out 1).trans rfl; have hfz70_0 := blk_frozen BK321.out 0; have hfz70_1 := blk_frozen BK321.out 1; obtain ⟨Ao71, co71, eo71⟩ := Kd.R_slice HO320.out; subst eo71) | ((with_reducible refine gate_callee (f := 36) rfl ?_); refine goesL_ (some 18) rfl rfl Try.func36 (by kernel_rfl) rfl #[.agg #[.slice Ao68 t315.length co68, .slice Ao71 t318.length co71]] rfl lmB ?_; (with_reducible refine (impl_SizeOf.calls k _ _ t315 _ _ t318 t322 _ ?side1 ?side2 ?side3 ?side4 A10.out).mono ?_); (case side1 => refine (Kd.R_reads' (e := 99) (base := w.heap.size) (ok := fun k_ => (True ∧ some k_ ≠ (.slice Ao62 t308.length co62 : Value).ownBlock)) (n := t315.length) (c := co68) ?_).2.2; exact (by (with_reducible repeat (first | apply Kd.R_alloc | apply Kd.R_drewN | apply Kd.R_drew)); exact (Kd.R_mono (Kd.R_far (p := ⟨gb321, 1, none⟩) (Kd.R_far (p := ⟨gb321, 0, none⟩) (Kd.R_types HO317.out BK321.out (by decide)) (fun _ hk => hk.2) (.slice Ao68 t315.length co68)) (fun _ hk => hk.2) (.slice Ao71 t318.length co71)) (fun _ h_ => h_.1)))); (case side2 => exact (Kd.R_reads' HO317.out).2.1); (case side3 => refine (Kd.R_reads' (e := 109) (base := w.heap.size) (ok := fun k_ => (True ∧ some k_ ≠ (.slice Ao63 t311.length co63 : Value).ownBlock)) (n := t318.length) (c := co71) ?_).2.2; exact (by (with_reducible repeat (first | apply Kd.R_alloc | apply Kd.R_drewN | apply Kd.R_drew)); exact (Kd.R_mono (Kd.R_far (p := ⟨gb321, 1, none⟩) (Kd.R_far (p := ⟨gb321, 0, none⟩) (Kd.R_types HO320.out BK321.out (by decide)) (fun _ hk => hk.2) (.slice Ao68 t315.length co68)) (fun _ hk => hk.2) (.slice Ao71 t318.length co71)) (fun _ h_ => h_.1)))); (case side4 => exact (Kd.R_reads' HO320.out).2.1); rintro e w72 ⟨rfl, hb⟩; refine ⟨_, rfl, ?_⟩; have n0_ := Aside0.mk (Kd.R_below (by (with_reducible repeat (first | apply Kd.R_alloc | apply Kd.R_drewN | apply Kd.R_drew)); exact (Kd.R_mono (Kd.R_far (p := ⟨gb321, 1, none⟩) (Kd.R_far (p := ⟨gb321, 0, none⟩) (Kd.R_types HO310.out BK321.out (by decide)) (fun _ hk => hk.2) (.slice Ao68 t315.length co68)) (fun _ hk => hk.2) (.slice Ao71 t318.length co71)) (fun _ h_ => h_.1))) hb); have n1_ := Aside0.mk (Kd.R_below (by (with_reducible repeat (first | apply Kd.R_alloc | apply Kd.R_drewN | apply Kd.R_drew)); exact (Kd.R_mono (Kd.R_far (p := ⟨gb321, 1, none⟩) (Kd.R_far (p := ⟨gb321, 0, none⟩) (Kd.R_types HO313.out BK321.out (by decide)) (fun _ hk => hk.2) (.slice Ao68 t315.length co68)) (fun _ hk => hk.2) (.slice Ao71 t318.length co71)) (fun _ h_ => h_.1))) hb); have n2_ := Aside0.mk (Kd.R_below (by (with_reducible repeat (first | apply Kd.R_alloc | apply Kd.R_drewN | apply Kd.R_drew)); exact (Kd.R_mono (Kd.R_far (p := ⟨gb321, 1, none⟩) (Kd.R_far (p := ⟨gb321, 0, none⟩) (Kd.R_types HO317.out BK321.out (by decide)) (fun _ hk => hk.2) (.slice Ao68 t315.length co68)) (fun _ hk => hk.2) (.slice Ao71 t318.length co71)) (fun _ h_ => h_.1))) hb); have n3_ := Aside0.mk (Kd.R_below (by (with_reducible repeat (first | apply Kd.R_alloc | apply Kd.R_drewN | apply Kd.R_drew)); exact (Kd.R_mono (Kd.R_far (p := ⟨gb321, 1, none⟩) (Kd.R_far (p := ⟨gb321, 0, none⟩) (Kd.R_types HO320.out BK321.out (by decide)) (fun _ hk => hk.2) (.slice Ao68 t315.length co68)) (fun _ hk => hk.2) (.slice Ao71 t318.length co71)) (fun _ h_ => h_.1))) hb); have n4_ := Aside0.mk (blk_below (g := gb306) (o := .cells #[.slice A0_0 l0_0.length c0_0, .slice A0_1 l0_1.length c0_1] 52 (0, 0)) (by (with_reducible repeat (first | refine blk_drewN ?_ _ | refine blk_drew ?_ | refine blk_alloc ?_ _)); refine blk_far ?_ NB306_321.out _; (with_reducible repeat (first | refine blk_drewN ?_ _ | refine blk_drew ?_ | refine blk_alloc ?_ _)); refine blk_far ?_ NB306_321.out _; (with_reducible repeat (first | refine blk_drewN ?_ _ | refine blk_drew ?_ | refine blk_alloc ?_ _)); exact BK306.out) hb); have n5_ := Aside0.mk (blk_below (g := gb321) (o := .cells #[.slice Ao68 t315.length co68, .slice Ao71 t318.length co71] 58 (0, 0)) (by (with_reducible repeat (first | refine blk_drewN ?_ _ | refine blk_drew ?_ | refine blk_alloc ?_ _)); refine blk_put (cs := #[.slice Ao68 t315.length co68, .slice none 0 0]) ?_ 1 _ rfl; (with_reducible repeat (first | refine blk_drewN ?_ _ | refine blk_drew ?_ | refine blk_alloc ?_ _)); refine blk_put (cs := #[.slice none 0 0, .slice none 0 0]) ?_ 0 _ rfl; (with_reducible repeat (first | refine blk_drewN ?_ _ | refine blk_drew ?_ | refine blk_alloc ?_ _)); exact BK321.out) hb); have n6_ := Aside0.mk (below_step (by repeat (first | (with_reducible first | exact HB.out | apply bwA | apply bwN | apply bwD | refine below_set ?_ GE306.out | refine below_set ?_ GE321.out) | exact HB.out)) hb); clear HO310; clear HO313; clear HO317; clear HO320; clear BK306; clear BK321; clear HB; have HO310 := n0_; have HO313 := n1_; have HO317 := n2_; have HO320 := n3_; have BK306 := n4_; have BK321 := n5_; have HB := n6_; clear n0_ n1_ n2_ n3_ n4_ n5_ n6_; (try clear hb); (try clear hb2); (try clear hk); (try clear hi)))
   go_ret
   exact ⟨ers, by repeat (first | (with_reducible first | exact HB.out | apply bwA | apply bwN | apply bwD | refine below_set ?_ GE306.out | refine below_set ?_ GE321.out) | exact HB.out)⟩
def GoodIi64 (x : Int) : Prop := (Lit.int .i64 x).wf = true
def GoodS133 (x : S133) : Prop := GoodIi64 x.f0 ∧ GoodIi64 x.f1 ∧ GoodIi64 x.f2
def GoodL12 (x : List (S133)) : Prop := (x.length ≤ maxLen ∧ ∀ x_ ∈ x, GoodS133 x_)
def GoodS75 (x : S75) : Prop := GoodIi64 x.f0 ∧ GoodIi64 x.f1 ∧ GoodIi64 x.f2 ∧ GoodIi64 x.f3
def GoodL3 (x : List (S75)) : Prop := (x.length ≤ maxLen ∧ ∀ x_ ∈ x, GoodS75 x_)
def GoodL4 (x : List Int) : Prop := (x.length ≤ maxLen ∧ ∀ x_ ∈ x, GoodIi64 x_)
def GoodL5 (x : List (List (S75))) : Prop := (x.length ≤ maxLen ∧ ∀ x_ ∈ x, GoodL3 x_)
def GoodS131 (x : S131) : Prop := GoodL3 x.f0 ∧ GoodL4 x.f1 ∧ GoodL5 x.f2
def GoodL13 (x : List (S131)) : Prop := (x.length ≤ maxLen ∧ ∀ x_ ∈ x, GoodS131 x_)
/-- THE ONE PURE STATEMENT of laws_FnExactSizeOf. -/
def laws_FnExactSizeOf.Pure : Prop := ∀ (l0_0 : List (S133)) (l0_1 : List (S131)), GoodL12 l0_0 → GoodL13 l0_1 → ∃ k, laws_FnExactSizeOf.f k l0_0 l0_1 = some true
theorem laws_FnExactSizeOf.walk (P : laws_FnExactSizeOf.Pure) (A0_0 : Option Addr) (c0_0 : Nat) (l0_0 : List (S133)) (A0_1 : Option Addr) (c0_1 : Nat) (l0_1 : List (S131)) (w : World) (hr0_0 : Kd.C k133 w A0_0 l0_0.length l0_0) (hc0_0 : l0_0.length ≤ c0_0) (hr0_1 : Kd.C k131 w A0_1 l0_1.length l0_1) (hc0_1 : l0_1.length ≤ c0_1) (g0_0 : GoodL12 l0_0) (g0_1 : GoodL13 l0_1) :
  Calls Try.prog 8 #[.agg #[.slice A0_0 l0_0.length c0_0, .slice A0_1 l0_1.length c0_1]] w fun e w' => e = .returned (.bool true) ∧ Below w.heap.size w w' := by
 obtain ⟨k, h⟩ := P l0_0 l0_1 g0_0 g0_1
 refine (laws_FnExactSizeOf.calls k _ _ l0_0 _ _ l0_1 true w hr0_0 hc0_0 hr0_1 hc0_1 h).mono ?_
 rintro e w' ⟨rfl, hd⟩
 exact ⟨rfl, hd⟩

end Go.Proofs.Ytpfkgmcbogcmoaa.QFnExactSizeOf
